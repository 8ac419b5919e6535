import Derived.Test.YtealkahefalaeaaGreatDoorSubsetFindsE3
namespace Go.Proofs.YtealkahefalaeaaGreatDoor
open Go Go.Eng
set_option maxRecDepth 100000
abbrev Za := List ((List Int) × (Int × Int × Int × Int) × Int × Int)
abbrev Zb := List (List Int)
abbrev Zc := List Int
abbrev Zf := List Bool
abbrev Zg := List (ByteArray × Int)
abbrev Zd := Int × Int × Int × Int
def tab_math_bits_deBruijn64tab : List Int := [0, 1, 56, 2, 57, 49, 28, 3, 61, 58, 42, 50, 38, 29, 17, 4, 62, 47, 59, 36, 45, 43, 51, 22, 53, 39, 33, 30, 24, 18, 12, 5, 63, 55, 48, 27, 60, 41, 37, 16, 46, 35, 44, 21, 52, 32, 23, 11, 54, 26, 40, 15, 34, 20, 31, 10, 25, 14, 19, 9, 13, 8, 7, 6]
def errIds : List Nat := [0, 1, 2, 3, 4, 5, 6, 7, 8, 9, 10, 11, 12, 13, 14, 15, 16, 17]
def F_44 (_N : Nat)  (x1 : Int) (x2 : Int) : Option Bool :=
((if (decide (x1 < 0)) = true then (
some true)
else (
some (decide (x1 ≥ x2)))) : Option Bool) >>= fun x3 =>
some x3
def F_32 (N : Nat) (x1 : Zc) (x2 : Int) (x3 : Int) : Option (Int ⊕ (Unit ⊕ Int)) :=
if (decide (x3 < (x1.length : Int))) = true then (
idx x1 x3 >>= fun x4 =>
F_44 N x4 x2 >>= fun x5 =>
if x5 = true then (
some (.inr (.inr x3)))
else (
some (.inl (w64 (x3 + 1)))))
else (
some (.inr (.inl ())))
def F_2 (N : Nat)  (x1 : Zc) (x2 : Int) : Option Int :=
((iterO N (fun s => F_32 N x1 x2 s) 0) : Option (Unit ⊕ Int)) >>= fun z => match z with
| .inr z => some z
| .inl _ =>
some (-1)
def F_12 (N : Nat)  (x1 : Zc) (x2 : Int) : Option Bool :=
F_2 N x1 x2 >>= fun x3 =>
some (decide (x3 ≥ 0))
def F_94 (_N : Nat)  (x1 : Int) : Option Bool :=
((if (decide (x1 < (-1))) = true then (
some true)
else (
some (decide (x1 ≥ 48)))) : Option Bool) >>= fun x2 =>
some x2
def F_77 (N : Nat) (x1 : Zc) (x2 : Int) : Option (Int ⊕ (Unit ⊕ Int)) :=
if (decide (x2 < (x1.length : Int))) = true then (
idx x1 x2 >>= fun x3 =>
F_94 N x3 >>= fun x4 =>
if x4 = true then (
some (.inr (.inr x2)))
else (
some (.inl (w64 (x2 + 1)))))
else (
some (.inr (.inl ())))
def F_30 (N : Nat)  (x1 : Zc) : Option Int :=
((iterO N (fun s => F_77 N x1 s) 0) : Option (Unit ⊕ Int)) >>= fun z => match z with
| .inr z => some z
| .inl _ =>
some (-1)
def F_91 (N : Nat)  (x1 : Zc) : Option Bool :=
F_30 N x1 >>= fun x2 =>
some (decide (x2 ≥ 0))
def F_79 (N : Nat) (x1 : Zb) (x2 : Int) : Option (Int ⊕ (Unit ⊕ Bool)) :=
if (decide (x2 < (x1.length : Int))) = true then (
idx x1 x2 >>= fun x3 =>
F_12 N x3 (x1.length : Int) >>= fun x4 =>
if x4 = true then (
some (.inr (.inr false)))
else (
some (.inl (w64 (x2 + 1)))))
else (
some (.inr (.inl ())))
def F_7 (N : Nat)  (x1 : Zb) (x2 : Zc) (x3 : Zc) : Option Bool :=
((if (decide ((x1.length : Int) < 1)) = true then (
some true)
else (
if (decide ((x1.length : Int) > 200)) = true then (
some true)
else (
if ((x2.length : Int) != (x1.length : Int)) = true then (
some true)
else (
if (decide ((x3.length : Int) < 1)) = true then (
some true)
else (
some (decide ((x3.length : Int) > 8))))))) : Option Bool) >>= fun x4 =>
if x4 = true then (
some false)
else (
((iterO N (fun s => F_79 N x1 s) 0) : Option (Unit ⊕ Bool)) >>= fun z => match z with
| .inr z => some z
| .inl _ =>
((F_91 N x2 >>= fun x5 =>
if x5 = true then (
some true)
else (
F_12 N x3 (x1.length : Int) >>= fun x6 =>
some x6)) : Option Bool) >>= fun x7 =>
if x7 = true then (
some false)
else (
((idx x1 0 >>= fun x8 =>
if (x8 == (List.replicate 256 0)) = true then (
idx x2 0 >>= fun x9 =>
some (x9 == (-1)))
else (
some false)) : Option Bool) >>= fun x10 =>
some x10))
def F_92 (_N : Nat)  (_x2 : Zb) (_x5 : Zc) (x1 : Zc) (x2 : Int) : Option Int :=
((if (decide (x2 < 0)) = true then (
some true)
else (
some (decide (x2 ≥ (x1.length : Int))))) : Option Bool) >>= fun x3 =>
if x3 = true then (
some 0)
else (
idx x1 x2 >>= fun x4 =>
some x4)
def F_93 (_N : Nat)  (x1 : Zb) (_x5 : Zc) (_x8 : Zc) (x2 : Int) (x3 : Int) : Option Int :=
((if (decide (x2 < 0)) = true then (
some true)
else (
some (decide (x2 ≥ (x1.length : Int))))) : Option Bool) >>= fun x4 =>
if x4 = true then (
some 0)
else (
idx x1 x2 >>= fun x5 =>
idx x5 x3 >>= fun x6 =>
some x6)
def F_57 (N : Nat) (x1 : Zb) (x2 : Zc) (x3 : Zc) (x4 : Zc) (x5 : Int) (x6 : Int) : Option ((Int × Int) ⊕ Int) :=
if (decide (x5 < (x4.length : Int))) = true then (
idx x4 x5 >>= fun x7 =>
F_93 N x1 x2 x3 x6 x7 >>= fun x8 =>
some (.inl (w64 (x5 + 1), x8)))
else (
some (.inr x6))
def F_24 (N : Nat)  (x1 : Zb) (x2 : Zc) (x3 : Zc) (x4 : Int) (x5 : Zc) : Option Int :=
F_7 N x1 x2 x3 >>= fun x6 =>
if (!x6) = true then (
some (-1))
else (
F_92 N x1 x2 x3 x4 >>= fun x7 =>
((iterO N (fun s => F_57 N x1 x2 x3 x5 s.1 s.2) (0, x7)) : Option Int) >>= fun x8 =>
idx x2 x8 >>= fun x9 =>
some x9)
def F_65 (_N : Nat) (x1 : Za) (x2 : Int) (x3 : Za) : Option ((Int × Za) ⊕ (Za ⊕ (Za × Bool))) :=
if (decide (x2 < (x1.length : Int))) = true then (
idx x1 x2 >>= fun x4 =>
if (decide ((x4.1.length : Int) > 100)) = true then (
some (.inr (.inr (x3, false))))
else (
app x3 ([(x4.1, (x4.2.1.1, x4.2.1.2.1, x4.2.1.2.2.1, x4.2.1.2.2.2), x4.2.2.1, x4.2.2.2)]) >>= fun x5 =>
some (.inl (w64 (x2 + 1), x5))))
else (
some (.inr (.inl x3)))
def F_27 (N : Nat)  (x1 : Za) (x2 : Zc) (x3 : Int) : Option (Za × Bool) :=
((if (decide ((x2.length : Int) > 20)) = true then (
some true)
else (
some (decide ((x1.length : Int) > x3)))) : Option Bool) >>= fun x4 =>
if x4 = true then (
some ([], false))
else (
((iterO N (fun s => F_65 N x1 s.1 s.2) (0, [])) : Option (Za ⊕ (Za × Bool))) >>= fun z => match z with
| .inr z => some z
| .inl x5 =>
some (x5, true))
def F_68 (_N : Nat) (x1 : Za) (x2 : Zc) (x3 : Int) : Option (Int ⊕ (Unit ⊕ Bool)) :=
if (decide (x3 < (x2.length : Int))) = true then (
idx x2 x3 >>= fun x4 =>
((if (decide (x4 < 0)) = true then (
some true)
else (
some (decide (x4 ≥ (x1.length : Int))))) : Option Bool) >>= fun x5 =>
if x5 = true then (
some (.inr (.inr false)))
else (
some (.inl (w64 (x3 + 1)))))
else (
some (.inr (.inl ())))
def F_70 (_N : Nat) (x1 : Za) (x2 : (Zc × Zd × Int × Int)) (x3 : Int) : Option (Int ⊕ (Unit ⊕ (Int ⊕ (Unit ⊕ Bool)))) :=
if (decide (x3 < (x2.1.length : Int))) = true then (
idx x2.1 x3 >>= fun x4 =>
((if (decide (x4 < 0)) = true then (
some true)
else (
some (decide (x4 ≥ (x1.length : Int))))) : Option Bool) >>= fun x5 =>
if x5 = true then (
some (.inr (.inr (.inr (.inr false)))))
else (
some (.inl (w64 (x3 + 1)))))
else (
some (.inr (.inl ())))
def F_69 (N : Nat) (x1 : Za) (x2 : Int) : Option (Int ⊕ (Unit ⊕ Bool)) :=
if (decide (x2 < (x1.length : Int))) = true then (
idx x1 x2 >>= fun x3 =>
((if (decide (x3.2.2.1 < (-1))) = true then (
some true)
else (
if (decide (x3.2.2.1 ≥ (x1.length : Int))) = true then (
some true)
else (
if (decide (x3.2.2.2 < (-1))) = true then (
some true)
else (
if (decide (x3.2.2.2 > 47)) = true then (
some true)
else (
if (x3.2.2.1 == (-1)) = true then (
some (([x3.2.1.1, x3.2.1.2.1, x3.2.1.2.2.1, x3.2.1.2.2.2] : List Int) != ([0, 0, 0, 0] : List Int)))
else (
some false)))))) : Option Bool) >>= fun x4 =>
if x4 = true then (
some (.inr (.inr false)))
else (
((iterO N (fun s => F_70 N x1 x3 s) 0) : Option (Unit ⊕ (Int ⊕ (Unit ⊕ Bool)))) >>= fun z => match z with
| .inr z => some z
| .inl _ =>
some (.inl (w64 (x2 + 1)))))
else (
some (.inr (.inl ())))
def F_8 (N : Nat)  (x1 : Za) (x2 : Zc) : Option Bool :=
((if (decide ((x1.length : Int) < 1)) = true then (
some true)
else (
if (decide ((x1.length : Int) > 4000)) = true then (
some true)
else (
if (decide ((x2.length : Int) < 1)) = true then (
some true)
else (
some (decide ((x2.length : Int) > 8)))))) : Option Bool) >>= fun x3 =>
if x3 = true then (
some false)
else (
((iterO N (fun s => F_68 N x1 x2 s) 0) : Option (Unit ⊕ Bool)) >>= fun z => match z with
| .inr z => some z
| .inl _ =>
((iterO N (fun s => F_69 N x1 s) 0) : Option (Unit ⊕ Bool)) >>= fun z => match z with
| .inr z => some z
| .inl _ =>
some true)
def F_88 (_N : Nat)  (x1 : Int) : Option (Unit ⊕ Zc) :=
((if (decide (x1 < 0)) = true then (
some true)
else (
some (decide (x1 > 65536)))) : Option Bool) >>= fun x2 =>
if x2 = true then (
some (.inl ()))
else (
mk 0 (w64 ((w64 ((w64 (x1 + 64)) - 1)).tdiv 64)) >>= fun x3 =>
some (.inr x3))
def F_34 (_N : Nat)  (_x3 : Zc) (_x6 : Int) : Option Unit :=
some ()
def F_87 (N : Nat)  (x1 : Zc) (x2 : Int) (x3 : Int) : Option (Int × Int × Bool) :=
((nn ((IntKind.wrap .u64 x3).tmod 64) >>= fun _x32 =>
if (decide (x3 ≥ 0)) = true then (
F_34 N x1 x2 >>= fun _ =>
some (w64 (x3.tdiv 64), shlI .u64 1 ((IntKind.wrap .u64 x3).tmod 64), decide (x3 < x2)))
else (
some (w64 (x3.tdiv 64), shlI .u64 1 ((IntKind.wrap .u64 x3).tmod 64), false))) : Option (Int × Int × Bool)) >>= fun (x4, x5, x6) =>
some (x4, x5, x6)
def F_86 (N : Nat)  (x1 : Zc) (x2 : Int) (x3 : Int) : Option (Zc × Bool) :=
F_87 N x1 x2 x3 >>= fun (x4, x5, x6) =>
((if (!x6) = true then (
some true)
else (
idx x1 x4 >>= fun x7 =>
some ((iand .u64 x7 x5) != 0))) : Option Bool) >>= fun x8 =>
if x8 = true then (
some (x1, false))
else (
idx x1 x4 >>= fun x9 =>
idx x1 x4 >>= fun _x83 =>
setI x1 x4 (ior .u64 x9 x5) >>= fun x10 =>
some (x10, true))
def F_74 (_N : Nat)  (_x1 : Int) (_x2 : Int) (_x3 : Int) (_x4 : Int) : Option Unit :=
some ()
def F_63 (_N : Nat)  (x1 : Int) (x2 : Int) : Option Bool :=
((if (decide (x1 < 0)) = true then (
some true)
else (
some (decide (x1 ≥ x2)))) : Option Bool) >>= fun x3 =>
some x3
def F_78 (N : Nat) (x1 : Zc) (x2 : Int) (x3 : Int) : Option (Int ⊕ (Unit ⊕ Int)) :=
if (decide (x3 < (x1.length : Int))) = true then (
idx x1 x3 >>= fun x4 =>
F_63 N x4 x2 >>= fun x5 =>
if x5 = true then (
some (.inr (.inr x3)))
else (
some (.inl (w64 (x3 + 1)))))
else (
some (.inr (.inl ())))
def F_31 (N : Nat)  (x1 : Zc) (x2 : Int) : Option Int :=
((iterO N (fun s => F_78 N x1 x2 s) 0) : Option (Unit ⊕ Int)) >>= fun z => match z with
| .inr z => some z
| .inl _ =>
some (-1)
def F_76 (N : Nat)  (x1 : Zc) (x2 : Int) : Option Bool :=
F_31 N x1 x2 >>= fun x3 =>
some (decide (x3 ≥ 0))
def F_73 (N : Nat) (x1 : Za) (x2 : Int) : Option (Int ⊕ (Unit ⊕ Bool)) :=
if (decide (x2 < (x1.length : Int))) = true then (
idx x1 x2 >>= fun x3 =>
((if (x3.2.2.1 == (-1)) = true then (
F_74 N x3.2.1.1 x3.2.1.2.1 x3.2.1.2.2.1 x3.2.1.2.2.2 >>= fun _ =>
if (([x3.2.1.1, x3.2.1.2.1, x3.2.1.2.2.1, x3.2.1.2.2.2] : List Int) == ([0, 0, 0, 0] : List Int)) = true then (
some true)
else (
F_63 N x3.2.2.1 (x1.length : Int) >>= fun x4 =>
some (!x4)))
else (
F_63 N x3.2.2.1 (x1.length : Int) >>= fun x5 =>
some (!x5))) : Option Bool) >>= fun x6 =>
((if (!x6) = true then (
some true)
else (
F_76 N x3.1 (x1.length : Int) >>= fun x7 =>
if x7 = true then (
some true)
else (
if (decide (x3.2.2.2 < (-1))) = true then (
some true)
else (
some (decide (x3.2.2.2 ≥ 48)))))) : Option Bool) >>= fun x8 =>
if x8 = true then (
some (.inr (.inr false)))
else (
some (.inl (w64 (x2 + 1)))))
else (
some (.inr (.inl ())))
def F_10 (N : Nat)  (x1 : Za) (x2 : Zc) : Option Bool :=
((iterO N (fun s => F_73 N x1 s) 0) : Option (Unit ⊕ Bool)) >>= fun z => match z with
| .inr z => some z
| .inl _ =>
((if (decide ((x2.length : Int) ≥ 1)) = true then (
some (decide ((x2.length : Int) ≤ 8)))
else (
some false)) : Option Bool) >>= fun x3 =>
((if x3 = true then (
if (decide ((x1.length : Int) ≥ 1)) = true then (
if (decide ((x1.length : Int) ≤ 4000)) = true then (
F_76 N x2 (x1.length : Int) >>= fun x4 =>
some (!x4))
else (
some false))
else (
some false))
else (
some false)) : Option Bool) >>= fun x5 =>
some x5
def F_54 (_N : Nat)  (_x3 : Zc) (_x6 : Int) : Option Unit :=
some ()
def F_62 (_N : Nat)  (x1 : Int) : Option Int :=
if (x1 == 0) = true then (
some 64)
else (
idx tab_math_bits_deBruijn64tab (shrI .u64 (IntKind.wrap .u64 ((iand .u64 x1 (IntKind.wrap .u64 (0 - x1))) * 285870213051353865)) 58) >>= fun x2 =>
some (IntKind.wrap .i64 x2))
def F_72 (N : Nat) (x1 : Zc) (x2 : Int) (x3 : Int) (x4 : Int) : Option (Int ⊕ (Unit ⊕ Int)) :=
F_54 N x1 x2 >>= fun _ =>
if (decide (x4 < (x1.length : Int))) = true then (
((idx x1 x4 >>= fun x5 =>
((if (x4 == (w64 ((w64 ((imax x3 (-1)) + 1)).tdiv 64))) = true then (
nn ((w64 ((imax x3 (-1)) + 1)).tmod 64) >>= fun _x490 =>
nn ((w64 ((imax x3 (-1)) + 1)).tmod 64) >>= fun _x491 =>
some (shlI .u64 (shrI .u64 x5 ((w64 ((imax x3 (-1)) + 1)).tmod 64)) ((w64 ((imax x3 (-1)) + 1)).tmod 64)))
else (
some x5)) : Option Int) >>= fun x6 =>
if (x6 != 0) = true then (
F_62 N x6 >>= fun x7 =>
some (.inr (.inr (.inr (w64 ((w64 (64 * x4)) + x7))))))
else (
some (.inl ()))) : Option (Unit ⊕ (Int ⊕ (Unit ⊕ Int)))) >>= fun z => match z with
| .inr z => some z
| .inl _ =>
some (.inl (w64 (x4 + 1))))
else (
some (.inr (.inl ())))
def F_5 (N : Nat)  (x1 : Zc) (x2 : Int) (x3 : Int) : Option Int :=
F_34 N x1 x2 >>= fun _ =>
if (decide (x3 ≥ x2)) = true then (
some (-1))
else (
((iterO N (fun s => F_72 N x1 x2 x3 s) (w64 ((w64 ((imax x3 (-1)) + 1)).tdiv 64))) : Option (Unit ⊕ Int)) >>= fun z => match z with
| .inr z => some z
| .inl _ =>
some (-1))
def F_61 (N : Nat) (x1 : Zc) (x2 : Int) (x3 : Zc) (x4 : Int) : Option ((Zc × Int) ⊕ Zc) :=
if (decide (x4 ≥ 0)) = true then (
app x3 ([x4]) >>= fun x5 =>
F_5 N x1 x2 x4 >>= fun x6 =>
some (.inl (x5, x6)))
else (
some (.inr x3))
def F_25 (N : Nat)  (x1 : Zc) (x2 : Int) : Option Zc :=
F_5 N x1 x2 (-1) >>= fun x3 =>
((iterO N (fun s => F_61 N x1 x2 s.1 s.2) ([], x3)) : Option Zc) >>= fun x4 =>
some x4
def F_83 (N : Nat)  (x1 : Za) (_x5 : Zc) : Option Zc :=
F_88 N (x1.length : Int) >>= fun z => match z with
| .inl _ => (
none)
| .inr x2 => (
some x2)
def F_59 (N : Nat) (x1 : Za) (x2 : Zc) (x3 : Zc) : Option ((Zc × Zc) ⊕ (Zc × Zc)) :=
if (decide ((x2.length : Int) > 0)) = true then (
((idx x2 (w64 ((x2.length : Int) - 1)) >>= fun x4 =>
slc x2 0 (w64 ((x2.length : Int) - 1)) >>= fun x5 =>
F_86 N x3 (x1.length : Int) x4 >>= fun (x6, x7) =>
((if x7 = true then (
idx x1 x4 >>= fun x8 =>
app x5 x8.1 >>= fun x9 =>
some x9)
else (
some x5)) : Option Zc) >>= fun x10 =>
some (x10, x6)) : Option (Zc × Zc)) >>= fun (x11, x12) =>
some (.inl (x11, x12)))
else (
some (.inr (x2, x3)))
def F_18 (N : Nat)  (x1 : Za) (x2 : Zc) (x3 : Zc) : Option (Zc × Zc) :=
F_83 N x1 x2 >>= fun x4 =>
((iterO N (fun s => F_59 N x1 s.1 s.2) (x3, x4)) : Option (Zc × Zc)) >>= fun (x5, x6) =>
some (x5, x6)
def F_53 (_N : Nat) (x1 : Zc) (x2 : Zc) (x3 : Int) : Option ((Zc × Int) ⊕ Zc) :=
if (decide (x3 < (x1.length : Int))) = true then (
idx x1 x3 >>= fun x4 =>
app x2 ([IntKind.wrap .u8 (shrI .i64 x4 24), IntKind.wrap .u8 (shrI .i64 x4 16), IntKind.wrap .u8 (shrI .i64 x4 8), IntKind.wrap .u8 x4]) >>= fun x5 =>
some (.inl (x5, w64 (x3 + 1))))
else (
some (.inr x2))
def F_22 (N : Nat)  (x1 : Zc) (x2 : Int) : Option ByteArray :=
F_25 N x1 x2 >>= fun x3 =>
((iterO N (fun s => F_53 N x3 s.1 s.2) ([], 0)) : Option Zc) >>= fun x4 =>
some (bstr x4)
def F_96 (N : Nat)  (x1 : Za) (x2 : Zc) (x3 : Int) : Option Zc :=
((if (decide (x3 < 0)) = true then (
some true)
else (
some (decide (x3 ≥ (x2.length : Int))))) : Option Bool) >>= fun x4 =>
if x4 = true then (
F_83 N x1 x2 >>= fun x5 =>
some x5)
else (
idx x2 x3 >>= fun x6 =>
F_18 N x1 x2 ([x6]) >>= fun (_x76, x7) =>
some x7)
def F_81 (N : Nat)  (x1 : Za) (x2 : Zc) (x3 : Int) : Option Zc :=
F_10 N x1 x2 >>= fun x4 =>
if (!x4) = true then (
none)
else (
F_96 N x1 x2 x3 >>= fun x5 =>
some x5)
def F_49 (_N : Nat) (x1 : Int) (x2 : (Zc × Zd × Int × Int)) (x3 : Int) (x4 : Zf) (x5 : Bool) : Option ((Int × Zf × Bool) ⊕ (Zf × Bool)) :=
if (decide (x3 < (x2.1.length : Int))) = true then (
((idx x2.1 x3 >>= fun x6 =>
((idx x4 x1 >>= fun x7 =>
if x7 = true then (
idx x4 x6 >>= fun x8 =>
some (!x8))
else (
some false)) : Option Bool) >>= fun x9 =>
((if x9 = true then (
idx x4 x6 >>= fun _x66506 =>
setI x4 x6 true >>= fun x10 =>
some (x10, true))
else (
some (x4, x5))) : Option (Zf × Bool)) >>= fun (x11, x12) =>
some (x11, x12)) : Option (Zf × Bool)) >>= fun (x13, x14) =>
some (.inl (w64 (x3 + 1), x13, x14)))
else (
some (.inr (x4, x5)))
def F_48 (N : Nat) (x1 : Za) (x2 : Int) (x3 : Zf) (x4 : Bool) : Option ((Int × Zf × Bool) ⊕ (Zf × Bool)) :=
if (decide (x2 < (x1.length : Int))) = true then (
idx x1 x2 >>= fun x5 =>
((iterO N (fun s => F_49 N x2 x5 s.1 s.2.1 s.2.2) (0, x3, x4)) : Option (Zf × Bool)) >>= fun (x6, x7) =>
some (.inl (w64 (x2 + 1), x6, x7)))
else (
some (.inr (x3, x4)))
def F_60 (N : Nat) (x1 : Za) (x2 : Zf) (x3 : Bool) : Option ((Zf × Bool) ⊕ Zf) :=
if x3 = true then (
((iterO N (fun s => F_48 N x1 s.1 s.2.1 s.2.2) (0, x2, false)) : Option (Zf × Bool)) >>= fun (x4, x5) =>
some (.inl (x4, x5)))
else (
some (.inr x2))
def F_3 (N : Nat)  (x1 : Za) (_x5 : Zc) (x2 : Zf) : Option Zf :=
app ([]) x2 >>= fun x3 =>
((iterO N (fun s => F_60 N x1 s.1 s.2) (x3, true)) : Option Zf) >>= fun x4 =>
some x4
def F_97 (N : Nat) (x1 : Za) (x2 : Zc) (x3 : Int) (x4 : Int) (x5 : Int) : Option ((Int × Int) ⊕ Int) :=
((if (decide (x5 ≥ 0)) = true then (
some (decide (x5 < (x1.length : Int))))
else (
some false)) : Option Bool) >>= fun x6 =>
if x6 = true then (
((idx x1 x5 >>= fun x7 =>
((if (x7.2.2.2 != (-1)) = true then (
if (x4 == (-1)) = true then (
some true)
else (
some (decide (x7.2.2.2 < x4))))
else (
some false)) : Option Bool) >>= fun x8 =>
((if x8 = true then (
some x7.2.2.2)
else (
some x4)) : Option Int) >>= fun x9 =>
some x9) : Option Int) >>= fun x10 =>
F_5 N x2 x3 x5 >>= fun x11 =>
some (.inl (x10, x11)))
else (
some (.inr x4))
def F_14 (N : Nat)  (x1 : Za) (_x5 : Zc) (x2 : Zc) (x3 : Int) : Option Int :=
F_5 N x2 x3 (-1) >>= fun x4 =>
((iterO N (fun s => F_97 N x1 x2 x3 s.1 s.2) ((-1), x4)) : Option Int) >>= fun x5 =>
some x5
def F_50 (_N : Nat) (x1 : Za) (x2 : Zf) (x3 : Int) (x4 : Int) : Option ((Int × Int) ⊕ Int) :=
if (decide (x3 < (x1.length : Int))) = true then (
((idx x1 x3 >>= fun x5 =>
((idx x2 x3 >>= fun x6 =>
if x6 = true then (
if (decide (x5.2.2.2 ≥ 0)) = true then (
if (decide (x4 < 0)) = true then (
some true)
else (
some (decide (x5.2.2.2 < x4))))
else (
some false))
else (
some false)) : Option Bool) >>= fun x7 =>
((if x7 = true then (
some x5.2.2.2)
else (
some x4)) : Option Int) >>= fun x8 =>
some x8) : Option Int) >>= fun x9 =>
some (.inl (w64 (x3 + 1), x9)))
else (
some (.inr x4))
def F_20 (N : Nat)  (x1 : Za) (_x5 : Zc) (x2 : Zf) : Option Int :=
((iterO N (fun s => F_50 N x1 x2 s.1 s.2) (0, (-1))) : Option Int) >>= fun x3 =>
some x3
def F_71 (N : Nat)  (x1 : Za) (x2 : Zc) (x3 : Int) : Option Zf :=
mk false (x1.length : Int) >>= fun x4 =>
((if (decide (x3 ≥ 0)) = true then (
some (decide (x3 < (x2.length : Int))))
else (
some false)) : Option Bool) >>= fun x5 =>
((if x5 = true then (
idx x2 x3 >>= fun x6 =>
idx x4 x6 >>= fun _x107 =>
setI x4 x6 true >>= fun x7 =>
some x7)
else (
some x4)) : Option Zf) >>= fun x8 =>
F_3 N x1 x2 x8 >>= fun x9 =>
some x9
def F_75 (_N : Nat)  (x1 : Int) (x2 : Int) (x3 : Int) (x4 : Int) (x5 : Int) : Option Bool :=
idx [x1, x2, x3, x4] (IntKind.wrap .u8 (x5.tdiv 64)) >>= fun x6 =>
nn (x5.tmod 64) >>= fun _x16 =>
some ((iand .u64 (shrI .u64 x6 (x5.tmod 64)) 1) == 1)
def F_98 (N : Nat) (x1 : Za) (x2 : Zc) (x3 : Int) (x4 : Int) (x5 : Zc) (x6 : Int) : Option ((Zc × Int) ⊕ Zc) :=
((if (decide (x6 ≥ 0)) = true then (
some (decide (x6 < (x1.length : Int))))
else (
some false)) : Option Bool) >>= fun x7 =>
if x7 = true then (
((idx x1 x6 >>= fun x8 =>
F_75 N x8.2.1.1 x8.2.1.2.1 x8.2.1.2.2.1 x8.2.1.2.2.2 x4 >>= fun x9 =>
((if x9 = true then (
app x5 ([x8.2.2.1]) >>= fun x10 =>
some x10)
else (
some x5)) : Option Zc) >>= fun x11 =>
some x11) : Option Zc) >>= fun x12 =>
F_5 N x2 x3 x6 >>= fun x13 =>
some (.inl (x12, x13)))
else (
some (.inr x5))
def F_15 (N : Nat)  (x1 : Za) (x2 : Zc) (x3 : Zc) (x4 : Int) (x5 : Int) : Option Zc :=
F_5 N x3 x4 (-1) >>= fun x6 =>
((iterO N (fun s => F_98 N x1 x3 x4 x5 s.1 s.2) ([], x6)) : Option Zc) >>= fun x7 =>
F_18 N x1 x2 x7 >>= fun (_x1950, x8) =>
some x8
def F_51 (_N : Nat) (x1 : Za) (x2 : Zf) (x3 : Int) (x4 : Int) (x5 : Zf) : Option ((Int × Zf) ⊕ Zf) :=
if (decide (x4 < (x1.length : Int))) = true then (
((idx x1 x4 >>= fun x6 =>
((idx x2 x4 >>= fun x7 =>
if x7 = true then (
if (decide (x6.2.2.1 ≥ 0)) = true then (
idx [x6.2.1.1, x6.2.1.2.1, x6.2.1.2.2.1, x6.2.1.2.2.2] (IntKind.wrap .u8 (x3.tdiv 64)) >>= fun x8 =>
nn (x3.tmod 64) >>= fun _x2369 =>
some (((shrI .u64 x8 (x3.tmod 64)).tmod 2) == 1))
else (
some false))
else (
some false)) : Option Bool) >>= fun x9 =>
((if x9 = true then (
idx x5 x6.2.2.1 >>= fun _x2386 =>
setI x5 x6.2.2.1 true >>= fun x10 =>
some x10)
else (
some x5)) : Option Zf) >>= fun x11 =>
some x11) : Option Zf) >>= fun x12 =>
some (.inl (w64 (x4 + 1), x12)))
else (
some (.inr x5))
def F_21 (N : Nat)  (x1 : Za) (x2 : Zc) (x3 : Zf) (x4 : Int) : Option Zf :=
mk false (x1.length : Int) >>= fun x5 =>
((iterO N (fun s => F_51 N x1 x3 x4 s.1 s.2) (0, x5)) : Option Zf) >>= fun x6 =>
F_3 N x1 x2 x6 >>= fun x7 =>
some x7
def F_52 (N : Nat) (x1 : Za) (x2 : Zc) (x3 : Zc) (x4 : Int) (x5 : Zf) (x6 : Zc) : Option ((Int × Zf × Zc) ⊕ Zc) :=
if (decide (x4 < (x3.length : Int))) = true then (
idx x3 x4 >>= fun x7 =>
F_21 N x1 x2 x5 x7 >>= fun x8 =>
F_20 N x1 x2 x8 >>= fun x9 =>
app x6 ([x9]) >>= fun x10 =>
some (.inl (w64 (x4 + 1), x8, x10)))
else (
some (.inr x6))
def F_23 (N : Nat)  (x1 : Za) (x2 : Zc) (x3 : Int) (x4 : Zc) : Option Zc :=
F_71 N x1 x2 x3 >>= fun x5 =>
F_20 N x1 x2 x5 >>= fun x6 =>
((iterO N (fun s => F_52 N x1 x2 x4 s.1 s.2.1 s.2.2) (0, x5, [x6])) : Option Zc) >>= fun x7 =>
some x7
def F_41 (_N : Nat) (x1 : Int) (x2 : Int) (x3 : Int) (x4 : Int) (x5 : Int) : Option ((Int × Int × Int × Int × Int) ⊕ Zd) :=
if (decide (x5 < 4)) = true then (
idx [x1, x2, x3, x4] x5 >>= fun x6 =>
idx [x1, x2, x3, x4] x5 >>= fun _x193 =>
setI [x1, x2, x3, x4] x5 (inv .u64 x6) >>= fun x7 =>
some (.inl (x7.getD 0 0, x7.getD 1 0, x7.getD 2 0, x7.getD 3 0, w64 (x5 + 1))))
else (
some (.inr (x1, x2, x3, x4)))
def F_16 (N : Nat)  (x1 : Int) (x2 : Int) (x3 : Int) (x4 : Int) : Option Zd :=
((iterO N (fun s => F_41 N s.1 s.2.1 s.2.2.1 s.2.2.2.1 s.2.2.2.2) (x1, x2, x3, x4, 0)) : Option Zd) >>= fun (x5, x6, x7, x8) =>
some (x5, x6, x7, x8)
def F_89 (N : Nat)  : Option Zd :=
F_16 N 0 0 0 0 >>= fun (x1, x2, x3, x4) =>
some (x1, x2, x3, x4)
def F_39 (_N : Nat) (x1 : Int) (x2 : Int) (x3 : Int) (x4 : Int) (x5 : Int) (x6 : Int) (x7 : Int) (x8 : Int) (x9 : Int) : Option ((Int × Int × Int × Int × Int) ⊕ Zd) :=
if (decide (x9 < 4)) = true then (
((idx [x5, x6, x7, x8] x9 >>= fun x10 =>
idx [x1, x2, x3, x4] x9 >>= fun x11 =>
idx [x5, x6, x7, x8] x9 >>= fun _x405 =>
setI [x5, x6, x7, x8] x9 (iand .u64 x10 x11) >>= fun x12 =>
some (x12.getD 0 0, x12.getD 1 0, x12.getD 2 0, x12.getD 3 0)) : Option Zd) >>= fun (x13, x14, x15, x16) =>
some (.inl (x13, x14, x15, x16, w64 (x9 + 1))))
else (
some (.inr (x5, x6, x7, x8)))
def F_13 (N : Nat)  (x1 : Int) (x2 : Int) (x3 : Int) (x4 : Int) (x5 : Int) (x6 : Int) (x7 : Int) (x8 : Int) : Option Zd :=
((iterO N (fun s => F_39 N x5 x6 x7 x8 s.1 s.2.1 s.2.2.1 s.2.2.2.1 s.2.2.2.2) (x1, x2, x3, x4, 0)) : Option Zd) >>= fun (x9, x10, x11, x12) =>
some (x9, x10, x11, x12)
def F_90 (N : Nat)  (x1 : Int) (x2 : Int) (x3 : Int) (x4 : Int) (x5 : Int) (x6 : Int) (x7 : Int) (x8 : Int) : Option Zd :=
((F_16 N x5 x6 x7 x8 >>= fun (x9, x10, x11, x12) =>
F_13 N x1 x2 x3 x4 x9 x10 x11 x12 >>= fun (x13, x14, x15, x16) =>
some (x13, x14, x15, x16)) : Option Zd) >>= fun (x17, x18, x19, x20) =>
some (x17, x18, x19, x20)
def F_4 (_N : Nat)  (_x1 : Int) (_x2 : Int) (_x3 : Int) (_x4 : Int) : Option Unit :=
some ()
def F_64 (N : Nat) {σ : Type} (Y : (Int → σ → Option (σ × Bool))) (x1 : Int) (x2 : σ) (x3 : Int) : Option ((σ × Int) ⊕ (σ ⊕ ((σ × Int) ⊕ (σ ⊕ (σ × Bool))))) :=
if (x3 != 0) = true then (
F_62 N x3 >>= fun x4 =>
Y (w64 ((w64 (64 * x1)) + x4)) x2 >>= fun q5 =>
if (!q5.2) = true then (
some (.inr (.inr (.inr (.inr (q5.1, false))))))
else (
some (.inl (q5.1, iand .u64 x3 (IntKind.wrap .u64 (x3 - 1))))))
else (
some (.inr (.inl x2)))
def F_43 (N : Nat) {σ : Type} (Y : (Int → σ → Option (σ × Bool))) (x1 : Int) (x2 : Int) (x3 : Int) (x4 : Int) (x5 : σ) (x6 : Int) : Option ((σ × Int) ⊕ (σ ⊕ (σ × Bool))) :=
if (decide (x6 < 4)) = true then (
idx [x1, x2, x3, x4] x6 >>= fun x7 =>
((iterO N (fun s => F_64 N Y x6 s.1 s.2) (x5, x7)) : Option (σ ⊕ ((σ × Int) ⊕ (σ ⊕ (σ × Bool))))) >>= fun z => match z with
| .inr z => some z
| .inl x8 =>
some (.inl (x8, w64 (x6 + 1))))
else (
some (.inr (.inl x5)))
def F_9 (N : Nat) {σ : Type}  (Y : Int → σ → Option (σ × Bool)) (s0 : σ) (x1 : Int) (x2 : Int) (x3 : Int) (x4 : Int) : Option (σ × Bool) :=
((iterO N (fun s => F_43 N Y x1 x2 x3 x4 s.1 s.2) (s0, 0)) : Option (σ ⊕ (σ × Bool))) >>= fun z => match z with
| .inr z => some z
| .inl x5 =>
some (x5, true)
def F_100 (_N : Nat) (x1 : Int) (x2 : Int) : Option ((Int ⊕ Int) × Bool) :=
if (x2 == 0) = true then (
some (.inr x1, false))
else (
some (.inl (w64 (x2 - 1)), true))
def F_42 (N : Nat)  (x1 : Int) (x2 : Int) (x3 : Int) (x4 : Int) (x5 : Int) : Option Int :=
((if (decide (x5 < 0)) = true then (
some true)
else (
some (decide (x5 ≥ 256)))) : Option Bool) >>= fun x6 =>
if x6 = true then (
some (-1))
else (
F_4 N x1 x2 x3 x4 >>= fun _ =>
F_9 N (YS (σ1 := Int) (σ2 := Int) (fun x s => F_100 N x s)) (.inl x5) x1 x2 x3 x4 >>= fun z => match z with
| (.inl _x60, true) => (
some (-1))
| (.inr x7, false) => (
some x7)
| _ => none)
def F_56 (N : Nat)  (x1 : Int) (x2 : Int) (x3 : Int) (x4 : Int) : Option Int :=
F_42 N x1 x2 x3 x4 0 >>= fun x5 =>
some x5
def F_85 (_N : Nat)  (_x1 : Int) : Option Unit :=
some ()
def F_84 (N : Nat)  (x1 : Int) (x2 : Int) : Option Int :=
F_85 N x1 >>= fun _ =>
F_85 N x2 >>= fun _ =>
if (x1 != x1) = true then (
if (x2 != x2) = true then (
some 0)
else (
some (-1)))
else (
if (x2 != x2) = true then (
some 1)
else (
if (decide (x1 < x2)) = true then (
some (-1))
else (
if (decide (x1 > x2)) = true then (
some 1)
else (
some 0))))
def F_55 (N : Nat)  (x1 : Int) (x2 : Int) (x3 : Int) (x4 : Int) (x5 : Int) (x6 : Int) (x7 : Int) (x8 : Int) : Option Int :=
F_56 N x1 x2 x3 x4 >>= fun x9 =>
F_56 N x5 x6 x7 x8 >>= fun x10 =>
F_84 N x9 x10 >>= fun x11 =>
some x11
def F_38 (N : Nat) (x1 : Int) (x2 : Int) (x3 : Int) (x4 : Int) (x5 : Int) (x6 : Int) (x7 : Int) (x8 : Int) (x9 : Int) (x10 : (List Zd)) : Option ((Int × (List Zd)) ⊕ (List Zd)) :=
if (decide (x9 < 2)) = true then (
((idx [(x1, x2, x3, x4), (x5, x6, x7, x8)] x9 >>= fun x11 =>
F_74 N x11.1 x11.2.1 x11.2.2.1 x11.2.2.2 >>= fun _ =>
((if (!(([x11.1, x11.2.1, x11.2.2.1, x11.2.2.2] : List Int) == ([0, 0, 0, 0] : List Int))) = true then (
app x10 ([(x11.1, x11.2.1, x11.2.2.1, x11.2.2.2)]) >>= fun x12 =>
some x12)
else (
some x10)) : Option (List Zd)) >>= fun x13 =>
some x13) : Option (List Zd)) >>= fun x14 =>
some (.inl (w64 (x9 + 1), x14)))
else (
some (.inr x10))
def F_37 (N : Nat) (x1 : (List Zd)) (x2 : (Zc × Zd × Int × Int)) (x3 : Int) (x4 : (List Zd)) : Option ((Int × (List Zd)) ⊕ (List Zd)) :=
if (decide (x3 < (x1.length : Int))) = true then (
idx x1 x3 >>= fun x5 =>
F_13 N x5.1 x5.2.1 x5.2.2.1 x5.2.2.2 x2.2.1.1 x2.2.1.2.1 x2.2.1.2.2.1 x2.2.1.2.2.2 >>= fun (x6, x7, x8, x9) =>
F_90 N x5.1 x5.2.1 x5.2.2.1 x5.2.2.2 x2.2.1.1 x2.2.1.2.1 x2.2.1.2.2.1 x2.2.1.2.2.2 >>= fun (x10, x11, x12, x13) =>
((iterO N (fun s => F_38 N x6 x7 x8 x9 x10 x11 x12 x13 s.1 s.2) (0, x4)) : Option (List Zd)) >>= fun x14 =>
some (.inl (w64 (x3 + 1), x14)))
else (
some (.inr x4))
def F_36 (N : Nat) (x1 : Za) (x2 : Int) (x3 : (List Zd)) (x4 : (List (Zc × Int))) : Option ((Int × (List Zd) × (List (Zc × Int))) ⊕ (List Zd)) :=
if (decide (x2 < (x1.length : Int))) = true then (
((idx x1 x2 >>= fun x5 =>
if (decide (((mget x4 ([x5.2.1.1, x5.2.1.2.1, x5.2.1.2.2.1, x5.2.1.2.2.2])).getD 0) > 0)) = true then (
some (x3, x4))
else (
((some ()) : Option Unit) >>= fun _ =>
((iterO N (fun s => F_37 N x3 x5 s.1 s.2) (0, [])) : Option (List Zd)) >>= fun x6 =>
some (x6, (mset (mset x4 ([x5.2.1.1, x5.2.1.2.1, x5.2.1.2.2.1, x5.2.1.2.2.2]) ((mget x4 ([x5.2.1.1, x5.2.1.2.1, x5.2.1.2.2.1, x5.2.1.2.2.2])).getD 0)) ([x5.2.1.1, x5.2.1.2.1, x5.2.1.2.2.1, x5.2.1.2.2.2]) (w64 (((mget x4 ([x5.2.1.1, x5.2.1.2.1, x5.2.1.2.2.1, x5.2.1.2.2.2])).getD 0) + 1)))))) : Option ((List Zd) × (List (Zc × Int)))) >>= fun (x7, x8) =>
some (.inl (w64 (x2 + 1), x7, x8)))
else (
some (.inr x3))
noncomputable def F_1 (N : Nat)  (x1 : Za) (x2 : Zc) : Option (List Zd) :=
F_10 N x1 x2 >>= fun x3 =>
if (!x3) = true then (
some ([]))
else (
F_89 N >>= fun (x4, x5, x6, x7) =>
((iterO N (fun s => F_36 N x1 s.1 s.2.1 s.2.2) (0, [(x4, x5, x6, x7)], ([] : List (Zc × Int)))) : Option (List Zd)) >>= fun x8 =>
sortF (fun a b => F_55 N a.1 a.2.1 a.2.2.1 a.2.2.2 b.1 b.2.1 b.2.2.1 b.2.2.2) x8 >>= fun x9 =>
some x9)
def F_103 (_N : Nat)  (_x3 : (Zc × Int)) : Option Unit :=
some ()
def F_104 (_N : Nat)  (x1 : (Zc × Int)) : Option Zc :=
some x1.1
def F_99 (N : Nat) (x1 : (Zc × Int)) (x2 : Int) (x3 : Int) : Option (Int ⊕ (Unit ⊕ Int)) :=
F_104 N x1 >>= fun x4 =>
if (decide (x3 < (x4.length : Int))) = true then (
((idx x1.1 x3 >>= fun x5 =>
((if (x3 == (w64 ((w64 ((imax x2 (-1)) + 1)).tdiv 64))) = true then (
nn ((w64 ((imax x2 (-1)) + 1)).tmod 64) >>= fun _x654 =>
nn ((w64 ((imax x2 (-1)) + 1)).tmod 64) >>= fun _x655 =>
some (shlI .u64 (shrI .u64 x5 ((w64 ((imax x2 (-1)) + 1)).tmod 64)) ((w64 ((imax x2 (-1)) + 1)).tmod 64)))
else (
some x5)) : Option Int) >>= fun x6 =>
if (x6 != 0) = true then (
F_62 N x6 >>= fun x7 =>
some (.inr (.inr (.inr (w64 ((w64 (64 * x3)) + x7))))))
else (
some (.inl ()))) : Option (Unit ⊕ (Int ⊕ (Unit ⊕ Int)))) >>= fun z => match z with
| .inr z => some z
| .inl _ =>
some (.inl (w64 (x3 + 1))))
else (
some (.inr (.inl ())))
def F_29 (N : Nat)  (x1 : (Zc × Int)) (x2 : Int) : Option Int :=
F_103 N x1 >>= fun _ =>
if (decide (x2 ≥ x1.2)) = true then (
some (-1))
else (
((iterO N (fun s => F_99 N x1 x2 s) (w64 ((w64 ((imax x2 (-1)) + 1)).tdiv 64))) : Option (Unit ⊕ Int)) >>= fun z => match z with
| .inr z => some z
| .inl _ =>
some (-1))
def F_101 (N : Nat) (x1 : Za) (x2 : (Zc × Int)) (x3 : Int) (x4 : Int) : Option ((Int × Int) ⊕ Int) :=
((if (decide (x4 ≥ 0)) = true then (
some (decide (x4 < (x1.length : Int))))
else (
some false)) : Option Bool) >>= fun x5 =>
if x5 = true then (
((idx x1 x4 >>= fun x6 =>
((if (x6.2.2.2 != (-1)) = true then (
if (x3 == (-1)) = true then (
some true)
else (
some (decide (x6.2.2.2 < x3))))
else (
some false)) : Option Bool) >>= fun x7 =>
((if x7 = true then (
some x6.2.2.2)
else (
some x3)) : Option Int) >>= fun x8 =>
some x8) : Option Int) >>= fun x9 =>
F_29 N x2 x4 >>= fun x10 =>
some (.inl (x9, x10)))
else (
some (.inr x3))
def F_46 (N : Nat)  (x1 : Za) (_x5 : Zc) (x2 : (Zc × Int)) : Option Int :=
F_29 N x2 (-1) >>= fun x3 =>
((iterO N (fun s => F_101 N x1 x2 s.1 s.2) ((-1), x3)) : Option Int) >>= fun x4 =>
some x4
def F_82 (N : Nat)  (x1 : Za) (x2 : Zc) (x3 : (Zc × Int)) : Option Int :=
F_10 N x1 x2 >>= fun x4 =>
if (!x4) = true then (
some (-1))
else (
F_46 N x1 x2 x3 >>= fun x5 =>
some x5)
def F_33 (N : Nat)  (x1 : Zb) (x2 : Zc) (_x11 : Zc) (x3 : Za) (x4 : Zc) (x5 : Zg) (x6 : (List (Zc × Int))) (x7 : Zc) (x8 : Int) : Option (Zb × Zc × Zg × (List (Zc × Int)) × Int × Int) :=
F_22 N x7 x8 >>= fun x9 =>
if ((mget x5 x9).isSome) = true then (
some (x1, x2, x5, x6, 0, (mget x5 x9).getD 0))
else (
if (decide ((x6.length : Int) ≥ 200)) = true then (
some (x1, x2, x5, x6, 9, 0))
else (
((some ()) : Option Unit) >>= fun _ =>
app x6 ([(x7, x8)]) >>= fun x10 =>
app x1 ([(List.replicate 256 0)]) >>= fun x11 =>
((F_82 N x3 x4 (x7, x8) >>= fun x12 =>
app x2 ([x12]) >>= fun x13 =>
some x13) : Option Zc) >>= fun x14 =>
some (x11, x14, (mset x5 x9 (x6.length : Int)), x10, 0, w64 ((x10.length : Int) - 1))))
def F_80 (N : Nat)  (x1 : Zb) (x2 : Zc) (_x11 : Zc) (x3 : Za) (x4 : Zc) (x5 : Zg) (x6 : (List (Zc × Int))) (x7 : Int) (x8 : Zc) (x9 : Int) : Option (Zb × Zc × Zg × (List (Zc × Int)) × Int × Int) :=
F_22 N x8 x9 >>= fun x10 =>
if ((mget x5 x10).isSome) = true then (
some (x1, x2, x5, x6, x7, (mget x5 x10).getD 0))
else (
if (decide ((x6.length : Int) ≥ 200)) = true then (
some (x1, x2, x5, x6, 9, 0))
else (
((some ()) : Option Unit) >>= fun _ =>
app x6 ([(x8, x9)]) >>= fun x11 =>
app x1 ([(List.replicate 256 0)]) >>= fun x12 =>
((F_82 N x3 x4 (x8, x9) >>= fun x13 =>
app x2 ([x13]) >>= fun x14 =>
some x14) : Option Zc) >>= fun x15 =>
some (x12, x15, (mset x5 x10 (x6.length : Int)), x11, x7, w64 ((x11.length : Int) - 1))))
def F_102 (N : Nat) (x1 : Za) (x2 : (Zc × Int)) (x3 : Int) (x4 : Zc) (x5 : Int) : Option ((Zc × Int) ⊕ Zc) :=
((if (decide (x5 ≥ 0)) = true then (
some (decide (x5 < (x1.length : Int))))
else (
some false)) : Option Bool) >>= fun x6 =>
if x6 = true then (
((idx x1 x5 >>= fun x7 =>
F_75 N x7.2.1.1 x7.2.1.2.1 x7.2.1.2.2.1 x7.2.1.2.2.2 x3 >>= fun x8 =>
((if x8 = true then (
app x4 ([x7.2.2.1]) >>= fun x9 =>
some x9)
else (
some x4)) : Option Zc) >>= fun x10 =>
some x10) : Option Zc) >>= fun x11 =>
F_29 N x2 x5 >>= fun x12 =>
some (.inl (x11, x12)))
else (
some (.inr x4))
def F_47 (N : Nat)  (x1 : Za) (x2 : Zc) (x3 : (Zc × Int)) (x4 : Int) : Option Zc :=
F_29 N x3 (-1) >>= fun x5 =>
((iterO N (fun s => F_102 N x1 x3 x4 s.1 s.2) ([], x5)) : Option Zc) >>= fun x6 =>
F_18 N x1 x2 x6 >>= fun (_x1949, x7) =>
some x7
def F_95 (N : Nat)  (x1 : Za) (x2 : Zc) (x3 : (Zc × Int)) (x4 : Int) : Option Zc :=
F_10 N x1 x2 >>= fun x5 =>
if (!x5) = true then (
none)
else (
F_47 N x1 x2 x3 x4 >>= fun x6 =>
some x6)
def F_40 (_N : Nat) (x1 : Int) (x2 : Zc) : Option (Zc × Bool) :=
app x2 ([IntKind.wrap .u8 x1]) >>= fun x3 =>
some (x3, true)
def F_17 (N : Nat)  (x1 : Int) (x2 : Int) (x3 : Int) (x4 : Int) : Option Zc :=
F_4 N x1 x2 x3 x4 >>= fun _ =>
F_9 N (fun x s => F_40 N x s) ([]) x1 x2 x3 x4 >>= fun z => match z with
| (x5, true) => (
some x5)
| _ => none
def F_45 (_N : Nat) (x1 : Int) (x2 : Int) (x3 : Zc) (x4 : Zb) (x5 : Int) : Option ((Zb × Int) ⊕ Zb) :=
if (decide (x5 < (x3.length : Int))) = true then (
idx x3 x5 >>= fun x6 =>
idx x4 x1 >>= fun x7 =>
idx x7 x6 >>= fun _x3079 =>
setI x7 x6 x2 >>= fun x8 =>
setI x4 x1 x8 >>= fun x9 =>
some (.inl (x9, w64 (x5 + 1))))
else (
some (.inr x4))
def F_58 (N : Nat) (x1 : Zc) (x2 : Za) (x3 : Zc) (x4 : Int) (x5 : (List Zd)) (x6 : Zb) (x7 : Zc) (x8 : Zg) (x9 : (List (Zc × Int))) (x10 : Int) (x11 : Int) : Option ((Zb × Zc × Zg × (List (Zc × Int)) × Int × Int) ⊕ (Zb × Zc × Zg × (List (Zc × Int)) × Int)) :=
if (decide (x11 < (x5.length : Int))) = true then (
idx x5 x11 >>= fun x12 =>
idx x9 x4 >>= fun x13 =>
F_56 N x12.1 x12.2.1 x12.2.2.1 x12.2.2.2 >>= fun x14 =>
F_95 N x2 x3 x13 (IntKind.wrap .u8 x14) >>= fun x15 =>
F_80 N x6 x7 x1 x2 x3 x8 x9 x10 x15 (x2.length : Int) >>= fun (x16, x17, x18, x19, x20, x21) =>
F_17 N x12.1 x12.2.1 x12.2.2.1 x12.2.2.2 >>= fun x22 =>
((iterO N (fun s => F_45 N x4 x21 x22 s.1 s.2) (x16, 0)) : Option Zb) >>= fun x23 =>
some (.inl (x23, x17, x18, x19, x20, w64 (x11 + 1))))
else (
some (.inr (x6, x7, x8, x9, x10)))
def F_11 (N : Nat)  (x1 : Zb) (x2 : Zc) (x3 : Zc) (x4 : Za) (x5 : Zc) (x6 : Zg) (x7 : (List (Zc × Int))) (x8 : Int) (x9 : Int) (x10 : (List Zd)) : Option (Zb × Zc × Zg × (List (Zc × Int)) × Int) :=
((iterO N (fun s => F_58 N x3 x4 x5 x9 x10 s.1 s.2.1 s.2.2.1 s.2.2.2.1 s.2.2.2.2.1 s.2.2.2.2.2) (x1, x2, x6, x7, x8, 0)) : Option (Zb × Zc × Zg × (List (Zc × Int)) × Int)) >>= fun (x11, x12, x13, x14, x15) =>
some (x11, x12, x13, x14, x15)
def F_35 (N : Nat) (x1 : Za) (x2 : Zc) (x3 : Int) (x4 : Zb) (x5 : Zc) (x6 : Zc) (x7 : Zg) (x8 : (List (Zc × Int))) (x9 : Int) : Option ((Int × Zb × Zc × Zc × Zg × (List (Zc × Int)) × Int) ⊕ (Zb × Zc × Zc × Zg × (List (Zc × Int)) × Int)) :=
if (decide (x3 < (x2.length : Int))) = true then (
((F_81 N x1 x2 x3 >>= fun x10 =>
F_80 N x4 x5 x6 x1 x2 x7 x8 x9 x10 (x1.length : Int) >>= fun (x11, x12, x13, x14, x15, x16) =>
app x6 ([x16]) >>= fun x17 =>
some (x11, x12, x17, x13, x14, x15)) : Option (Zb × Zc × Zc × Zg × (List (Zc × Int)) × Int)) >>= fun (x18, x19, x20, x21, x22, x23) =>
some (.inl (w64 (x3 + 1), x18, x19, x20, x21, x22, x23)))
else (
some (.inr (x4, x5, x6, x7, x8, x9)))
def F_26 (N : Nat) (x1 : Za) (x2 : Zc) (x3 : Zc) (x4 : (List Zd)) (x5 : Zb) (x6 : Zc) (x7 : Zg) (x8 : (List (Zc × Int))) (x9 : Int) (x10 : Int) : Option ((Zb × Zc × Zg × (List (Zc × Int)) × Int × Int) ⊕ (Zb × Zc × Zg × (List (Zc × Int)) × Int)) :=
((if (decide (x10 < (x8.length : Int))) = true then (
some (!(eOk errIds x9)))
else (
some false)) : Option Bool) >>= fun x11 =>
if x11 = true then (
F_11 N x5 x6 x3 x1 x2 x7 x8 x9 x10 x4 >>= fun (x12, x13, x14, x15, x16) =>
some (.inl (x12, x13, x14, x15, x16, w64 (x10 + 1))))
else (
some (.inr (x5, x6, x7, x8, x9)))
noncomputable def F_6 (N : Nat)  (x1 : Za) (x2 : Zc) : Option (Zb × Zc × Zc × Int) :=
F_10 N x1 x2 >>= fun x3 =>
if (!x3) = true then (
((some ()) : Option Unit) >>= fun _ =>
some ([], [], [], 2))
else (
F_81 N x1 x2 (-1) >>= fun x4 =>
F_33 N ([]) ([]) ([]) x1 x2 ([] : List (ByteArray × Int)) ([]) x4 (x1.length : Int) >>= fun (x5, x6, x7, x8, x9, _x1934) =>
((iterO N (fun s => F_35 N x1 x2 s.1 s.2.1 s.2.2.1 s.2.2.2.1 s.2.2.2.2.1 s.2.2.2.2.2.1 s.2.2.2.2.2.2) (0, x5, x6, ([]), x7, x8, x9)) : Option (Zb × Zc × Zc × Zg × (List (Zc × Int)) × Int)) >>= fun (x10, x11, x12, x13, x14, x15) =>
F_1 N x1 x2 >>= fun x16 =>
((iterO N (fun s => F_26 N x1 x2 x12 x16 s.1 s.2.1 s.2.2.1 s.2.2.2.1 s.2.2.2.2.1 s.2.2.2.2.2) (x10, x11, x13, x14, x15, 0)) : Option (Zb × Zc × Zg × (List (Zc × Int)) × Int)) >>= fun (x17, x18, _x3647, _x3650, x19) =>
if (eOk errIds x19) = true then (
((some ()) : Option Unit) >>= fun _ =>
some ([], [], [], x19))
else (
some (x17, x18, x12, 0)))
def F_67 (_N : Nat) (x1 : Int) (x2 : Int) : Option (Int ⊕ (Unit ⊕ Int)) :=
if (decide (x2 < (([1, 3, 4, 2, 5, 6, 7, 8, 9, 10, 11, 12, 13, 14, 15, 16, 17, 18]).length : Int))) = true then (
idx ([1, 3, 4, 2, 5, 6, 7, 8, 9, 10, 11, 12, 13, 14, 15, 16, 17, 18]) x2 >>= fun x3 =>
isO errIds x1 x3 >>= fun x4 =>
if x4 = true then (
some (.inr (.inr (w64 (x2 + 1)))))
else (
some (.inl (w64 (x2 + 1)))))
else (
some (.inr (.inl ())))
def F_28 (N : Nat)  (x1 : Int) : Option Int :=
if (!(eOk errIds x1)) = true then (
some 0)
else (
((iterO N (fun s => F_67 N x1 s) 0) : Option (Unit ⊕ Int)) >>= fun z => match z with
| .inr z => some z
| .inl _ =>
some (-1))
def F_66 (N : Nat) (x1 : Zc) (x2 : Int) (x3 : Zb) (x4 : Zc) (x5 : Zc) (x6 : Zc) (x7 : Int) : Option (Int ⊕ (Unit ⊕ Bool)) :=
if (decide (x7 < (x6.length : Int))) = true then (
idx x6 x7 >>= fun x8 =>
slc x1 0 x7 >>= fun x9 =>
F_24 N x3 x4 x5 x2 x9 >>= fun x10 =>
if (x10 != x8) = true then (
some (.inr (.inr false)))
else (
some (.inl (w64 (x7 + 1)))))
else (
some (.inr (.inl ())))
noncomputable def F_19 (N : Nat)  (x1 : Za) (x2 : Zc) (x3 : Zc) (x4 : Int) : Option Bool :=
F_27 N x1 x2 30 >>= fun (x5, x6) =>
((if (!x6) = true then (
some true)
else (
if (decide ((x3.length : Int) > 30)) = true then (
some true)
else (
F_8 N x5 x2 >>= fun x7 =>
some (!x7)))) : Option Bool) >>= fun x8 =>
if x8 = true then (
some true)
else (
F_6 N x1 x2 >>= fun (x9, x10, x11, x12) =>
if (eOk errIds x12) = true then (
F_28 N x12 >>= fun x13 =>
some (x13 == 9))
else (
F_23 N x5 x2 x4 x3 >>= fun x14 =>
((iterO N (fun s => F_66 N x3 x4 x9 x10 x11 x14 s) 0) : Option (Unit ⊕ Bool)) >>= fun z => match z with
| .inr z => some z
| .inl _ =>
some true))
end Go.Proofs.YtealkahefalaeaaGreatDoor
