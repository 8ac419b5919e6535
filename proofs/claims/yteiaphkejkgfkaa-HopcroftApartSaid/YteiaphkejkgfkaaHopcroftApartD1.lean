/-
  The pure functions, printed by my program: what each function of the code computes.
-/
import Derived.Test.YteiaphkejkgfkaaHopcroftApartE1
namespace Go.Proofs.Yteiaphkejkgfkaa
open Go Go.Eng
set_option maxRecDepth 100000
def F_dofferlaw19_pairs_l0 (_N : Nat) (x772 : (List (List Int))) (x774 : Int) : Option (((List (List Int)) × Int) ⊕ (List (List Int))) :=
if (decide (x774 < 256)) = true then (
((idx x772 1 >>= fun x882 =>
idx x882 x774 >>= fun _x889 =>
idx x772 2 >>= fun x891 =>
setI x882 x774 2 >>= fun x898 =>
setI x772 1 x898 >>= fun x899 =>
idx x891 x774 >>= fun _x902 =>
idx x899 2 >>= fun x904 =>
idx x904 x774 >>= fun _x907 =>
setI x904 x774 1 >>= fun x908 =>
setI x899 2 x908 >>= fun x909 =>
some x909) : Option (List (List Int))) >>= fun x879 =>
some (.inl (x879, w64 (x774 + 1))))
else (
some (.inr x772))
def F_dofferlaw19_pairs (N : Nat) : Option (List (List Int)) :=
mk (List.replicate 256 0) 3 >>= fun x476 =>
((iterO N (fun s => F_dofferlaw19_pairs_l0 N s.1 s.2) (x476, 0)) : Option (List (List Int))) >>= fun x699 =>
some x699
def F_subset_Right_1 (_N : Nat) (x1 : Int) (x3 : Int) : Option Bool :=
((if (decide (x1 < 0)) = true then (
some true)
else (
some (decide (x1 ≥ x3)))) : Option Bool) >>= fun x8 =>
some x8
def F_slices_IndexFunc_int_int_l0 (N : Nat) (x2 : (List Int)) (x5 : Int) (x142 : Int) : Option (Int ⊕ (Unit ⊕ Int)) :=
if (decide (x142 < (x2.length : Int))) = true then (
idx x2 x142 >>= fun x159 =>
F_subset_Right_1 N x159 x5 >>= fun x168 =>
if x168 = true then (
some (.inr (.inr x142)))
else (
some (.inl (w64 (x142 + 1)))))
else (
some (.inr (.inl ())))
def F_slices_IndexFunc_int_int (N : Nat) (x2 : (List Int)) (x5 : Int) : Option Int :=
((iterO N (fun s => F_slices_IndexFunc_int_int_l0 N x2 x5 s) 0) : Option (Unit ⊕ Int)) >>= fun z => match z with
| .inr z => some z
| .inl _ =>
some (-1)
def F_slices_ContainsFunc_int_int (N : Nat) (x2 : (List Int)) (x5 : Int) : Option Bool :=
F_slices_IndexFunc_int_int N x2 x5 >>= fun x13 =>
some (decide (x13 ≥ 0))
def F_subset_Right_2 (_N : Nat) (x1 : Int) : Option Bool :=
((if (decide (x1 < (-1))) = true then (
some true)
else (
some (decide (x1 ≥ 48)))) : Option Bool) >>= fun x6 =>
some x6
def F_slices_IndexFunc_int_int_1_l0 (N : Nat) (x2 : (List Int)) (x140 : Int) : Option (Int ⊕ (Unit ⊕ Int)) :=
if (decide (x140 < (x2.length : Int))) = true then (
idx x2 x140 >>= fun x157 =>
F_subset_Right_2 N x157 >>= fun x166 =>
if x166 = true then (
some (.inr (.inr x140)))
else (
some (.inl (w64 (x140 + 1)))))
else (
some (.inr (.inl ())))
def F_slices_IndexFunc_int_int_1 (N : Nat) (x2 : (List Int)) : Option Int :=
((iterO N (fun s => F_slices_IndexFunc_int_int_1_l0 N x2 s) 0) : Option (Unit ⊕ Int)) >>= fun z => match z with
| .inr z => some z
| .inl _ =>
some (-1)
def F_slices_ContainsFunc_int_int_1 (N : Nat) (x2 : (List Int)) : Option Bool :=
F_slices_IndexFunc_int_int_1 N x2 >>= fun x11 =>
some (decide (x11 ≥ 0))
def F_subset_Right_l0 (N : Nat) (x2 : (List (List Int))) (x242 : Int) : Option (Int ⊕ (Unit ⊕ Bool)) :=
if (decide (x242 < (x2.length : Int))) = true then (
idx x2 x242 >>= fun x262 =>
F_slices_ContainsFunc_int_int N x262 (x2.length : Int) >>= fun x274 =>
if x274 = true then (
some (.inr (.inr false)))
else (
some (.inl (w64 (x242 + 1)))))
else (
some (.inr (.inl ())))
def F_subset_Right (N : Nat) (x2 : (List (List Int))) (x5 : (List Int)) (x8 : (List Int)) : Option Bool :=
((if (decide ((x2.length : Int) < 1)) = true then (
some true)
else (
if (decide ((x2.length : Int) > 200)) = true then (
some true)
else (
if ((x5.length : Int) != (x2.length : Int)) = true then (
some true)
else (
if (decide ((x8.length : Int) < 1)) = true then (
some true)
else (
some (decide ((x8.length : Int) > 8))))))) : Option Bool) >>= fun x174 =>
if x174 = true then (
some false)
else (
((iterO N (fun s => F_subset_Right_l0 N x2 s) 0) : Option (Unit ⊕ Bool)) >>= fun z => match z with
| .inr z => some z
| .inl _ =>
((F_slices_ContainsFunc_int_int_1 N x5 >>= fun x289 =>
if x289 = true then (
some true)
else (
F_slices_ContainsFunc_int_int N x8 (x2.length : Int) >>= fun x293 =>
some x293)) : Option Bool) >>= fun x285 =>
if x285 = true then (
some false)
else (
((idx x2 0 >>= fun x312 =>
if (x312 == (List.replicate 256 0)) = true then (
idx x5 0 >>= fun x319 =>
some (x319 == (-1)))
else (
some false)) : Option Bool) >>= fun x310 =>
some x310))
def F_hopcroft_splitter_later_l0 (_N : Nat) (x26 : Int) (x196 : (List (Int × Int))) (x198 : Int) : Option (((List (Int × Int)) × Int) ⊕ (List (Int × Int))) :=
if (decide (x198 < 256)) = true then (
app x196 ([(x26, IntKind.wrap .u8 x198)]) >>= fun x219 =>
some (.inl (x219, w64 (x198 + 1))))
else (
some (.inr x196))
def F_hopcroft_splitter_later (N : Nat) (_x3 : (List (List Int))) (_x6 : (List Int)) (_x9 : (List Int)) (_x13 : (List (List (List Int)))) (_x16 : (List Int)) (_x21 : (List (List Int))) (x23 : (List (Int × Int))) (x26 : Int) : Option (List (Int × Int)) :=
((iterO N (fun s => F_hopcroft_splitter_later_l0 N x26 s.1 s.2) (x23, 0)) : Option (List (Int × Int))) >>= fun x177 =>
some x177
def F_hopcroft_splitter_begin_l1 (_N : Nat) (x16188 : Int) (x18591 : (List Int)) (x19034 : (List (List (List Int)))) (x19036 : Int) : Option (((List (List (List Int))) × Int) ⊕ (List (List (List Int)))) :=
if (decide (x19036 < 256)) = true then (
idx x18591 x19036 >>= fun x19147 =>
((idx x19034 x19147 >>= fun x19200 =>
idx x19200 x19036 >>= fun x19205 =>
idx x19034 x19147 >>= fun x19213 =>
app x19205 ([x16188]) >>= fun x19222 =>
setI x19213 x19036 x19222 >>= fun x19229 =>
setI x19034 x19147 x19229 >>= fun x19230 =>
some x19230) : Option (List (List (List Int)))) >>= fun x19197 =>
some (.inl (x19197, w64 (x19036 + 1))))
else (
some (.inr x19034))
def F_hopcroft_splitter_begin_l0 (N : Nat) (x3 : (List (List Int))) (x6 : (List Int)) (x16179 : (List (List (List Int)))) (x16182 : (List Int)) (x16186 : (List (List Int))) (x16187 : (List (Int × Int))) (x16188 : Int) : Option (((List (List (List Int))) × (List Int) × (List (List Int)) × (List (Int × Int)) × Int) ⊕ ((List (List (List Int))) × (List Int) × (List (List Int)))) :=
if (decide (x16188 < (x3.length : Int))) = true then (
((idx x3 x16188 >>= fun x18591 =>
((iterO N (fun s => F_hopcroft_splitter_begin_l1 N x16188 x18591 s.1 s.2) (x16179, 0)) : Option (List (List (List Int)))) >>= fun x18924 =>
idx x6 x16188 >>= fun x19250 =>
((if (!((mget x16187 x19250).isSome)) = true then (
idx x6 x16188 >>= fun x19278 =>
app x16186 ([[]]) >>= fun x19289 =>
some (x19289, (mset x16187 x19278 (x16186.length : Int)), (x16186.length : Int)))
else (
some (x16186, x16187, (mget x16187 x19250).getD 0))) : Option ((List (List Int)) × (List (Int × Int)) × Int)) >>= fun (x19274, x19275, x19276) =>
idx x16182 x16188 >>= fun _x19294 =>
setI x16182 x16188 x19276 >>= fun x19301 =>
((idx x19274 x19276 >>= fun x19343 =>
app x19343 ([x16188]) >>= fun x19356 =>
setI x19274 x19276 x19356 >>= fun x19363 =>
some x19363) : Option (List (List Int))) >>= fun x19341 =>
some (x18924, x19301, x19341, x19275)) : Option ((List (List (List Int))) × (List Int) × (List (List Int)) × (List (Int × Int)))) >>= fun (x18581, x18584, x18588, x18589) =>
some (.inl (x18581, x18584, x18588, x18589, w64 (x16188 + 1))))
else (
some (.inr (x16179, x16182, x16186)))
def F_hopcroft_splitter_begin_l2 (N : Nat) (x3 : (List (List Int))) (x6 : (List Int)) (x9 : (List Int)) (x14570 : (List (List (List Int)))) (x14573 : (List Int)) (x14577 : (List (List Int))) (x19440 : (List (Int × Int))) (x19442 : Int) : Option (((List (Int × Int)) × Int) ⊕ (List (Int × Int))) :=
if (decide (x19442 < (x14577.length : Int))) = true then (
F_hopcroft_splitter_later N x3 x6 x9 x14570 x14573 x14577 x19440 x19442 >>= fun x19463 =>
some (.inl (x19463, w64 (x19442 + 1))))
else (
some (.inr x19440))
def F_hopcroft_splitter_begin (N : Nat) (x3 : (List (List Int))) (x6 : (List Int)) (x9 : (List Int)) (_x13 : (List (List (List Int)))) (_x16 : (List Int)) (x21 : (List (List Int))) (x23 : (List (Int × Int))) : Option ((List (List (List Int))) × (List Int) × (List (List Int)) × (List (Int × Int))) :=
mk (List.replicate 256 []) (x3.length : Int) >>= fun x9755 =>
mk 0 (x3.length : Int) >>= fun x9761 =>
((iterO N (fun s => F_hopcroft_splitter_begin_l0 N x3 x6 s.1 s.2.1 s.2.2.1 s.2.2.2.1 s.2.2.2.2) (x9755, x9761, x21, ([] : List (Int × Int)), 0)) : Option ((List (List (List Int))) × (List Int) × (List (List Int)))) >>= fun (x14570, x14573, x14577) =>
((iterO N (fun s => F_hopcroft_splitter_begin_l2 N x3 x6 x9 x14570 x14573 x14577 s.1 s.2) (x23, 0)) : Option (List (Int × Int))) >>= fun x19423 =>
some (x14570, x14573, x14577, x19423)
def F_slices_Index_int_int_l0 (_N : Nat) (x2 : (List Int)) (x4 : Int) (x101 : Int) : Option (Int ⊕ (Unit ⊕ Int)) :=
if (decide (x101 < (x2.length : Int))) = true then (
idx x2 x101 >>= fun x114 =>
if (x4 == x114) = true then (
some (.inr (.inr x101)))
else (
some (.inl (w64 (x101 + 1)))))
else (
some (.inr (.inl ())))
def F_slices_Index_int_int (N : Nat) (x2 : (List Int)) (x4 : Int) : Option Int :=
((iterO N (fun s => F_slices_Index_int_int_l0 N x2 x4 s) 0) : Option (Unit ⊕ Int)) >>= fun z => match z with
| .inr z => some z
| .inl _ =>
some (-1)
def F_slices_Contains_int_int (N : Nat) (x2 : (List Int)) (x4 : Int) : Option Bool :=
F_slices_Index_int_int N x2 x4 >>= fun x12 =>
some (decide (x12 ≥ 0))
def F_hopcroft_splitter_split_l0 (N : Nat) (x28 : (List Int)) (x967 : (List Int)) (x1473 : Int) (x1476 : (List Int)) (x1480 : (List Int)) : Option ((Int × (List Int) × (List Int)) ⊕ ((List Int) × (List Int))) :=
if (decide (x1473 < (x967.length : Int))) = true then (
((idx x967 x1473 >>= fun x1667 =>
F_slices_Contains_int_int N x28 x1667 >>= fun x1674 =>
((if x1674 = true then (
app x1476 ([x1667]) >>= fun x1703 =>
some (x1703, x1480))
else (
app x1480 ([x1667]) >>= fun x1711 =>
some (x1476, x1711))) : Option ((List Int) × (List Int))) >>= fun (x1694, x1698) =>
some (x1694, x1698)) : Option ((List Int) × (List Int))) >>= fun (x1660, x1664) =>
some (.inl (w64 (x1473 + 1), x1660, x1664)))
else (
some (.inr (x1476, x1480)))
def F_hopcroft_splitter_split_l1 (_N : Nat) (x21 : (List (List Int))) (x1729 : (List Int)) (x1843 : (List Int)) (x1845 : Int) : Option (((List Int) × Int) ⊕ (List Int)) :=
if (decide (x1845 < (x1729.length : Int))) = true then (
idx x1729 x1845 >>= fun x1870 =>
idx x1843 x1870 >>= fun _x1875 =>
setI x1843 x1870 (x21.length : Int) >>= fun x1882 =>
some (.inl (x1882, w64 (x1845 + 1))))
else (
some (.inr x1843))
def F_hopcroft_splitter_split (N : Nat) (x3 : (List (List Int))) (x6 : (List Int)) (x9 : (List Int)) (x13 : (List (List (List Int)))) (x16 : (List Int)) (x21 : (List (List Int))) (x23 : (List (Int × Int))) (x26 : Int) (x28 : (List Int)) : Option ((List Int) × (List (List Int)) × (List (Int × Int))) :=
idx x21 x26 >>= fun x967 =>
((iterO N (fun s => F_hopcroft_splitter_split_l0 N x28 x967 s.1 s.2.1 s.2.2) (0, [], [])) : Option ((List Int) × (List Int))) >>= fun (x1345, x1349) =>
((if ((x1345.length : Int) == 0) = true then (
some true)
else (
some ((x1349.length : Int) == 0))) : Option Bool) >>= fun x1720 =>
if x1720 = true then (
some (x16, x21, x23))
else (
((if (decide ((x1345.length : Int) < (x1349.length : Int))) = true then (
some (x1349, x1345))
else (
some (x1345, x1349))) : Option ((List Int) × (List Int))) >>= fun (x1725, x1729) =>
idx x21 x26 >>= fun _x1733 =>
setI x21 x26 x1725 >>= fun x1743 =>
app x1743 ([x1729]) >>= fun x1748 =>
((iterO N (fun s => F_hopcroft_splitter_split_l1 N x21 x1729 s.1 s.2) (x16, 0)) : Option (List Int)) >>= fun x1819 =>
F_hopcroft_splitter_later N x3 x6 x9 x13 x1819 x1748 x23 (x21.length : Int) >>= fun x1891 =>
some (x1819, x1748, x1891))
def F_hopcroft_splitter_run_l1 (_N : Nat) (x13 : (List (List (List Int)))) (x13830 : Int) (x13902 : (List Int)) (x14162 : (List Int)) (x14164 : Int) : Option (((List Int) × Int) ⊕ (List Int)) :=
if (decide (x14164 < (x13902.length : Int))) = true then (
idx x13902 x14164 >>= fun x14229 =>
((idx x13 x14229 >>= fun x14261 =>
idx x14261 x13830 >>= fun x14266 =>
app x14162 x14266 >>= fun x14274 =>
some x14274) : Option (List Int)) >>= fun x14258 =>
some (.inl (x14258, w64 (x14164 + 1))))
else (
some (.inr x14162))
def F_hopcroft_splitter_run_l2 (N : Nat) (x12552 : (List Int)) (x14097 : (List Int)) (x14660 : (List Int)) (x14662 : Int) : Option (((List Int) × Int) ⊕ (List Int)) :=
if (decide (x14662 < (x14097.length : Int))) = true then (
((idx x14097 x14662 >>= fun x14803 =>
idx x12552 x14803 >>= fun x14810 =>
F_slices_Contains_int_int N x14660 x14810 >>= fun x14819 =>
((if (!x14819) = true then (
app x14660 ([x14810]) >>= fun x14836 =>
some x14836)
else (
some x14660)) : Option (List Int)) >>= fun x14831 =>
some x14831) : Option (List Int)) >>= fun x14800 =>
some (.inl (x14800, w64 (x14662 + 1))))
else (
some (.inr x14660))
def F_hopcroft_splitter_run_l3 (N : Nat) (x3 : (List (List Int))) (x6 : (List Int)) (x9 : (List Int)) (x13 : (List (List (List Int)))) (x14097 : (List Int)) (x14564 : (List Int)) (x14985 : (List Int)) (x14989 : (List (List Int))) (x14992 : (List (Int × Int))) (x14994 : Int) : Option (((List Int) × (List (List Int)) × (List (Int × Int)) × Int) ⊕ ((List Int) × (List (List Int)) × (List (Int × Int)))) :=
if (decide (x14994 < (x14564.length : Int))) = true then (
idx x14564 x14994 >>= fun x15030 =>
F_hopcroft_splitter_split N x3 x6 x9 x13 x14985 x14989 x14992 x15030 x14097 >>= fun (x15044, x15045, x15046) =>
some (.inl (x15044, x15045, x15046, w64 (x14994 + 1))))
else (
some (.inr (x14985, x14989, x14992)))
def F_hopcroft_splitter_run_l0 (N : Nat) (x3 : (List (List Int))) (x6 : (List Int)) (x9 : (List Int)) (x13 : (List (List (List Int)))) (x12552 : (List Int)) (x12556 : (List (List Int))) (x12559 : (List (Int × Int))) : Option (((List Int) × (List (List Int)) × (List (Int × Int))) ⊕ ((List Int) × (List (List Int)) × (List (Int × Int)))) :=
if (decide ((x12559.length : Int) > 0)) = true then (
((idx x12559 (w64 ((x12559.length : Int) - 1)) >>= fun x13832 =>
some (x13832.1, x13832.2)) : Option (Int × Int)) >>= fun (x13829, x13830) =>
((slc x12559 0 (w64 ((x12559.length : Int) - 1)) >>= fun x13877 =>
some x13877) : Option (List (Int × Int))) >>= fun x13874 =>
idx x12556 x13829 >>= fun x13902 =>
((iterO N (fun s => F_hopcroft_splitter_run_l1 N x13 x13830 x13902 s.1 s.2) ([], 0)) : Option (List Int)) >>= fun x14097 =>
((iterO N (fun s => F_hopcroft_splitter_run_l2 N x12552 x14097 s.1 s.2) ([], 0)) : Option (List Int)) >>= fun x14564 =>
((iterO N (fun s => F_hopcroft_splitter_run_l3 N x3 x6 x9 x13 x14097 x14564 s.1 s.2.1 s.2.2.1 s.2.2.2) (x12552, x12556, x13874, 0)) : Option ((List Int) × (List (List Int)) × (List (Int × Int)))) >>= fun (x14943, x14947, x14950) =>
some (.inl (x14943, x14947, x14950)))
else (
some (.inr (x12552, x12556, x12559)))
def F_hopcroft_splitter_run (N : Nat) (x3 : (List (List Int))) (x6 : (List Int)) (x9 : (List Int)) (x13 : (List (List (List Int)))) (x16 : (List Int)) (x21 : (List (List Int))) (x23 : (List (Int × Int))) : Option ((List Int) × (List (List Int)) × (List (Int × Int))) :=
((iterO N (fun s => F_hopcroft_splitter_run_l0 N x3 x6 x9 x13 s.1 s.2.1 s.2.2) (x16, x21, x23)) : Option ((List Int) × (List (List Int)) × (List (Int × Int)))) >>= fun (x11293, x11297, x11300) =>
some (x11293, x11297, x11300)
def F_hopcroft_parts_l0 (_N : Nat) (x414 : (List Int)) (x644 : Int) (x645 : (List (Int × Int))) (x648 : (List Int)) : Option ((Int × (List (Int × Int)) × (List Int)) ⊕ ((List (Int × Int)) × (List Int))) :=
if (decide (x644 < (x414.length : Int))) = true then (
((idx x414 x644 >>= fun x733 =>
((if (!((mget x645 x733).isSome)) = true then (
some (mset x645 x733 (x645.length : Int)))
else (
some x645)) : Option (List (Int × Int))) >>= fun x741 =>
app x648 ([(mget x741 x733).getD 0]) >>= fun x747 =>
some (x741, x747)) : Option ((List (Int × Int)) × (List Int))) >>= fun (x727, x730) =>
some (.inl (w64 (x644 + 1), x727, x730)))
else (
some (.inr (x645, x648)))
def F_hopcroft_parts (N : Nat) (x2 : (List (List Int))) (x5 : (List Int)) (x8 : (List Int)) : Option ((List Int) × Int) :=
F_hopcroft_splitter_begin N x2 x5 x8 ([]) ([]) ([]) ([]) >>= fun (x399, x400, x401, x402) =>
F_hopcroft_splitter_run N x2 x5 x8 x399 x400 x401 x402 >>= fun (x414, _x415, _x416) =>
((iterO N (fun s => F_hopcroft_parts_l0 N x414 s.1 s.2.1 s.2.2) (0, ([] : List (Int × Int)), [])) : Option ((List (Int × Int)) × (List Int))) >>= fun (x585, x588) =>
some (x588, (x585.length : Int))
def F_hopcroft_Parts (N : Nat) (x2 : (List (List Int))) (x5 : (List Int)) (x8 : (List Int)) : Option (List Int) :=
F_subset_Right N x2 x5 x8 >>= fun x32 =>
if (!x32) = true then (
some ([]))
else (
F_hopcroft_parts N x2 x5 x8 >>= fun (x38, _x39) =>
some x38)
def F_doffernum_SameInts_l0 (_N : Nat) (x2 : (List Int)) (x5 : (List Int)) (x173 : Int) : Option (Int ⊕ (Unit ⊕ Bool)) :=
if (decide (x173 < (x2.length : Int))) = true then (
idx x2 x173 >>= fun x193 =>
idx x5 x173 >>= fun x200 =>
if (x193 != x200) = true then (
some (.inr (.inr false)))
else (
some (.inl (w64 (x173 + 1)))))
else (
some (.inr (.inl ())))
def F_doffernum_SameInts (N : Nat) (x2 : (List Int)) (x5 : (List Int)) : Option Bool :=
if ((x2.length : Int) != (x5.length : Int)) = true then (
some false)
else (
((iterO N (fun s => F_doffernum_SameInts_l0 N x2 x5 s) 0) : Option (Unit ⊕ Bool)) >>= fun z => match z with
| .inr z => some z
| .inl _ =>
some true)
def F_dofferlaw19_alive (N : Nat) : Option Bool :=
F_dofferlaw19_pairs N >>= fun x36 =>
F_hopcroft_Parts N x36 ([(-1), 0, 0]) ([1]) >>= fun x45 =>
F_doffernum_SameInts N x45 ([0, 1, 1]) >>= fun x52 =>
some x52
def F_dofferlaw17_Of_l0 (_N : Nat) (x2 : (List (List Int))) (x302 : Int) (x305 : (List (List Int))) : Option ((Int × (List (List Int))) ⊕ (List (List Int))) :=
if (decide (x302 < (x2.length : Int))) = true then (
idx x2 x302 >>= fun x335 =>
app x305 ([x335]) >>= fun x347 =>
some (.inl (w64 (x302 + 1), x347)))
else (
some (.inr x305))
def F_dofferlaw17_Of (N : Nat) (x2 : (List (List Int))) (x5 : (List Int)) (x8 : (List Int)) (x10 : Int) : Option ((List (List Int)) × Bool) :=
((if (decide ((x2.length : Int) > x10)) = true then (
some true)
else (
if (decide ((x5.length : Int) > x10)) = true then (
some true)
else (
some (decide ((x8.length : Int) > 20))))) : Option Bool) >>= fun x193 =>
if x193 = true then (
some ([], false))
else (
((iterO N (fun s => F_dofferlaw17_Of_l0 N x2 s.1 s.2) (0, [])) : Option (List (List Int))) >>= fun x275 =>
some (x275, true))
def F_hopcroft_Apart_1 (_N : Nat) (x1 : Int) (x4 : (List (List Int))) (_x7 : (List Int)) (_x10 : (List Int)) : Option Bool :=
((if (decide (x1 < 0)) = true then (
some true)
else (
some (decide (x1 ≥ (x4.length : Int))))) : Option Bool) >>= fun x16 =>
some x16
def F_clone_14 (_N : Nat) (x : (List Int)) : Option (List Int) := app [] x
def F_hopcroft_Apart_l1 (N : Nat) (x2 : (List (List Int))) (x13259 : (Int × Int × (List Int))) (x14068 : (List (Int × Int × (List Int)))) (x14070 : Int) (x14071 : (List ((List Int) × Bool))) : Option (((List (Int × Int × (List Int))) × Int × (List ((List Int) × Bool))) ⊕ ((List (Int × Int × (List Int))) × (List ((List Int) × Bool)))) :=
if (decide (x14070 < 256)) = true then (
((idx x2 x13259.1 >>= fun x14358 =>
idx x14358 x14070 >>= fun x14365 =>
idx x2 x13259.2.1 >>= fun x14370 =>
idx x14370 x14070 >>= fun x14377 =>
((if (x14365 != x14377) = true then (
some (!((mget x14071 ([x14365, x14377])).getD false)))
else (
some false)) : Option Bool) >>= fun x14382 =>
((if x14382 = true then (
F_clone_14 N x13259.2.2 >>= fun x14422 =>
app x14422 ([IntKind.wrap .u8 x14070]) >>= fun x14427 =>
app x14068 ([(x14365, x14377, x14427)]) >>= fun x14437 =>
some (x14437, (mset x14071 ([x14365, x14377]) true)))
else (
some (x14068, x14071))) : Option ((List (Int × Int × (List Int))) × (List ((List Int) × Bool)))) >>= fun (x14413, x14415) =>
some (x14413, x14415)) : Option ((List (Int × Int × (List Int))) × (List ((List Int) × Bool)))) >>= fun (x14354, x14356) =>
some (.inl (x14354, w64 (x14070 + 1), x14356)))
else (
some (.inr (x14068, x14071)))
def F_hopcroft_Apart_l0 (N : Nat) (x2 : (List (List Int))) (x5 : (List Int)) (x12056 : (List (Int × Int × (List Int)))) (x12058 : (List ((List Int) × Bool))) : Option (((List (Int × Int × (List Int))) × (List ((List Int) × Bool))) ⊕ (Unit ⊕ (Unit ⊕ (List Int)))) :=
if (decide ((x12056.length : Int) > 0)) = true then (
idx x12056 0 >>= fun x13259 =>
slc x12056 1 (x12056.length : Int) >>= fun x13282 =>
idx x5 x13259.1 >>= fun x13289 =>
idx x5 x13259.2.1 >>= fun x13296 =>
if (x13289 != x13296) = true then (
some (.inr (.inr (.inr x13259.2.2))))
else (
((iterO N (fun s => F_hopcroft_Apart_l1 N x2 x13259 s.1 s.2.1 s.2.2) (x13282, 0, x12058)) : Option ((List (Int × Int × (List Int))) × (List ((List Int) × Bool)))) >>= fun (x13874, x13876) =>
some (.inl (x13874, x13876))))
else (
some (.inr (.inl ())))
def F_hopcroft_Apart (N : Nat) (x2 : (List (List Int))) (x5 : (List Int)) (x8 : (List Int)) (x10 : Int) (x11 : Int) : Option (Unit ⊕ (List Int)) :=
((F_subset_Right N x2 x5 x8 >>= fun x7252 =>
if (!x7252) = true then (
some true)
else (
F_hopcroft_Apart_1 N x10 x2 x5 x8 >>= fun x7256 =>
if x7256 = true then (
some true)
else (
F_hopcroft_Apart_1 N x11 x2 x5 x8 >>= fun x7260 =>
some x7260))) : Option Bool) >>= fun x7248 =>
if x7248 = true then (
some (.inl ()))
else (
((iterO N (fun s => F_hopcroft_Apart_l0 N x2 x5 s.1 s.2) ([(x10, x11, [])], (mset ([] : List ((List Int) × Bool)) ([x10, x11]) true))) : Option (Unit ⊕ (Unit ⊕ (List Int)))) >>= fun z => match z with
| .inr z => some z
| .inl _ =>
some (.inl ()))
def F_dofferref17_Right_l1 (_N : Nat) (x2 : (List (List Int))) (x939 : Int) (x1026 : (List Int)) (x1092 : Int) : Option (Int ⊕ (Unit ⊕ (Int ⊕ (Unit ⊕ Bool)))) :=
if (decide (x1092 < 256)) = true then (
idx x1026 x1092 >>= fun x1102 =>
((if (decide (x1102 < 0)) = true then (
some true)
else (
if (decide (x1102 ≥ (x2.length : Int))) = true then (
some true)
else (
if (x939 == 0) = true then (
some (x1102 != 0))
else (
some false)))) : Option Bool) >>= fun x1103 =>
if x1103 = true then (
some (.inr (.inr (.inr (.inr false)))))
else (
some (.inl (w64 (x1092 + 1)))))
else (
some (.inr (.inl ())))
def F_dofferref17_Right_l0 (N : Nat) (x2 : (List (List Int))) (x5 : (List Int)) (x939 : Int) : Option (Int ⊕ (Unit ⊕ Bool)) :=
if (decide (x939 < (x2.length : Int))) = true then (
idx x2 x939 >>= fun x1026 =>
((idx x5 x939 >>= fun x1052 =>
if (decide (x1052 < (-1))) = true then (
some true)
else (
idx x5 x939 >>= fun x1059 =>
some (decide (x1059 > 47)))) : Option Bool) >>= fun x1050 =>
if x1050 = true then (
some (.inr (.inr false)))
else (
((iterO N (fun s => F_dofferref17_Right_l1 N x2 x939 x1026 s) 0) : Option (Unit ⊕ (Int ⊕ (Unit ⊕ Bool)))) >>= fun z => match z with
| .inr z => some z
| .inl _ =>
some (.inl (w64 (x939 + 1)))))
else (
some (.inr (.inl ())))
def F_dofferref17_Right_l2 (_N : Nat) (x2 : (List (List Int))) (x8 : (List Int)) (x1157 : Int) : Option (Int ⊕ (Unit ⊕ Bool)) :=
if (decide (x1157 < (x8.length : Int))) = true then (
idx x8 x1157 >>= fun x1173 =>
((if (decide (x1173 < 0)) = true then (
some true)
else (
some (decide (x1173 ≥ (x2.length : Int))))) : Option Bool) >>= fun x1180 =>
if x1180 = true then (
some (.inr (.inr false)))
else (
some (.inl (w64 (x1157 + 1)))))
else (
some (.inr (.inl ())))
def F_dofferref17_Right (N : Nat) (x2 : (List (List Int))) (x5 : (List Int)) (x8 : (List Int)) : Option Bool :=
((if (decide ((x2.length : Int) < 1)) = true then (
some true)
else (
if (decide ((x2.length : Int) > 200)) = true then (
some true)
else (
if ((x5.length : Int) != (x2.length : Int)) = true then (
some true)
else (
if (decide ((x8.length : Int) < 1)) = true then (
some true)
else (
some (decide ((x8.length : Int) > 8))))))) : Option Bool) >>= fun x603 =>
if x603 = true then (
some false)
else (
((iterO N (fun s => F_dofferref17_Right_l0 N x2 x5 s) 0) : Option (Unit ⊕ Bool)) >>= fun z => match z with
| .inr z => some z
| .inl _ =>
((iterO N (fun s => F_dofferref17_Right_l2 N x2 x8 s) 0) : Option (Unit ⊕ Bool)) >>= fun z => match z with
| .inr z => some z
| .inl _ =>
idx x5 0 >>= fun x1184 =>
some (x1184 == (-1)))
def F_dofferref19_Far_l1 (_N : Nat) (x2 : (List (List Int))) (x5 : (List Int)) (x262929 : Int) (x264106 : (List Int)) (x264108 : Int) : Option (((List Int) × Int) ⊕ (List Int)) :=
if (decide (x264108 < (x2.length : Int))) = true then (
((idx x264106 x264108 >>= fun _x264282 =>
setI x264106 x264108 (-1) >>= fun x264289 =>
idx x5 x262929 >>= fun x264293 =>
idx x5 x264108 >>= fun x264300 =>
((if (x264293 != x264300) = true then (
idx x264289 x264108 >>= fun _x264322 =>
setI x264289 x264108 0 >>= fun x264329 =>
some x264329)
else (
some x264289)) : Option (List Int)) >>= fun x264319 =>
some x264319) : Option (List Int)) >>= fun x264279 =>
some (.inl (x264279, w64 (x264108 + 1))))
else (
some (.inr x264106))
def F_dofferref19_Far_l0 (N : Nat) (x2 : (List (List Int))) (x5 : (List Int)) (x262928 : (List (List Int))) (x262929 : Int) : Option (((List (List Int)) × Int) ⊕ (List (List Int))) :=
if (decide (x262929 < (x2.length : Int))) = true then (
mk 0 (x2.length : Int) >>= fun x263641 =>
((iterO N (fun s => F_dofferref19_Far_l1 N x2 x5 x262929 s.1 s.2) (x263641, 0)) : Option (List Int)) >>= fun x263989 =>
app x262928 ([x263989]) >>= fun x264339 =>
some (.inl (x264339, w64 (x262929 + 1))))
else (
some (.inr x262928))
def F_dofferref19_Far_l5 (_N : Nat) (x2 : (List (List Int))) (x434887 : Int) (x505946 : Int) (x517789 : Int) (x519762 : Int) (x519764 : (List (List Int))) (x519765 : Bool) : Option ((Int × (List (List Int)) × Bool) ⊕ ((List (List Int)) × Bool)) :=
((if (decide (x519762 < 256)) = true then (
idx x519764 x505946 >>= fun x519980 =>
idx x519980 x517789 >>= fun x519989 =>
some (decide (x519989 < 0)))
else (
some false)) : Option Bool) >>= fun x519978 =>
if x519978 = true then (
((idx x2 x505946 >>= fun x520076 =>
idx x520076 x519762 >>= fun x520083 =>
idx x519764 x520083 >>= fun x520088 =>
idx x2 x517789 >>= fun x520097 =>
idx x520097 x519762 >>= fun x520104 =>
idx x520088 x520104 >>= fun x520109 =>
((if (x520109 == (w64 (x434887 - 1))) = true then (
idx x519764 x505946 >>= fun x520135 =>
idx x520135 x517789 >>= fun _x520144 =>
setI x520135 x517789 x434887 >>= fun x520149 =>
setI x519764 x505946 x520149 >>= fun x520150 =>
some (x520150, true))
else (
some (x519764, x519765))) : Option ((List (List Int)) × Bool)) >>= fun (x520132, x520133) =>
some (x520132, x520133)) : Option ((List (List Int)) × Bool)) >>= fun (x520073, x520074) =>
some (.inl (w64 (x519762 + 1), x520073, x520074)))
else (
some (.inr (x519764, x519765)))
def F_dofferref19_Far_l4 (N : Nat) (x2 : (List (List Int))) (x434887 : Int) (x505946 : Int) (x517789 : Int) (x517791 : (List (List Int))) (x517792 : Bool) : Option ((Int × (List (List Int)) × Bool) ⊕ ((List (List Int)) × Bool)) :=
if (decide (x517789 < (x2.length : Int))) = true then (
((iterO N (fun s => F_dofferref19_Far_l5 N x2 x434887 x505946 x517789 s.1 s.2.1 s.2.2) (0, x517791, x517792)) : Option ((List (List Int)) × Bool)) >>= fun (x519565, x519566) =>
some (.inl (w64 (x517789 + 1), x519565, x519566)))
else (
some (.inr (x517791, x517792)))
def F_dofferref19_Far_l3 (N : Nat) (x2 : (List (List Int))) (x434887 : Int) (x505946 : Int) (x505948 : (List (List Int))) (x505949 : Bool) : Option ((Int × (List (List Int)) × Bool) ⊕ ((List (List Int)) × Bool)) :=
if (decide (x505946 < (x2.length : Int))) = true then (
((iterO N (fun s => F_dofferref19_Far_l4 N x2 x434887 x505946 s.1 s.2.1 s.2.2) (0, x505948, x505949)) : Option ((List (List Int)) × Bool)) >>= fun (x516605, x516606) =>
some (.inl (w64 (x505946 + 1), x516605, x516606)))
else (
some (.inr (x505948, x505949)))
def F_dofferref19_Far_l2 (N : Nat) (x2 : (List (List Int))) (x434886 : (List (List Int))) (x434887 : Int) : Option (((List (List Int)) × Int) ⊕ (List (List Int))) :=
((iterO N (fun s => F_dofferref19_Far_l3 N x2 x434887 s.1 s.2.1 s.2.2) (0, x434886, false)) : Option ((List (List Int)) × Bool)) >>= fun (x498840, x498841) =>
if (!x498841) = true then (
some (.inr x498840))
else (
some (.inl (x498840, w64 (x434887 + 1))))
def F_dofferref19_Far (N : Nat) (x2 : (List (List Int))) (x5 : (List Int)) (_x8 : (List Int)) : Option (List (List Int)) :=
((iterO N (fun s => F_dofferref19_Far_l0 N x2 x5 s.1 s.2) ([], 0)) : Option (List (List Int))) >>= fun x262217 =>
iterO N (fun s => F_dofferref19_Far_l2 N x2 s.1 s.2) (x262217, 1)
def F_dofferref19_Apart_l1 (_N : Nat) (x2 : (List (List Int))) (x2479 : (List (List Int))) (x4114 : Int) (x4115 : Int) (x4118 : (List Int)) (x4795 : Int) : Option (Int ⊕ (Int × Int × (List Int))) :=
if (decide (x4795 < 256)) = true then (
idx x2 x4114 >>= fun x4861 =>
idx x4861 x4795 >>= fun x4868 =>
idx x2 x4115 >>= fun x4873 =>
idx x4873 x4795 >>= fun x4880 =>
idx x2479 x4868 >>= fun x4885 =>
idx x4885 x4880 >>= fun x4894 =>
idx x2479 x4114 >>= fun x4899 =>
idx x4899 x4115 >>= fun x4908 =>
if (x4894 == (w64 (x4908 - 1))) = true then (
app x4118 ([IntKind.wrap .u8 x4795]) >>= fun x4915 =>
some (.inr (x4868, x4880, x4915)))
else (
some (.inl (w64 (x4795 + 1)))))
else (
some (.inr (x4114, x4115, x4118)))
def F_dofferref19_Apart_l0 (N : Nat) (x2 : (List (List Int))) (x2479 : (List (List Int))) (x4114 : Int) (x4115 : Int) (x4118 : (List Int)) : Option ((Int × Int × (List Int)) ⊕ (List Int)) :=
idx x2479 x4114 >>= fun x4526 =>
idx x4526 x4115 >>= fun x4535 =>
if (decide (x4535 > 0)) = true then (
((iterO N (fun s => F_dofferref19_Apart_l1 N x2 x2479 x4114 x4115 x4118 s) 0) : Option (Int × Int × (List Int))) >>= fun (x4727, x4728, x4731) =>
some (.inl (x4727, x4728, x4731)))
else (
some (.inr x4118))
def F_dofferref19_Apart (N : Nat) (x2 : (List (List Int))) (x5 : (List Int)) (x8 : (List Int)) (x10 : Int) (x11 : Int) : Option ((List Int) × Bool) :=
((if (decide (x10 < 0)) = true then (
some true)
else (
if (decide (x11 < 0)) = true then (
some true)
else (
if (decide (x10 ≥ (x2.length : Int))) = true then (
some true)
else (
some (decide (x11 ≥ (x2.length : Int))))))) : Option Bool) >>= fun x2472 =>
if x2472 = true then (
some ([], false))
else (
F_dofferref19_Far N x2 x5 x8 >>= fun x2479 =>
idx x2479 x10 >>= fun x2483 =>
idx x2483 x11 >>= fun x2492 =>
if (decide (x2492 < 0)) = true then (
some ([], false))
else (
((iterO N (fun s => F_dofferref19_Apart_l0 N x2 x2479 s.1 s.2.1 s.2.2) (x10, x11, [])) : Option (List Int)) >>= fun x3709 =>
some (x3709, true)))
def F_dofferlaw19_HopcroftApart (N : Nat) (x2 : (List (List Int))) (x5 : (List Int)) (x8 : (List Int)) (x10 : Int) (x11 : Int) : Option Bool :=
F_dofferlaw19_alive N >>= fun x84 =>
if (!x84) = true then (
some false)
else (
F_dofferlaw17_Of N x2 x5 x8 14 >>= fun (x90, x91) =>
if (!x91) = true then (
some true)
else (
F_hopcroft_Apart N x2 x5 x8 x10 x11 >>= fun z => match z with
| .inl _ => (
F_dofferref17_Right N x90 x5 x8 >>= fun x107 =>
if (!x107) = true then (
((some ()) : Option Unit) >>= fun _ =>
some ((([] : List Int).length : Int) == 0))
else (
F_dofferref19_Apart N x90 x5 x8 x10 x11 >>= fun (x115, x116) =>
((if (false == x116) = true then (
some ((bstr ([])).toList == (bstr x115).toList))
else (
some false)) : Option Bool) >>= fun x121 =>
some x121))
| .inr x101 => (
F_dofferref17_Right N x90 x5 x8 >>= fun x128 =>
if (!x128) = true then (
((some ()) : Option Unit) >>= fun _ =>
some false)
else (
F_dofferref19_Apart N x90 x5 x8 x10 x11 >>= fun (x136, x137) =>
((if (true == x137) = true then (
some ((bstr x101).toList == (bstr x136).toList))
else (
some false)) : Option Bool) >>= fun x142 =>
some x142))))
end Go.Proofs.Yteiaphkejkgfkaa
