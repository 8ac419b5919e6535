/-
  The pure functions, printed by my program: what each function of the code computes.
-/
import Derived.Test.YticipjjhbebegaaDoorScriptLinesE1
namespace Go.Proofs.YticipjjhbebegaaDoor
open Go Go.Eng
set_option maxRecDepth 100000
def errIds : List Nat := [0, 1, 2, 3, 4, 5, 6, 7, 8, 9, 10, 11, 12, 13, 14, 15, 16, 17]
def F_strings_Count (_N : Nat)  : Option Unit :=
some ()
def F_internal_stringslite_IndexByte_1 (_N : Nat)  (_x1 : ByteArray) : Option Unit :=
some ()
def F_internal_stringslite_Index_1 (N : Nat)  (x1 : ByteArray) : Option Int :=
((some ()) : Option Unit) >>= fun _ =>
if ((⟨#[32]⟩ : ByteArray).toList == x1.toList) = true then (
some 0)
else (
F_internal_stringslite_IndexByte_1 N x1 >>= fun _ =>
some (sfind x1 32))
def F_strings_Index_1 (N : Nat)  (x1 : ByteArray) : Option Int :=
F_internal_stringslite_Index_1 N x1 >>= fun x9 =>
some x9
def F_strings_genSplit_l0 (N : Nat) (x300 : ByteArray) (x301 : Int) (x303 : (List ByteArray)) : Option ((ByteArray × Int × (List ByteArray)) ⊕ (ByteArray × Int × (List ByteArray))) :=
if (decide (x301 < (w64 ((imin (w64 ((scount (⟨#[102, 101, 101, 100, 32, 48, 32, 97, 97, 98]⟩ : ByteArray) 32) + 1)) (w64 (10 + 1))) - 1)))) = true then (
F_strings_Index_1 N x300 >>= fun x333 =>
if (decide (x333 < 0)) = true then (
some (.inr (x300, x301, x303)))
else (
sslc x300 0 (w64 (x333 + 0)) >>= fun x335 =>
idx x303 x301 >>= fun _x336 =>
setI x303 x301 x335 >>= fun x343 =>
sslc x300 (w64 (x333 + 1)) (x300.size : Int) >>= fun x347 =>
some (.inl (x347, w64 (x301 + 1), x343))))
else (
some (.inr (x300, x301, x303)))
def F_strings_genSplit (N : Nat)  : Option (List ByteArray) :=
((F_strings_Count N >>= fun _ =>
some ()) : Option Unit) >>= fun _ =>
mk ByteArray.empty (imin (w64 ((scount (⟨#[102, 101, 101, 100, 32, 48, 32, 97, 97, 98]⟩ : ByteArray) 32) + 1)) (w64 (10 + 1))) >>= fun x200 =>
((iterO N (fun s => F_strings_genSplit_l0 N s.1 s.2.1 s.2.2) ((⟨#[102, 101, 101, 100, 32, 48, 32, 97, 97, 98]⟩ : ByteArray), 0, x200)) : Option (ByteArray × Int × (List ByteArray))) >>= fun (x273, x274, x276) =>
idx x276 x274 >>= fun _x349 =>
setI x276 x274 x273 >>= fun x356 =>
slc x356 0 (w64 (x274 + 1)) >>= fun x360 =>
some x360
def F_strings_Split (N : Nat)  : Option (List ByteArray) :=
F_strings_genSplit N >>= fun x16 =>
some x16
def F_script_forms (_N : Nat)  : Option Unit :=
some ()
def F_script_Parse_1 (_N : Nat)  (x1 : ByteArray) (_x2 : Int) (_x3 : ByteArray) (x6 : (List ByteArray)) : Option Bool :=
idx x6 0 >>= fun x21 =>
some (x1.toList == x21.toList)
def F_slices_IndexFunc_script_form_script_form_l0 (N : Nat) (x2 : (List (ByteArray × Int × ByteArray))) (x6 : (List ByteArray)) (x245 : Int) : Option (Int ⊕ (Unit ⊕ Int)) :=
if (decide (x245 < (x2.length : Int))) = true then (
idx x2 x245 >>= fun x272 =>
F_script_Parse_1 N x272.1 x272.2.1 x272.2.2 x6 >>= fun x291 =>
if x291 = true then (
some (.inr (.inr x245)))
else (
some (.inl (w64 (x245 + 1)))))
else (
some (.inr (.inl ())))
def F_slices_IndexFunc_script_form_script_form (N : Nat)  (x2 : (List (ByteArray × Int × ByteArray))) (x6 : (List ByteArray)) : Option Int :=
((iterO N (fun s => F_slices_IndexFunc_script_form_script_form_l0 N x2 x6 s) 0) : Option (Unit ⊕ Int)) >>= fun z => match z with
| .inr z => some z
| .inl _ =>
some (-1)
def F_internal_stringslite_HasPrefix (_N : Nat)  (x1 : ByteArray) : Option Bool :=
((if (decide ((x1.size : Int) ≥ 1)) = true then (
sslc x1 0 1 >>= fun x11 =>
some (x11.toList == (⟨#[45]⟩ : ByteArray).toList))
else (
some false)) : Option Bool) >>= fun x9 =>
some x9
def F_internal_stringslite_CutPrefix (N : Nat)  (x1 : ByteArray) : Option (ByteArray × Bool) :=
F_internal_stringslite_HasPrefix N x1 >>= fun x11 =>
if (!x11) = true then (
some (x1, false))
else (
sslc x1 1 (x1.size : Int) >>= fun x13 =>
some (x13, true))
def F_strings_CutPrefix (N : Nat)  (x1 : ByteArray) : Option (ByteArray × Bool) :=
F_internal_stringslite_CutPrefix N x1 >>= fun (x11, x12) =>
some (x11, x12)
def F_script_Numeral_1 (_N : Nat)  (x1 : Int) : Option Int :=
some (IntKind.wrap .u8 (w64 (48 + (imax x1 (w64 (0 - x1))))))
def F_slices_Reverse_byte_byte_1_l0 (_N : Nat) (x1291 : (List Int)) (x1293 : Int) (x1294 : Int) : Option (((List Int) × Int × Int) ⊕ (List Int)) :=
if (decide (x1293 < x1294)) = true then (
((idx x1291 x1294 >>= fun x1487 =>
idx x1291 x1293 >>= fun x1494 =>
idx x1291 x1293 >>= fun _x1501 =>
setI x1291 x1293 x1487 >>= fun x1508 =>
idx x1508 x1294 >>= fun _x1512 =>
setI x1508 x1294 x1494 >>= fun x1519 =>
some x1519) : Option (List Int)) >>= fun x1484 =>
some (.inl (x1484, w64 (x1293 + 1), w64 (x1294 - 1))))
else (
some (.inr x1291))
def F_slices_Reverse_byte_byte_1 (N : Nat)  (x2 : (List Int)) : Option (List Int) :=
((iterO N (fun s => F_slices_Reverse_byte_byte_1_l0 N s.1 s.2.1 s.2.2) (x2, 0, w64 ((x2.length : Int) - 1))) : Option (List Int)) >>= fun x1161 =>
some x1161
def F_script_Numeral_l0 (N : Nat) (x242 : (List Int)) (x244 : Int) : Option (((List Int) × Int) ⊕ (List Int)) :=
if (x244 != 0) = true then (
F_script_Numeral_1 N (x244.tmod 10) >>= fun x268 =>
app x242 ([x268]) >>= fun x272 =>
some (.inl (x272, w64 (x244.tdiv 10))))
else (
some (.inr x242))
def F_script_Numeral (N : Nat)  (x1 : Int) : Option ByteArray :=
F_script_Numeral_1 N (x1.tmod 10) >>= fun x159 =>
((iterO N (fun s => F_script_Numeral_l0 N s.1 s.2) ([x159], w64 (x1.tdiv 10))) : Option (List Int)) >>= fun x220 =>
((if (decide (x1 < 0)) = true then (
app x220 ([45]) >>= fun x294 =>
some x294)
else (
some x220)) : Option (List Int)) >>= fun x289 =>
F_slices_Reverse_byte_byte_1 N x289 >>= fun x304 =>
some (bstr x304)
def F_script_Number_l0 (_N : Nat) (x96 : ByteArray) (x145 : Int) (x146 : Int) : Option ((Int × Int) ⊕ (Int ⊕ (Int × Int))) :=
if (decide (x145 < (x96.size : Int))) = true then (
((sidx x96 x145 >>= fun x165 =>
if (decide (x165 < 48)) = true then (
some true)
else (
sidx x96 x145 >>= fun x166 =>
if (decide (x166 > 57)) = true then (
some true)
else (
some (decide (x145 ≥ 9))))) : Option Bool) >>= fun x163 =>
if x163 = true then (
some (.inr (.inr (0, 1))))
else (
sidx x96 x145 >>= fun x168 =>
some (.inl (w64 (x145 + 1), w64 ((w64 (10 * x146)) + (IntKind.wrap .i64 (IntKind.wrap .u8 (x168 - 48))))))))
else (
some (.inr (.inl x146)))
def F_script_Number (N : Nat)  (x1 : ByteArray) : Option (Int × Int) :=
F_strings_CutPrefix N x1 >>= fun (x96, x97) =>
((iterO N (fun s => F_script_Number_l0 N x96 s.1 s.2) (0, 0)) : Option (Int ⊕ (Int × Int))) >>= fun z => match z with
| .inr z => some z
| .inl x133 =>
((if x97 = true then (
some (w64 (0 - x133)))
else (
some x133)) : Option Int) >>= fun x170 =>
((if (x96.toList == ByteArray.empty.toList) = true then (
some true)
else (
F_script_Numeral N x170 >>= fun x181 =>
some (x181.toList != x1.toList))) : Option Bool) >>= fun x177 =>
if x177 = true then (
some (0, 1))
else (
some (x170, 0))
def F_internal_stringslite_IndexByte_2 (_N : Nat)  (_x1 : Int) : Option Unit :=
some ()
def F_strings_IndexByte (N : Nat)  (x1 : Int) : Option Unit :=
F_internal_stringslite_IndexByte_2 N x1 >>= fun _ =>
some ()
def F_internal_stringslite_IndexByte_3 (_N : Nat)  (_x1 : Int) : Option Unit :=
some ()
def F_strings_IndexByte_1 (N : Nat)  (x1 : Int) : Option Unit :=
F_internal_stringslite_IndexByte_3 N x1 >>= fun _ =>
some ()
def F_spell_figure (N : Nat)  (x1 : Int) : Option (Int × Bool) :=
((if (decide (x1 ≥ 65)) = true then (
some (decide (x1 ≤ 70)))
else (
some false)) : Option Bool) >>= fun x13 =>
((if x13 = true then (
some (IntKind.wrap .u8 (x1 + 32)))
else (
some x1)) : Option Int) >>= fun x16 =>
F_strings_IndexByte_1 N x16 >>= fun _ =>
some (sfind (⟨#[48, 49, 50, 51, 52, 53, 54, 55, 56, 57, 97, 98, 99, 100, 101, 102]⟩ : ByteArray) x16, decide ((sfind (⟨#[48, 49, 50, 51, 52, 53, 54, 55, 56, 57, 97, 98, 99, 100, 101, 102]⟩ : ByteArray) x16) ≥ 0))
def F_spell_pair_l0 (N : Nat) (x1 : ByteArray) (x115 : Int) (x116 : Int) (x117 : Int) : Option ((Int × Int × Int) ⊕ ((Int × Int) ⊕ (Int × Int × Int))) :=
if (decide (x116 < 2)) = true then (
if (decide (x115 ≥ (x1.size : Int))) = true then (
some (.inr (.inr (0, x115, 3))))
else (
sidx x1 x115 >>= fun x131 =>
F_spell_figure N x131 >>= fun (x134, x135) =>
if (!x135) = true then (
some (.inr (.inr (0, x115, 1))))
else (
some (.inl (w64 (x115 + 1), w64 (x116 + 1), w64 ((w64 (16 * x117)) + x134))))))
else (
some (.inr (.inl (x115, x117))))
def F_spell_pair (N : Nat)  (x1 : ByteArray) (x2 : Int) : Option (Int × Int × Int) :=
((iterO N (fun s => F_spell_pair_l0 N x1 s.1 s.2.1 s.2.2) (x2, 0, 0)) : Option ((Int × Int) ⊕ (Int × Int × Int))) >>= fun z => match z with
| .inr z => some z
| .inl (x103, x104) =>
some (IntKind.wrap .u8 x104, x103, 0)
def F_spell_mark (_N : Nat)  (x1 : Int) : Option Bool :=
((if (decide (x1 ≥ 97)) = true then (
if (decide (x1 ≤ 122)) = true then (
some true)
else (
if (decide (x1 ≥ 65)) = true then (
if (decide (x1 ≤ 90)) = true then (
some true)
else (
if (decide (x1 ≥ 48)) = true then (
some (decide (x1 ≤ 57)))
else (
some false)))
else (
if (decide (x1 ≥ 48)) = true then (
some (decide (x1 ≤ 57)))
else (
some false))))
else (
if (decide (x1 ≥ 65)) = true then (
if (decide (x1 ≤ 90)) = true then (
some true)
else (
if (decide (x1 ≥ 48)) = true then (
some (decide (x1 ≤ 57)))
else (
some false)))
else (
if (decide (x1 ≥ 48)) = true then (
some (decide (x1 ≤ 57)))
else (
some false)))) : Option Bool) >>= fun x9 =>
((if (decide (x1 ≥ 33)) = true then (
if (decide (x1 ≤ 126)) = true then (
some (!x9))
else (
some false))
else (
some false)) : Option Bool) >>= fun x12 =>
some x12
def F_spell_Read_1 (N : Nat)  (x1 : ByteArray) (x2 : Int) : Option (Int × Int × Int) :=
((if (decide (x2 < 0)) = true then (
some true)
else (
some (decide (x2 ≥ (x1.size : Int))))) : Option Bool) >>= fun x26 =>
if x26 = true then (
some (0, (x1.size : Int), 3))
else (
sidx x1 x2 >>= fun x29 =>
if (x29 != 92) = true then (
sidx x1 x2 >>= fun x30 =>
some (x30, w64 (x2 + 1), 0))
else (
if (decide ((w64 (x2 + 1)) ≥ (x1.size : Int))) = true then (
some (0, (x1.size : Int), 3))
else (
sidx x1 (w64 (x2 + 1)) >>= fun x31 =>
F_strings_IndexByte N x31 >>= fun _ =>
if (decide ((sfind (⟨#[110, 116, 114, 115]⟩ : ByteArray) x31) ≥ 0)) = true then (
sidx (⟨#[10, 9, 13, 32]⟩ : ByteArray) (sfind (⟨#[110, 116, 114, 115]⟩ : ByteArray) x31) >>= fun x35 =>
some (x35, w64 (x2 + 2), 0))
else (
if (x31 == 120) = true then (
F_spell_pair N x1 (w64 (x2 + 2)) >>= fun (x38, x39, x40) =>
some (x38, x39, x40))
else (
F_spell_mark N x31 >>= fun x44 =>
if x44 = true then (
some (x31, w64 (x2 + 2), 0))
else (
some (0, w64 (x2 + 1), 1)))))))
def F_spell_Bytes_l0 (N : Nat) (x1 : ByteArray) (x223 : (List Int)) (x225 : Int) : Option (((List Int) × Int) ⊕ ((List Int) ⊕ ((List Int) × Int × Int))) :=
if (decide (x225 < (x1.size : Int))) = true then (
F_spell_Read_1 N x1 x225 >>= fun (x251, x252, x253) =>
if (eOk errIds x253) = true then (
some (.inr (.inr ([], x252, x253))))
else (
app x223 ([x251]) >>= fun x257 =>
some (.inl (x257, x252))))
else (
some (.inr (.inl x223)))
def F_spell_Bytes (N : Nat)  (x1 : ByteArray) : Option ((List Int) × Int × Int) :=
((iterO N (fun s => F_spell_Bytes_l0 N x1 s.1 s.2) ([], 0)) : Option ((List Int) ⊕ ((List Int) × Int × Int))) >>= fun z => match z with
| .inr z => some z
| .inl x199 =>
some (x199, (x1.size : Int), 0)
def F_script_read (N : Nat)  (x1 : ByteArray) : Option ((List Int) × Int) :=
if (x1.toList == (⟨#[46]⟩ : ByteArray).toList) = true then (
some ([], 0))
else (
if (x1.toList == ByteArray.empty.toList) = true then (
some ([], 3))
else (
F_spell_Bytes N x1 >>= fun (x20, _x21, x22) =>
some (x20, x22)))
def F_script_field_1 (N : Nat)  (_x2 : Int) (x3 : Int) (x4 : Int) (x6 : (List Int)) (x9 : Int) (x10 : ByteArray) : Option (Int × Int × (List Int) × Int) :=
((((if (x9 == 110) = true then (
F_script_Number N x10 >>= fun (x422, x423) =>
some (x422, x4, x6, x423))
else (
((if (x9 == 109) = true then (
F_script_Number N x10 >>= fun (x456, x457) =>
some (x456, x6, x457))
else (
F_script_read N x10 >>= fun (x464, x465) =>
some (x4, x464, x465))) : Option (Int × (List Int) × Int)) >>= fun (x447, x450, x452) =>
some (x3, x447, x450, x452))) : Option (Int × Int × (List Int) × Int)) >>= fun (x412, x413, x416, x418) =>
some (x412, x413, x416, x418)) : Option (Int × Int × (List Int) × Int)) >>= fun (x354, x355, x358, x360) =>
some (x354, x355, x358, x360)
def F_script_Parse_l0 (N : Nat) (x317 : (List ByteArray)) (x371 : (ByteArray × Int × ByteArray)) (x387 : (ByteArray × Int × ByteArray)) (x543 : Int) (x544 : Int) (x545 : Int) (x548 : (List Int)) : Option ((Int × Int × Int × (List Int)) ⊕ ((Int × Int × (List Int)) ⊕ (Int × Int × Int × (List Int) × Int))) :=
if (decide (x543 < ((sby x387.2.2).length : Int))) = true then (
idx (sby x387.2.2) x543 >>= fun x586 =>
idx x317 (w64 (x543 + 1)) >>= fun x593 =>
F_script_field_1 N x371.2.1 x544 x545 x548 x586 x593 >>= fun (x604, x605, x606, x607) =>
if (eOk errIds x607) = true then (
some (.inr (.inr (0, 0, 0, [], x607))))
else (
some (.inl (w64 (x543 + 1), x604, x605, x606))))
else (
some (.inr (.inl (x544, x545, x548))))
def F_script_Parse (N : Nat)  : Option (Int × Int × Int × (List Int) × Int) :=
F_strings_Split N >>= fun x317 =>
F_script_forms N >>= fun _ =>
F_slices_IndexFunc_script_form_script_form N ([((⟨#[111, 112, 101, 110]⟩ : ByteArray), (1 : Int), ByteArray.empty), ((⟨#[102, 101, 101, 100]⟩ : ByteArray), (2 : Int), (⟨#[110, 98]⟩ : ByteArray)), ((⟨#[99, 108, 111, 115, 101]⟩ : ByteArray), (3 : Int), (⟨#[110]⟩ : ByteArray)), ((⟨#[105, 110, 115, 116, 97, 108, 108]⟩ : ByteArray), (4 : Int), (⟨#[110, 98]⟩ : ByteArray)), ((⟨#[100, 114, 97, 105, 110]⟩ : ByteArray), (5 : Int), (⟨#[110, 109]⟩ : ByteArray)), ((⟨#[116, 105, 99, 107]⟩ : ByteArray), (6 : Int), ByteArray.empty), ((⟨#[101, 110, 100]⟩ : ByteArray), (7 : Int), (⟨#[110, 109]⟩ : ByteArray))]) x317 >>= fun x331 =>
if (decide (x331 < 0)) = true then (
((some ()) : Option Unit) >>= fun _ =>
some (0, 0, 0, [], 5))
else (
idx ([((⟨#[111, 112, 101, 110]⟩ : ByteArray), (1 : Int), ByteArray.empty), ((⟨#[102, 101, 101, 100]⟩ : ByteArray), (2 : Int), (⟨#[110, 98]⟩ : ByteArray)), ((⟨#[99, 108, 111, 115, 101]⟩ : ByteArray), (3 : Int), (⟨#[110]⟩ : ByteArray)), ((⟨#[105, 110, 115, 116, 97, 108, 108]⟩ : ByteArray), (4 : Int), (⟨#[110, 98]⟩ : ByteArray)), ((⟨#[100, 114, 97, 105, 110]⟩ : ByteArray), (5 : Int), (⟨#[110, 109]⟩ : ByteArray)), ((⟨#[116, 105, 99, 107]⟩ : ByteArray), (6 : Int), ByteArray.empty), ((⟨#[101, 110, 100]⟩ : ByteArray), (7 : Int), (⟨#[110, 109]⟩ : ByteArray))]) x331 >>= fun x337 =>
if (decide ((w64 ((x317.length : Int) - 1)) < (x337.2.2.size : Int))) = true then (
((some ()) : Option Unit) >>= fun _ =>
some (0, 0, 0, [], 3))
else (
idx ([((⟨#[111, 112, 101, 110]⟩ : ByteArray), (1 : Int), ByteArray.empty), ((⟨#[102, 101, 101, 100]⟩ : ByteArray), (2 : Int), (⟨#[110, 98]⟩ : ByteArray)), ((⟨#[99, 108, 111, 115, 101]⟩ : ByteArray), (3 : Int), (⟨#[110]⟩ : ByteArray)), ((⟨#[105, 110, 115, 116, 97, 108, 108]⟩ : ByteArray), (4 : Int), (⟨#[110, 98]⟩ : ByteArray)), ((⟨#[100, 114, 97, 105, 110]⟩ : ByteArray), (5 : Int), (⟨#[110, 109]⟩ : ByteArray)), ((⟨#[116, 105, 99, 107]⟩ : ByteArray), (6 : Int), ByteArray.empty), ((⟨#[101, 110, 100]⟩ : ByteArray), (7 : Int), (⟨#[110, 109]⟩ : ByteArray))]) x331 >>= fun x354 =>
if (decide ((w64 ((x317.length : Int) - 1)) > (x354.2.2.size : Int))) = true then (
((some ()) : Option Unit) >>= fun _ =>
some (0, 0, 0, [], 4))
else (
idx ([((⟨#[111, 112, 101, 110]⟩ : ByteArray), (1 : Int), ByteArray.empty), ((⟨#[102, 101, 101, 100]⟩ : ByteArray), (2 : Int), (⟨#[110, 98]⟩ : ByteArray)), ((⟨#[99, 108, 111, 115, 101]⟩ : ByteArray), (3 : Int), (⟨#[110]⟩ : ByteArray)), ((⟨#[105, 110, 115, 116, 97, 108, 108]⟩ : ByteArray), (4 : Int), (⟨#[110, 98]⟩ : ByteArray)), ((⟨#[100, 114, 97, 105, 110]⟩ : ByteArray), (5 : Int), (⟨#[110, 109]⟩ : ByteArray)), ((⟨#[116, 105, 99, 107]⟩ : ByteArray), (6 : Int), ByteArray.empty), ((⟨#[101, 110, 100]⟩ : ByteArray), (7 : Int), (⟨#[110, 109]⟩ : ByteArray))]) x331 >>= fun x371 =>
idx ([((⟨#[111, 112, 101, 110]⟩ : ByteArray), (1 : Int), ByteArray.empty), ((⟨#[102, 101, 101, 100]⟩ : ByteArray), (2 : Int), (⟨#[110, 98]⟩ : ByteArray)), ((⟨#[99, 108, 111, 115, 101]⟩ : ByteArray), (3 : Int), (⟨#[110]⟩ : ByteArray)), ((⟨#[105, 110, 115, 116, 97, 108, 108]⟩ : ByteArray), (4 : Int), (⟨#[110, 98]⟩ : ByteArray)), ((⟨#[100, 114, 97, 105, 110]⟩ : ByteArray), (5 : Int), (⟨#[110, 109]⟩ : ByteArray)), ((⟨#[116, 105, 99, 107]⟩ : ByteArray), (6 : Int), ByteArray.empty), ((⟨#[101, 110, 100]⟩ : ByteArray), (7 : Int), (⟨#[110, 109]⟩ : ByteArray))]) x331 >>= fun x387 =>
((iterO N (fun s => F_script_Parse_l0 N x317 x371 x387 s.1 s.2.1 s.2.2.1 s.2.2.2) (0, 0, 0, [])) : Option ((Int × Int × (List Int)) ⊕ (Int × Int × Int × (List Int) × Int))) >>= fun z => match z with
| .inr z => some z
| .inl (x504, x505, x508) =>
some (x371.2.1, x504, x505, x508, 0))))
def F_dofferlaw36_alive (N : Nat)  : Option Bool :=
F_script_Parse N >>= fun (x26, _x27, _x28, x29, x30) =>
((if (!(eOk errIds x30)) = true then (
if (x26 == 2) = true then (
some ((bstr x29).toList == (⟨#[97, 97, 98]⟩ : ByteArray).toList))
else (
some false))
else (
some false)) : Option Bool) >>= fun x38 =>
some x38
def F_dofferref36_Number_l0 (_N : Nat) (x1 : ByteArray) (x149 : Int) (x150 : Int) : Option ((Int × Int) ⊕ (Int ⊕ (Int × Bool))) :=
if (decide (x150 < (x1.size : Int))) = true then (
((sidx x1 x150 >>= fun x169 =>
if (decide (x169 < 48)) = true then (
some true)
else (
sidx x1 x150 >>= fun x170 =>
some (decide (x170 > 57)))) : Option Bool) >>= fun x167 =>
if x167 = true then (
some (.inr (.inr (0, false))))
else (
sidx x1 x150 >>= fun x172 =>
some (.inl (w64 ((w64 ((w64 (x149 * 10)) + (IntKind.wrap .i64 x172))) - 48), w64 (x150 + 1)))))
else (
some (.inr (.inl x149)))
def F_dofferref36_Number (N : Nat)  (x1 : ByteArray) : Option (Int × Bool) :=
((if (decide ((x1.size : Int) > 0)) = true then (
sidx x1 0 >>= fun x92 =>
some (x92 == 45))
else (
some false)) : Option Bool) >>= fun x90 =>
((if x90 = true then (
some (1, (-1)))
else (
some (0, 1))) : Option (Int × Int)) >>= fun (x94, x95) =>
((if (decide ((w64 ((x1.size : Int) - x94)) < 1)) = true then (
some true)
else (
if (decide ((w64 ((x1.size : Int) - x94)) > 9)) = true then (
some true)
else (
sidx x1 x94 >>= fun x101 =>
if (x101 == 48) = true then (
if (decide ((w64 ((x1.size : Int) - x94)) > 1)) = true then (
some true)
else (
some (decide (x95 < 0))))
else (
some false)))) : Option Bool) >>= fun x99 =>
if x99 = true then (
some (0, false))
else (
((iterO N (fun s => F_dofferref36_Number_l0 N x1 s.1 s.2) (0, x94)) : Option (Int ⊕ (Int × Bool))) >>= fun z => match z with
| .inr z => some z
| .inl x137 =>
some (w64 (x137 * x95), true))
def F_doffernum_Num_l0 (_N : Nat) (x1 : Int) (x122 : Int) : Option (Int ⊕ (Unit ⊕ Int)) :=
if (decide (x122 < (([2, 3, 4, 1, 5, 6, 7, 8, 9, 10, 11, 12, 13, 14, 15, 16, 17, 18]).length : Int))) = true then (
idx ([2, 3, 4, 1, 5, 6, 7, 8, 9, 10, 11, 12, 13, 14, 15, 16, 17, 18]) x122 >>= fun x137 =>
isO errIds x1 x137 >>= fun x144 =>
if x144 = true then (
some (.inr (.inr (w64 (x122 + 1)))))
else (
some (.inl (w64 (x122 + 1)))))
else (
some (.inr (.inl ())))
def F_doffernum_Num (N : Nat)  (x1 : Int) : Option Int :=
if (!(eOk errIds x1)) = true then (
some 0)
else (
((iterO N (fun s => F_doffernum_Num_l0 N x1 s) 0) : Option (Unit ⊕ Int)) >>= fun z => match z with
| .inr z => some z
| .inl _ =>
some (-1))
def F_strings_Count_1 (_N : Nat)  (_x1 : ByteArray) : Option Unit :=
some ()
def F_strings_genSplit_1_l0 (N : Nat) (x1 : ByteArray) (x305 : ByteArray) (x306 : Int) (x308 : (List ByteArray)) : Option ((ByteArray × Int × (List ByteArray)) ⊕ (ByteArray × Int × (List ByteArray))) :=
if (decide (x306 < (w64 ((imin (w64 ((scount x1 32) + 1)) (w64 ((x1.size : Int) + 1))) - 1)))) = true then (
F_strings_Index_1 N x305 >>= fun x338 =>
if (decide (x338 < 0)) = true then (
some (.inr (x305, x306, x308)))
else (
sslc x305 0 (w64 (x338 + 0)) >>= fun x340 =>
idx x308 x306 >>= fun _x341 =>
setI x308 x306 x340 >>= fun x348 =>
sslc x305 (w64 (x338 + 1)) (x305.size : Int) >>= fun x352 =>
some (.inl (x352, w64 (x306 + 1), x348))))
else (
some (.inr (x305, x306, x308)))
def F_strings_genSplit_1 (N : Nat)  (x1 : ByteArray) : Option (List ByteArray) :=
((F_strings_Count_1 N x1 >>= fun _ =>
some ()) : Option Unit) >>= fun _ =>
mk ByteArray.empty (imin (w64 ((scount x1 32) + 1)) (w64 ((x1.size : Int) + 1))) >>= fun x203 =>
((iterO N (fun s => F_strings_genSplit_1_l0 N x1 s.1 s.2.1 s.2.2) (x1, 0, x203)) : Option (ByteArray × Int × (List ByteArray))) >>= fun (x277, x278, x280) =>
idx x280 x278 >>= fun _x354 =>
setI x280 x278 x277 >>= fun x361 =>
slc x361 0 (w64 (x278 + 1)) >>= fun x365 =>
some x365
def F_strings_Split_1 (N : Nat)  (x1 : ByteArray) : Option (List ByteArray) :=
F_strings_genSplit_1 N x1 >>= fun x17 =>
some x17
def F_script_Parse_1x_l0 (N : Nat) (x318 : (List ByteArray)) (x372 : (ByteArray × Int × ByteArray)) (x388 : (ByteArray × Int × ByteArray)) (x544 : Int) (x545 : Int) (x546 : Int) (x549 : (List Int)) : Option ((Int × Int × Int × (List Int)) ⊕ ((Int × Int × (List Int)) ⊕ (Int × Int × Int × (List Int) × Int))) :=
if (decide (x544 < ((sby x388.2.2).length : Int))) = true then (
idx (sby x388.2.2) x544 >>= fun x587 =>
idx x318 (w64 (x544 + 1)) >>= fun x594 =>
F_script_field_1 N x372.2.1 x545 x546 x549 x587 x594 >>= fun (x605, x606, x607, x608) =>
if (eOk errIds x608) = true then (
some (.inr (.inr (0, 0, 0, [], x608))))
else (
some (.inl (w64 (x544 + 1), x605, x606, x607))))
else (
some (.inr (.inl (x545, x546, x549))))
def F_script_Parse_1x (N : Nat)  (x1 : ByteArray) : Option (Int × Int × Int × (List Int) × Int) :=
F_strings_Split_1 N x1 >>= fun x318 =>
F_script_forms N >>= fun _ =>
F_slices_IndexFunc_script_form_script_form N ([((⟨#[111, 112, 101, 110]⟩ : ByteArray), (1 : Int), ByteArray.empty), ((⟨#[102, 101, 101, 100]⟩ : ByteArray), (2 : Int), (⟨#[110, 98]⟩ : ByteArray)), ((⟨#[99, 108, 111, 115, 101]⟩ : ByteArray), (3 : Int), (⟨#[110]⟩ : ByteArray)), ((⟨#[105, 110, 115, 116, 97, 108, 108]⟩ : ByteArray), (4 : Int), (⟨#[110, 98]⟩ : ByteArray)), ((⟨#[100, 114, 97, 105, 110]⟩ : ByteArray), (5 : Int), (⟨#[110, 109]⟩ : ByteArray)), ((⟨#[116, 105, 99, 107]⟩ : ByteArray), (6 : Int), ByteArray.empty), ((⟨#[101, 110, 100]⟩ : ByteArray), (7 : Int), (⟨#[110, 109]⟩ : ByteArray))]) x318 >>= fun x332 =>
if (decide (x332 < 0)) = true then (
((some ()) : Option Unit) >>= fun _ =>
some (0, 0, 0, [], 5))
else (
idx ([((⟨#[111, 112, 101, 110]⟩ : ByteArray), (1 : Int), ByteArray.empty), ((⟨#[102, 101, 101, 100]⟩ : ByteArray), (2 : Int), (⟨#[110, 98]⟩ : ByteArray)), ((⟨#[99, 108, 111, 115, 101]⟩ : ByteArray), (3 : Int), (⟨#[110]⟩ : ByteArray)), ((⟨#[105, 110, 115, 116, 97, 108, 108]⟩ : ByteArray), (4 : Int), (⟨#[110, 98]⟩ : ByteArray)), ((⟨#[100, 114, 97, 105, 110]⟩ : ByteArray), (5 : Int), (⟨#[110, 109]⟩ : ByteArray)), ((⟨#[116, 105, 99, 107]⟩ : ByteArray), (6 : Int), ByteArray.empty), ((⟨#[101, 110, 100]⟩ : ByteArray), (7 : Int), (⟨#[110, 109]⟩ : ByteArray))]) x332 >>= fun x338 =>
if (decide ((w64 ((x318.length : Int) - 1)) < (x338.2.2.size : Int))) = true then (
((some ()) : Option Unit) >>= fun _ =>
some (0, 0, 0, [], 3))
else (
idx ([((⟨#[111, 112, 101, 110]⟩ : ByteArray), (1 : Int), ByteArray.empty), ((⟨#[102, 101, 101, 100]⟩ : ByteArray), (2 : Int), (⟨#[110, 98]⟩ : ByteArray)), ((⟨#[99, 108, 111, 115, 101]⟩ : ByteArray), (3 : Int), (⟨#[110]⟩ : ByteArray)), ((⟨#[105, 110, 115, 116, 97, 108, 108]⟩ : ByteArray), (4 : Int), (⟨#[110, 98]⟩ : ByteArray)), ((⟨#[100, 114, 97, 105, 110]⟩ : ByteArray), (5 : Int), (⟨#[110, 109]⟩ : ByteArray)), ((⟨#[116, 105, 99, 107]⟩ : ByteArray), (6 : Int), ByteArray.empty), ((⟨#[101, 110, 100]⟩ : ByteArray), (7 : Int), (⟨#[110, 109]⟩ : ByteArray))]) x332 >>= fun x355 =>
if (decide ((w64 ((x318.length : Int) - 1)) > (x355.2.2.size : Int))) = true then (
((some ()) : Option Unit) >>= fun _ =>
some (0, 0, 0, [], 4))
else (
idx ([((⟨#[111, 112, 101, 110]⟩ : ByteArray), (1 : Int), ByteArray.empty), ((⟨#[102, 101, 101, 100]⟩ : ByteArray), (2 : Int), (⟨#[110, 98]⟩ : ByteArray)), ((⟨#[99, 108, 111, 115, 101]⟩ : ByteArray), (3 : Int), (⟨#[110]⟩ : ByteArray)), ((⟨#[105, 110, 115, 116, 97, 108, 108]⟩ : ByteArray), (4 : Int), (⟨#[110, 98]⟩ : ByteArray)), ((⟨#[100, 114, 97, 105, 110]⟩ : ByteArray), (5 : Int), (⟨#[110, 109]⟩ : ByteArray)), ((⟨#[116, 105, 99, 107]⟩ : ByteArray), (6 : Int), ByteArray.empty), ((⟨#[101, 110, 100]⟩ : ByteArray), (7 : Int), (⟨#[110, 109]⟩ : ByteArray))]) x332 >>= fun x372 =>
idx ([((⟨#[111, 112, 101, 110]⟩ : ByteArray), (1 : Int), ByteArray.empty), ((⟨#[102, 101, 101, 100]⟩ : ByteArray), (2 : Int), (⟨#[110, 98]⟩ : ByteArray)), ((⟨#[99, 108, 111, 115, 101]⟩ : ByteArray), (3 : Int), (⟨#[110]⟩ : ByteArray)), ((⟨#[105, 110, 115, 116, 97, 108, 108]⟩ : ByteArray), (4 : Int), (⟨#[110, 98]⟩ : ByteArray)), ((⟨#[100, 114, 97, 105, 110]⟩ : ByteArray), (5 : Int), (⟨#[110, 109]⟩ : ByteArray)), ((⟨#[116, 105, 99, 107]⟩ : ByteArray), (6 : Int), ByteArray.empty), ((⟨#[101, 110, 100]⟩ : ByteArray), (7 : Int), (⟨#[110, 109]⟩ : ByteArray))]) x332 >>= fun x388 =>
((iterO N (fun s => F_script_Parse_1x_l0 N x318 x372 x388 s.1 s.2.1 s.2.2.1 s.2.2.2) (0, 0, 0, [])) : Option ((Int × Int × (List Int)) ⊕ (Int × Int × Int × (List Int) × Int))) >>= fun z => match z with
| .inr z => some z
| .inl (x505, x506, x509) =>
some (x372.2.1, x505, x506, x509, 0))))
def F_dofferref36_words_l0 (_N : Nat) (x1 : ByteArray) (x2405 : (List ByteArray)) (x2407 : Int) : Option (((List ByteArray) × Int) ⊕ (List ByteArray)) :=
if (decide (x2407 < (x1.size : Int))) = true then (
((sidx x1 x2407 >>= fun x2767 =>
((if (x2767 == 32) = true then (
app x2405 ([ByteArray.empty]) >>= fun x2828 =>
some x2828)
else (
((sslc x1 x2407 (w64 (x2407 + 1)) >>= fun x2858 =>
idx x2405 (w64 ((x2405.length : Int) - 1)) >>= fun x2859 =>
scat x2859 x2858 >>= fun x2866 =>
idx x2405 (w64 ((x2405.length : Int) - 1)) >>= fun _x2867 =>
setI x2405 (w64 ((x2405.length : Int) - 1)) x2866 >>= fun x2874 =>
some x2874) : Option (List ByteArray)) >>= fun x2855 =>
some x2855)) : Option (List ByteArray)) >>= fun x2823 =>
some x2823) : Option (List ByteArray)) >>= fun x2764 =>
some (.inl (x2764, w64 (x2407 + 1))))
else (
some (.inr x2405))
def F_dofferref36_words (N : Nat)  (x1 : ByteArray) : Option (List ByteArray) :=
((iterO N (fun s => F_dofferref36_words_l0 N x1 s.1 s.2) ([ByteArray.empty], 0)) : Option (List ByteArray)) >>= fun x2163 =>
some x2163
def F_dofferref05_figure (_N : Nat)  (x1 : Int) : Option Int :=
((if (decide (x1 ≥ 48)) = true then (
some (decide (x1 ≤ 57)))
else (
some false)) : Option Bool) >>= fun x12 =>
if x12 = true then (
some (IntKind.wrap .i64 (IntKind.wrap .u8 (x1 - 48))))
else (
((if (decide (x1 ≥ 97)) = true then (
some (decide (x1 ≤ 102)))
else (
some false)) : Option Bool) >>= fun x15 =>
if x15 = true then (
some (w64 ((IntKind.wrap .i64 (IntKind.wrap .u8 (x1 - 97))) + 10)))
else (
((if (decide (x1 ≥ 65)) = true then (
some (decide (x1 ≤ 70)))
else (
some false)) : Option Bool) >>= fun x18 =>
if x18 = true then (
some (w64 ((IntKind.wrap .i64 (IntKind.wrap .u8 (x1 - 65))) + 10)))
else (
some (-1))))
def F_dofferref05_Read_1 (N : Nat)  (x1 : ByteArray) (x2 : Int) : Option (Int × Int × Int) :=
((if (decide (x2 < 0)) = true then (
some true)
else (
some (decide (x2 ≥ (x1.size : Int))))) : Option Bool) >>= fun x35 =>
if x35 = true then (
some (0, (x1.size : Int), 2))
else (
sidx x1 x2 >>= fun x38 =>
if (x38 != 92) = true then (
sidx x1 x2 >>= fun x39 =>
some (x39, w64 (x2 + 1), 0))
else (
if (x2 == (w64 ((x1.size : Int) - 1))) = true then (
some (0, (x1.size : Int), 2))
else (
sidx x1 (w64 (x2 + 1)) >>= fun x40 =>
if (x40 == 110) = true then (
some (10, w64 (x2 + 2), 0))
else (
if (x40 == 116) = true then (
some (9, w64 (x2 + 2), 0))
else (
if (x40 == 114) = true then (
some (13, w64 (x2 + 2), 0))
else (
if (x40 == 115) = true then (
some (32, w64 (x2 + 2), 0))
else (
if (x40 == 120) = true then (
if ((w64 (x2 + 2)) == (x1.size : Int)) = true then (
some (0, (x1.size : Int), 2))
else (
sidx x1 (w64 (x2 + 2)) >>= fun x41 =>
F_dofferref05_figure N x41 >>= fun x44 =>
if (decide (x44 < 0)) = true then (
some (0, w64 (x2 + 2), 4))
else (
if ((w64 (x2 + 3)) == (x1.size : Int)) = true then (
some (0, (x1.size : Int), 2))
else (
sidx x1 (w64 (x2 + 3)) >>= fun x46 =>
F_dofferref05_figure N x46 >>= fun x49 =>
if (decide (x49 < 0)) = true then (
some (0, w64 (x2 + 3), 4))
else (
sidx x1 (w64 (x2 + 2)) >>= fun x51 =>
sidx x1 (w64 (x2 + 3)) >>= fun x52 =>
F_dofferref05_figure N x51 >>= fun x55 =>
F_dofferref05_figure N x52 >>= fun x59 =>
some (IntKind.wrap .u8 (w64 ((w64 (16 * x55)) + x59)), w64 (x2 + 4), 0))))))
else (
((if (decide (x40 ≥ 33)) = true then (
if (decide (x40 ≤ 47)) = true then (
some true)
else (
if (decide (x40 ≥ 58)) = true then (
if (decide (x40 ≤ 64)) = true then (
some true)
else (
if (decide (x40 ≥ 91)) = true then (
if (decide (x40 ≤ 96)) = true then (
some true)
else (
if (decide (x40 ≥ 123)) = true then (
some (decide (x40 ≤ 126)))
else (
some false)))
else (
if (decide (x40 ≥ 123)) = true then (
some (decide (x40 ≤ 126)))
else (
some false))))
else (
if (decide (x40 ≥ 91)) = true then (
if (decide (x40 ≤ 96)) = true then (
some true)
else (
if (decide (x40 ≥ 123)) = true then (
some (decide (x40 ≤ 126)))
else (
some false)))
else (
if (decide (x40 ≥ 123)) = true then (
some (decide (x40 ≤ 126)))
else (
some false)))))
else (
if (decide (x40 ≥ 58)) = true then (
if (decide (x40 ≤ 64)) = true then (
some true)
else (
if (decide (x40 ≥ 91)) = true then (
if (decide (x40 ≤ 96)) = true then (
some true)
else (
if (decide (x40 ≥ 123)) = true then (
some (decide (x40 ≤ 126)))
else (
some false)))
else (
if (decide (x40 ≥ 123)) = true then (
some (decide (x40 ≤ 126)))
else (
some false))))
else (
if (decide (x40 ≥ 91)) = true then (
if (decide (x40 ≤ 96)) = true then (
some true)
else (
if (decide (x40 ≥ 123)) = true then (
some (decide (x40 ≤ 126)))
else (
some false)))
else (
if (decide (x40 ≥ 123)) = true then (
some (decide (x40 ≤ 126)))
else (
some false))))) : Option Bool) >>= fun x61 =>
if x61 = true then (
some (x40, w64 (x2 + 2), 0))
else (
some (0, w64 (x2 + 1), 4))))))))))
def F_dofferref36_bytes_l0 (N : Nat) (x1 : ByteArray) (x226 : (List Int)) (x228 : Int) : Option (((List Int) × Int) ⊕ ((List Int) ⊕ ((List Int) × Int))) :=
if (decide (x228 < (x1.size : Int))) = true then (
F_dofferref05_Read_1 N x1 x228 >>= fun (x254, x255, x256) =>
if (x256 != 0) = true then (
some (.inr (.inr ([], x256))))
else (
app x226 ([x254]) >>= fun x260 =>
some (.inl (x260, x255))))
else (
some (.inr (.inl x226)))
def F_dofferref36_bytes (N : Nat)  (x1 : ByteArray) : Option ((List Int) × Int) :=
if (x1.toList == (⟨#[46]⟩ : ByteArray).toList) = true then (
some ([], 0))
else (
if (x1.toList == ByteArray.empty.toList) = true then (
some ([], 2))
else (
((iterO N (fun s => F_dofferref36_bytes_l0 N x1 s.1 s.2) ([], 0)) : Option ((List Int) ⊕ ((List Int) × Int))) >>= fun z => match z with
| .inr z => some z
| .inl x202 =>
some (x202, 0)))
def F_dofferref36_Form_1 (_N : Nat)  (x1 : Int) : Option (ByteArray × ByteArray) :=
((if (decide (x1 < 1)) = true then (
some true)
else (
some (decide (x1 > 7)))) : Option Bool) >>= fun x119 =>
if x119 = true then (
some (ByteArray.empty, ByteArray.empty))
else (
((idx ([(⟨#[111, 112, 101, 110]⟩ : ByteArray), (⟨#[102, 101, 101, 100]⟩ : ByteArray), (⟨#[99, 108, 111, 115, 101]⟩ : ByteArray), (⟨#[105, 110, 115, 116, 97, 108, 108]⟩ : ByteArray), (⟨#[100, 114, 97, 105, 110]⟩ : ByteArray), (⟨#[116, 105, 99, 107]⟩ : ByteArray), (⟨#[101, 110, 100]⟩ : ByteArray)]) (w64 (x1 - 1)) >>= fun x181 =>
idx ([ByteArray.empty, (⟨#[110, 98]⟩ : ByteArray), (⟨#[110]⟩ : ByteArray), (⟨#[110, 98]⟩ : ByteArray), (⟨#[110, 109]⟩ : ByteArray), ByteArray.empty, (⟨#[110, 109]⟩ : ByteArray)]) (w64 (x1 - 1)) >>= fun x190 =>
some (x181, x190)) : Option (ByteArray × ByteArray)) >>= fun (x176, x177) =>
some (x176, x177))
def F_dofferref36_Parse_l1 (N : Nat) (x3666 : (List ByteArray)) (x6707 : ByteArray) (x7112 : Int) (x7113 : Int) (x7116 : (List Int)) (x7118 : Int) : Option ((Int × Int × (List Int) × Int) ⊕ ((Int × Int × (List Int)) ⊕ (Int ⊕ (Unit ⊕ (Int × Int × Int × (List Int) × Int))))) :=
if (decide (x7118 < (x6707.size : Int))) = true then (
((sidx x6707 x7118 >>= fun x7265 =>
if (x7265 == 98) = true then (
idx x3666 (w64 (x7118 + 1)) >>= fun x7266 =>
F_dofferref36_bytes N x7266 >>= fun (x7277, x7278) =>
if (x7278 != 0) = true then (
some (.inr (.inr (.inr (.inr (.inr (0, 0, 0, [], x7278)))))))
else (
some (.inl (x7112, x7113, x7277))))
else (
idx x3666 (w64 (x7118 + 1)) >>= fun x7283 =>
F_dofferref36_Number N x7283 >>= fun (x7292, x7293) =>
if (!x7293) = true then (
some (.inr (.inr (.inr (.inr (.inr (0, 0, 0, [], 4)))))))
else (
sidx x6707 x7118 >>= fun x7296 =>
((if (x7296 == 110) = true then (
some (x7292, x7113))
else (
some (x7112, x7292))) : Option (Int × Int)) >>= fun (x7299, x7300) =>
some (.inl (x7299, x7300, x7116))))) : Option ((Int × Int × (List Int)) ⊕ ((Int × Int × (List Int) × Int) ⊕ ((Int × Int × (List Int)) ⊕ (Int ⊕ (Unit ⊕ (Int × Int × Int × (List Int) × Int))))))) >>= fun z => match z with
| .inr z => some z
| .inl (x7258, x7259, x7262) =>
some (.inl (x7258, x7259, x7262, w64 (x7118 + 1))))
else (
some (.inr (.inl (x7112, x7113, x7116))))
def F_dofferref36_Parse_l0 (N : Nat) (x3666 : (List ByteArray)) (x6094 : Int) : Option (Int ⊕ (Unit ⊕ (Int × Int × Int × (List Int) × Int))) :=
if (decide (x6094 ≤ 7)) = true then (
F_dofferref36_Form_1 N x6094 >>= fun (x6706, x6707) =>
idx x3666 0 >>= fun x6709 =>
if (x6706.toList != x6709.toList) = true then (
some (.inl (w64 (x6094 + 1))))
else (
if (decide ((x3666.length : Int) < (w64 ((x6707.size : Int) + 1)))) = true then (
some (.inr (.inr (0, 0, 0, [], 2))))
else (
if (decide ((x3666.length : Int) > (w64 ((x6707.size : Int) + 1)))) = true then (
some (.inr (.inr (0, 0, 0, [], 3))))
else (
((iterO N (fun s => F_dofferref36_Parse_l1 N x3666 x6707 s.1 s.2.1 s.2.2.1 s.2.2.2) (0, 0, [], 0)) : Option ((Int × Int × (List Int)) ⊕ (Int ⊕ (Unit ⊕ (Int × Int × Int × (List Int) × Int))))) >>= fun z => match z with
| .inr z => some z
| .inl (x7010, x7011, x7014) =>
some (.inr (.inr (x6094, x7010, x7011, x7014, 0)))))))
else (
some (.inr (.inl ())))
def F_dofferref36_Parse (N : Nat)  (x1 : ByteArray) : Option (Int × Int × Int × (List Int) × Int) :=
F_dofferref36_words N x1 >>= fun x3666 =>
((iterO N (fun s => F_dofferref36_Parse_l0 N x3666 s) 1) : Option (Unit ⊕ (Int × Int × Int × (List Int) × Int))) >>= fun z => match z with
| .inr z => some z
| .inl _ =>
some (0, 0, 0, [], 5)
def F_dofferref36_Same (_N : Nat)  (x1 : Int) (x2 : Int) (x3 : Int) (x5 : (List Int)) (x7 : Int) (x8 : Int) (x9 : Int) (x11 : (List Int)) : Option Bool :=
((if (x1 == x7) = true then (
if (x2 == x8) = true then (
if (x3 == x9) = true then (
some ((bstr x5).toList == (bstr x11).toList))
else (
some false))
else (
some false))
else (
some false)) : Option Bool) >>= fun x31 =>
some x31
def F_strings_splitSeq (_N : Nat)  (_x1 : ByteArray) : Option Unit :=
some ()
def F_strings_SplitSeq (N : Nat)  (x1 : ByteArray) : Option Unit :=
F_strings_splitSeq N x1 >>= fun _ =>
some ()
def F_internal_stringslite_IndexByte_6 (_N : Nat)  (_x1 : ByteArray) : Option Unit :=
some ()
def F_internal_stringslite_Index_2 (N : Nat)  (x1 : ByteArray) : Option Int :=
((some ()) : Option Unit) >>= fun _ =>
if ((⟨#[10]⟩ : ByteArray).toList == x1.toList) = true then (
some 0)
else (
F_internal_stringslite_IndexByte_6 N x1 >>= fun _ =>
some (sfind x1 10))
def F_strings_Index_2 (N : Nat)  (x1 : ByteArray) : Option Int :=
F_internal_stringslite_Index_2 N x1 >>= fun x9 =>
some x9
def F_strings_splitSeq_1_l0 (N : Nat) {σ : Type} (Y : (ByteArray → σ → Option (σ × Bool))) (x202 : σ) (x204 : ByteArray) : Option ((σ × ByteArray) ⊕ ((σ × ByteArray) ⊕ (σ × Bool))) :=
F_strings_Index_2 N x204 >>= fun x228 =>
if (decide (x228 < 0)) = true then (
some (.inr (.inl (x202, x204))))
else (
sslc x204 0 (w64 (x228 + 0)) >>= fun x230 =>
Y x230 x202 >>= fun q231 =>
if (!q231.2) = true then (
some (.inr (.inr (q231.1, false))))
else (
sslc x204 (w64 (x228 + 1)) (x204.size : Int) >>= fun x236 =>
some (.inl (q231.1, x236))))
def F_strings_splitSeq_1 (N : Nat) {σ : Type}  (Y : ByteArray → σ → Option (σ × Bool)) (s0 : σ) (x3 : ByteArray) : Option (σ × Bool) :=
((iterO N (fun s => F_strings_splitSeq_1_l0 N Y s.1 s.2) (s0, x3)) : Option ((σ × ByteArray) ⊕ (σ × Bool))) >>= fun z => match z with
| .inr z => some z
| .inl (x181, x183) =>
Y x183 x181 >>= fun q240 =>
some (q240.1, q240.2)
def F_script_Script_r0 (N : Nat) (x554 : ByteArray) (x721 : (List (Int × Int × Int × (List Int)))) (x723 : Int) : Option ((((List (Int × Int × Int × (List Int))) × Int) ⊕ ((List (Int × Int × Int × (List Int))) × Int × Int)) × Bool) :=
((((if (x554.toList != ByteArray.empty.toList) = true then (
F_script_Parse_1x N x554 >>= fun (x1024, x1025, x1026, x1027, x1028) =>
if (eOk errIds x1028) = true then (
((some ()) : Option Unit) >>= fun _ =>
some (.inr (.inr (.inr (x721, x723, x1028), false))))
else (
app x721 ([(x1024, x1025, x1026, x1027)]) >>= fun x1047 =>
some (.inl x1047)))
else (
some (.inl x721))) : Option ((List (Int × Int × Int × (List Int))) ⊕ ((List (Int × Int × Int × (List Int))) ⊕ ((((List (Int × Int × Int × (List Int))) × Int) ⊕ ((List (Int × Int × Int × (List Int))) × Int × Int)) × Bool)))) >>= fun z => match z with
| .inr z => some z
| .inl x1017 =>
some (.inl x1017)) : Option ((List (Int × Int × Int × (List Int))) ⊕ ((((List (Int × Int × Int × (List Int))) × Int) ⊕ ((List (Int × Int × Int × (List Int))) × Int × Int)) × Bool))) >>= fun z => match z with
| .inr z => some z
| .inl x978 =>
some (.inl (x978, w64 (x723 + 1)), true)
def F_script_Script (N : Nat)  (x1 : ByteArray) : Option ((List (Int × Int × Int × (List Int))) × Int × Int) :=
F_strings_SplitSeq N x1 >>= fun _ =>
F_strings_splitSeq_1 N (YS (σ1 := ((List (Int × Int × Int × (List Int))) × Int)) (σ2 := ((List (Int × Int × Int × (List Int))) × Int × Int)) (fun x s => F_script_Script_r0 N x s.1 s.2)) (.inl ([], 0)) x1 >>= fun z => match z with
| (.inl (x721, _x723), true) => (
some (x721, 0, 0))
| (.inr (x890, x892, x893), false) => (
some (x890, x892, x893))
| _ => none
def F_dofferlaw36_ScriptLines_l1 (_N : Nat) (x3203 : ByteArray) (x3223 : Int) : Option (Int ⊕ (Unit ⊕ ((ByteArray × (List (Int × Int × Int × (List Int))) × Int × Int) ⊕ ((Int × ByteArray × (List (Int × Int × Int × (List Int))) × Int × Int) ⊕ ((ByteArray × (List (Int × Int × Int × (List Int))) × Int × Int) ⊕ Bool))))) :=
if (decide (x3223 < (x3203.size : Int))) = true then (
sidx x3203 x3223 >>= fun x3230 =>
if (x3230 == 10) = true then (
some (.inr (.inr (.inr (.inr (.inr true))))))
else (
some (.inl (w64 (x3223 + 1)))))
else (
some (.inr (.inl ())))
def F_dofferlaw36_ScriptLines_l0 (N : Nat) (x2 : (List ByteArray)) (x2921 : Int) (x2922 : ByteArray) (x2925 : (List (Int × Int × Int × (List Int)))) (x2927 : Int) (x2928 : Int) : Option ((Int × ByteArray × (List (Int × Int × Int × (List Int))) × Int × Int) ⊕ ((ByteArray × (List (Int × Int × Int × (List Int))) × Int × Int) ⊕ Bool)) :=
if (decide (x2921 < (x2.length : Int))) = true then (
((idx x2 x2921 >>= fun x3203 =>
if (decide ((x3203.size : Int) > 200)) = true then (
some (.inr (.inr (.inr true))))
else (
((iterO N (fun s => F_dofferlaw36_ScriptLines_l1 N x3203 s) 0) : Option (Unit ⊕ ((ByteArray × (List (Int × Int × Int × (List Int))) × Int × Int) ⊕ ((Int × ByteArray × (List (Int × Int × Int × (List Int))) × Int × Int) ⊕ ((ByteArray × (List (Int × Int × Int × (List Int))) × Int × Int) ⊕ Bool))))) >>= fun z => match z with
| .inr z => some z
| .inl _ =>
((if (decide (x2921 > 0)) = true then (
scat x2922 (⟨#[10]⟩ : ByteArray) >>= fun x3235 =>
some x3235)
else (
some x2922)) : Option ByteArray) >>= fun x3233 =>
scat x3233 x3203 >>= fun x3237 =>
((if (x2927 != 0) = true then (
some true)
else (
some (x3203.toList == ByteArray.empty.toList))) : Option Bool) >>= fun x3238 =>
if x3238 = true then (
some (.inl (x3237, x2925, x2927, x2928)))
else (
F_dofferref36_Parse N x3203 >>= fun (x3245, x3246, x3247, x3248, x3249) =>
((if (x3249 != 0) = true then (
some (x2925, x3249, x2921))
else (
app x2925 ([(x3245, x3246, x3247, x3248)]) >>= fun x3276 =>
some (x3276, x2927, x2928))) : Option ((List (Int × Int × Int × (List Int))) × Int × Int)) >>= fun (x3267, x3269, x3270) =>
some (.inl (x3237, x3267, x3269, x3270))))) : Option ((ByteArray × (List (Int × Int × Int × (List Int))) × Int × Int) ⊕ ((Int × ByteArray × (List (Int × Int × Int × (List Int))) × Int × Int) ⊕ ((ByteArray × (List (Int × Int × Int × (List Int))) × Int × Int) ⊕ Bool)))) >>= fun z => match z with
| .inr z => some z
| .inl (x3195, x3198, x3200, x3201) =>
some (.inl (w64 (x2921 + 1), x3195, x3198, x3200, x3201)))
else (
some (.inr (.inl (x2922, x2925, x2927, x2928))))
def F_dofferlaw36_ScriptLines_l2 (N : Nat) (x2559 : (List (Int × Int × Int × (List Int)))) (x3292 : (List (Int × Int × Int × (List Int)))) (x3534 : Int) : Option (Int ⊕ (Unit ⊕ Bool)) :=
if (decide (x3534 < (x3292.length : Int))) = true then (
idx x3292 x3534 >>= fun x3594 =>
idx x2559 x3534 >>= fun x3619 =>
F_dofferref36_Same N x3594.1 x3594.2.1 x3594.2.2.1 x3594.2.2.2 x3619.1 x3619.2.1 x3619.2.2.1 x3619.2.2.2 >>= fun x3646 =>
if (!x3646) = true then (
some (.inr (.inr false)))
else (
some (.inl (w64 (x3534 + 1)))))
else (
some (.inr (.inl ())))
def F_dofferlaw36_ScriptLines (N : Nat)  (x2 : (List ByteArray)) : Option Bool :=
F_dofferlaw36_alive N >>= fun x1829 =>
if (!x1829) = true then (
some false)
else (
if (decide ((x2.length : Int) > 40)) = true then (
some true)
else (
((iterO N (fun s => F_dofferlaw36_ScriptLines_l0 N x2 s.1 s.2.1 s.2.2.1 s.2.2.2.1 s.2.2.2.2) (0, ByteArray.empty, [], 0, 0)) : Option ((ByteArray × (List (Int × Int × Int × (List Int))) × Int × Int) ⊕ Bool)) >>= fun z => match z with
| .inr z => some z
| .inl (x2556, x2559, x2561, x2562) =>
F_script_Script N x2556 >>= fun (x3292, x3293, x3294) =>
((F_doffernum_Num N x3294 >>= fun x3306 =>
if (x3306 != x2561) = true then (
some true)
else (
if ((x3292.length : Int) != (x2559.length : Int)) = true then (
some true)
else (
some (x3293 != x2562)))) : Option Bool) >>= fun x3302 =>
if x3302 = true then (
some false)
else (
((iterO N (fun s => F_dofferlaw36_ScriptLines_l2 N x2559 x3292 s) 0) : Option (Unit ⊕ Bool)) >>= fun z => match z with
| .inr z => some z
| .inl _ =>
some true)))
end Go.Proofs.YticipjjhbebegaaDoor
