/-
  The walks of the law ScriptLines, printed by my program, part 1: each function of the code computes its pure function.
-/
import Derived.Test.YticipjjhbebegaaDoorScriptLinesD1
import Derived.Test.YticipjjhbebegaaDoorProg
import Derived.Test.YticipjjhbebegaaDoorScriptLinesP1
namespace Go.Proofs.YticipjjhbebegaaDoor
open Go Go.Eng
set_option maxRecDepth 100000
theorem ty3 : Ty Tryd.prog 3 1 8 (.int .i64 0) false := ⟨by kernel_rfl, by kernel_rfl⟩
theorem ty5 : Ty Tryd.prog 5 1 1 (.int .u8 0) false := ⟨by kernel_rfl, by kernel_rfl⟩
theorem ty9 : Ty Tryd.prog 9 1 16 (.string ByteArray.empty) false := ⟨by kernel_rfl, by kernel_rfl⟩
theorem ty25 : Ty Tryd.prog 25 1 16 .nilIface false := ⟨by kernel_rfl, by kernel_rfl⟩
theorem ty32 : Ty Tryd.prog 32 1 24 (.slice none 0 0) false := ⟨by kernel_rfl, by kernel_rfl⟩
theorem ty34 : Ty Tryd.prog 34 1 24 (.slice none 0 0) false := ⟨by kernel_rfl, by kernel_rfl⟩
theorem ty36 : Ty Tryd.prog 36 4 48 (.agg ([.int .i64 0, .int .i64 0, .int .i64 0, .slice none 0 0]).toArray) true := ⟨by kernel_rfl, by kernel_rfl⟩
theorem ty39 : Ty Tryd.prog 39 1 24 (.slice none 0 0) false := ⟨by kernel_rfl, by kernel_rfl⟩
theorem ty43 : Ty Tryd.prog 43 4 48 (.agg ([.int .i64 0, .int .i64 0, .int .i64 0, .slice none 0 0]).toArray) true := ⟨by kernel_rfl, by kernel_rfl⟩
theorem ty75 : Ty Tryd.prog 75 3 40 (.agg ([.string ByteArray.empty, .int .i64 0, .string ByteArray.empty]).toArray) true := ⟨by kernel_rfl, by kernel_rfl⟩
theorem st36 : ∃ fs, St Tryd.prog 36 fs [(0, 1), (1, 1), (2, 1), (3, 1)] [.int .i64 0, .int .i64 0, .int .i64 0, .slice none 0 0] := ⟨_, Tryd.underlying36, by kernel_rfl, _, _, _, _, ty36, rfl⟩
theorem st43 : ∃ fs, St Tryd.prog 43 fs [(0, 1), (1, 1), (2, 1), (3, 1)] [.int .i64 0, .int .i64 0, .int .i64 0, .slice none 0 0] := ⟨_, Tryd.underlying43, by kernel_rfl, _, _, _, _, ty43, rfl⟩
theorem st75 : ∃ fs, St Tryd.prog 75 fs [(0, 1), (1, 1), (2, 1)] [.string ByteArray.empty, .int .i64 0, .string ByteArray.empty] := ⟨_, Tryd.underlying75, by kernel_rfl, _, _, _, _, ty75, rfl⟩
theorem ext66 : HasExt Tryd.prog 66 Extern.BytealgCount.count := ⟨_, Tryd.func66, by kernel_rfl, by kernel_rfl, by kernel_rfl, by kernel_rfl⟩
theorem ext80 : HasExt Tryd.prog 80 Extern.BytealgIndexByte.indexByte := ⟨_, Tryd.func80, by kernel_rfl, by kernel_rfl, by kernel_rfl, by kernel_rfl⟩
theorem fn7 : HasFn Tryd.prog 7 := ⟨_, _, Tryd.func7, by kernel_rfl, rfl⟩
theorem fn8 : HasFn Tryd.prog 8 := ⟨_, _, Tryd.func8, by kernel_rfl, rfl⟩
theorem fn9 : HasFn Tryd.prog 9 := ⟨_, _, Tryd.func9, by kernel_rfl, rfl⟩
theorem fn10 : HasFn Tryd.prog 10 := ⟨_, _, Tryd.func10, by kernel_rfl, rfl⟩
theorem fn12 : HasFn Tryd.prog 12 := ⟨_, _, Tryd.func12, by kernel_rfl, rfl⟩
theorem fn13 : HasFn Tryd.prog 13 := ⟨_, _, Tryd.func13, by kernel_rfl, rfl⟩
theorem fn14 : HasFn Tryd.prog 14 := ⟨_, _, Tryd.func14, by kernel_rfl, rfl⟩
theorem fn15 : HasFn Tryd.prog 15 := ⟨_, _, Tryd.func15, by kernel_rfl, rfl⟩
theorem fn16 : HasFn Tryd.prog 16 := ⟨_, _, Tryd.func16, by kernel_rfl, rfl⟩
theorem fn21 : HasFn Tryd.prog 21 := ⟨_, _, Tryd.func21, by kernel_rfl, rfl⟩
theorem fn22 : HasFn Tryd.prog 22 := ⟨_, _, Tryd.func22, by kernel_rfl, rfl⟩
theorem fn23 : HasFn Tryd.prog 23 := ⟨_, _, Tryd.func23, by kernel_rfl, rfl⟩
theorem fn24 : HasFn Tryd.prog 24 := ⟨_, _, Tryd.func24, by kernel_rfl, rfl⟩
theorem fn25 : HasFn Tryd.prog 25 := ⟨_, _, Tryd.func25, by kernel_rfl, rfl⟩
theorem fn26 : HasFn Tryd.prog 26 := ⟨_, _, Tryd.func26, by kernel_rfl, rfl⟩
theorem fn27 : HasFn Tryd.prog 27 := ⟨_, _, Tryd.func27, by kernel_rfl, rfl⟩
theorem fn28 : HasFn Tryd.prog 28 := ⟨_, _, Tryd.func28, by kernel_rfl, rfl⟩
theorem fn29 : HasFn Tryd.prog 29 := ⟨_, _, Tryd.func29, by kernel_rfl, rfl⟩
theorem fn30 : HasFn Tryd.prog 30 := ⟨_, _, Tryd.func30, by kernel_rfl, rfl⟩
theorem fn31 : HasFn Tryd.prog 31 := ⟨_, _, Tryd.func31, by kernel_rfl, rfl⟩
theorem fn32 : HasFn Tryd.prog 32 := ⟨_, _, Tryd.func32, by kernel_rfl, rfl⟩
theorem fn33 : HasFn Tryd.prog 33 := ⟨_, _, Tryd.func33, by kernel_rfl, rfl⟩
theorem fn39 : HasFn Tryd.prog 39 := ⟨_, _, Tryd.func39, by kernel_rfl, rfl⟩
theorem fn42 : HasFn Tryd.prog 42 := ⟨_, _, Tryd.func42, by kernel_rfl, rfl⟩
theorem fn43 : HasFn Tryd.prog 43 := ⟨_, _, Tryd.func43, by kernel_rfl, rfl⟩
theorem fn44 : HasFn Tryd.prog 44 := ⟨_, _, Tryd.func44, by kernel_rfl, rfl⟩
theorem fn45 : HasFn Tryd.prog 45 := ⟨_, _, Tryd.func45, by kernel_rfl, rfl⟩
theorem fn51 : HasFn Tryd.prog 51 := ⟨_, _, Tryd.func51, by kernel_rfl, rfl⟩
theorem fn52 : HasFn Tryd.prog 52 := ⟨_, _, Tryd.func52, by kernel_rfl, rfl⟩
theorem fn53 : HasFn Tryd.prog 53 := ⟨_, _, Tryd.func53, by kernel_rfl, rfl⟩
theorem fn55 : HasFn Tryd.prog 55 := ⟨_, _, Tryd.func55, by kernel_rfl, rfl⟩
theorem fn57 : HasFn Tryd.prog 57 := ⟨_, _, Tryd.func57, by kernel_rfl, rfl⟩
theorem fn58 : HasFn Tryd.prog 58 := ⟨_, _, Tryd.func58, by kernel_rfl, rfl⟩
theorem fn64 : HasFn Tryd.prog 64 := ⟨_, _, Tryd.func64, by kernel_rfl, rfl⟩
theorem fn67 : HasFn Tryd.prog 67 := ⟨_, _, Tryd.func67, by kernel_rfl, rfl⟩
theorem fn73 : HasFn Tryd.prog 73 := ⟨_, _, Tryd.func73, by kernel_rfl, rfl⟩
theorem fn77 : HasFn Tryd.prog 77 := ⟨_, _, Tryd.func77, by kernel_rfl, rfl⟩
theorem fn78 : HasFn Tryd.prog 78 := ⟨_, _, Tryd.func78, by kernel_rfl, rfl⟩
theorem fn79 : HasFn Tryd.prog 79 := ⟨_, _, Tryd.func79, by kernel_rfl, rfl⟩
theorem fn82 : HasFn Tryd.prog 82 := ⟨_, _, Tryd.func82, by kernel_rfl, rfl⟩
theorem c_57 {N : Nat} {C : Cx} {w : World} {ρ : View} {hs : List Hl} (H : Hp C w ρ (hs)) {gV : Nat → Value} (_gle : GErrs ρ 137 errIds gV) {r : Unit} (hF : F_strings_Count N = some r) :
  Calls Tryd.prog 57 [.string (⟨#[102, 101, 101, 100, 32, 48, 32, 97, 97, 98]⟩ : ByteArray), .string (⟨#[32]⟩ : ByteArray)].toArray w (Rets (fun v w' => (() = r ∧ .int .i64 (scount (⟨#[102, 101, 101, 100, 32, 48, 32, 97, 97, 98]⟩ : ByteArray) 32) = v ∧ Hp C w' ρ (hs)))) := by
 unfold F_strings_Count at hF
 have h0 : Tryd.f57.body = some _ := rfl
 refine fn_calls' Tryd.func57 h0 (n := 34) rfl (by simp) <| C_seq <| R_nd <| nq (Q_assign rfl) rfl rfl <| WL_nil <| x_then <| C_seq <| C_seq <| R_nd <| nq (Q_move rfl) rfl rfl <| nq (v := .int .i64 1) (Q_lenStrC Tryd.underlying9 rfl (by decide)) rfl rfl <| nq (v := .bool false) (Q_known (by decide) (Q_eql rfl rfl)) rfl rfl <| WL_nil <| x_then ?_
 refine C_cond rfl (fun h => nomatch h) (fun _ => ?_)
 refine C_skip <| x_then <| C_seq <| C_seq <| R_nd <| nq (Q_move rfl) rfl rfl <| nq (v := .int .i64 1) (Q_lenStrC Tryd.underlying9 rfl (by decide)) rfl rfl <| nq (v := .bool true) (Q_known (by decide) (Q_eql rfl rfl)) rfl rfl <| WL_nil <| x_then ?_
 refine C_cond rfl (fun _ => ?_) (fun h => nomatch h)
 refine C_seq <| R_nd <| nq (Q_move rfl) rfl rfl <| nq (Q_move rfl) rfl rfl <| nq (v := .int .u8 32) (Q_ixS rfl Tryd.underlying9 rfl rfl) rfl rfl <| nq (v := .int .i64 (scount (⟨#[102, 101, 101, 100, 32, 48, 32, 97, 97, 98]⟩ : ByteArray) 32)) (Q_count ext66 rfl rfl) rfl rfl <| nq (Q_assign rfl) rfl rfl <| WL_nil <| x_then <| C_ret <| x_then_ret ?_
 obtain rfl := Option.some.inj hF
 exact fn_ret (l := [.tmp 4]) (vs := [.int .i64 (scount (⟨#[102, 101, 101, 100, 32, 48, 32, 97, 97, 98]⟩ : ByteArray) 32)]) rfl rfl rfl ⟨rfl, rfl, H⟩
theorem c_73_1 {N : Nat} {C : Cx} {w : World} {ρ : View} {hs : List Hl} {x1 : ByteArray} (H : Hp C w ρ (hs)) {gV : Nat → Value} (_gle : GErrs ρ 137 errIds gV) {r : Unit} (hF : F_internal_stringslite_IndexByte_1 N x1 = some r) :
  Calls Tryd.prog 73 [.string x1, .int .u8 32].toArray w (Rets (fun v w' => (() = r ∧ .int .i64 (sfind x1 32) = v ∧ Hp C w' ρ (hs)))) := by
 unfold F_internal_stringslite_IndexByte_1 at hF
 have h0 : Tryd.f73.body = some _ := rfl
 refine fn_calls' Tryd.func73 h0 (n := 8) rfl (by simp) <| C_seq <| R_nd <| nq (Q_assign rfl) rfl rfl <| WL_nil <| x_then <| C_seq <| R_nd <| nq (Q_move rfl) rfl rfl <| nq (Q_move rfl) rfl rfl <| nq (v := .int .i64 (sfind x1 32)) (Q_idxByte ext80 rfl rfl) rfl rfl <| nq (Q_assign rfl) rfl rfl <| WL_nil <| x_then ?_
 refine C_ret ?_
 obtain rfl := Option.some.inj hF
 exact fn_ret (l := [.tmp 4]) (vs := [.int .i64 (sfind x1 32)]) rfl rfl rfl ⟨rfl, rfl, H⟩
theorem c_64_1 {N : Nat} {C : Cx} {w : World} {ρ : View} {hs : List Hl} {x1 : ByteArray} (H : Hp C w ρ (hs)) {gV : Nat → Value} (gle : GErrs ρ 137 errIds gV) {r : Int} (hF : F_internal_stringslite_Index_1 N x1 = some r) :
  Calls Tryd.prog 64 [.string x1, .string (⟨#[32]⟩ : ByteArray)].toArray w (Rets (fun v w' => (∃ (x7 : Int), x7 = r ∧ .int .i64 x7 = v ∧ Hp C w' ρ (hs)))) := by
 unfold F_internal_stringslite_Index_1 at hF
 have h0 : Tryd.f64.body = some _ := rfl
 refine fn_calls' Tryd.func64 h0 (n := 143) rfl (by simp) <| C_seq <| R_nd <| nq (Q_assign rfl) rfl rfl <| WL_nil <| x_then <| C_seq <| R_nd <| nq (Q_move rfl) rfl rfl <| nq (v := .int .i64 1) (Q_lenStrC Tryd.underlying9 rfl (by decide)) rfl rfl <| nq (Q_assign rfl) rfl rfl <| WL_nil <| x_then <| C_seq ?_
 refine C_block ?_
 obtain ⟨o8, ho8, hF⟩ := bnd hF
 refine C_cut (fun a w' => Fr 143 a [(0, .string x1), (1, .string (⟨#[32]⟩ : ByteArray)), (5, .int .i64 1), (16, .bool ((⟨#[32]⟩ : ByteArray).toList == x1.toList))] ∧ Hp C w' ρ (hs)) ?_ ?_
 ·refine R_nd <| nq (Q_move rfl) rfl rfl <| nq (v := .bool false) (Q_known (by decide) (Q_eql rfl rfl)) rfl rfl <| nq (Q_move rfl) rfl rfl <| gq (Q_move rfl) rfl rfl rfl <| gq (Q_move rfl) rfl rfl rfl <| gq (v := .bool ((⟨#[32]⟩ : ByteArray).toList == x1.toList)) (Q_eqlStr Tryd.underlying9 rfl rfl) rfl rfl rfl <| nq (Q_pickF rfl rfl) rfl rfl <| nq (Q_assign rfl) rfl rfl <| WL_nil ?_
  obtain rfl := Option.some.inj ho8
  refine x_A fun a hf => ⟨hf.sub ⟨rfl, rfl, rfl, rfl, trivial⟩, H⟩
 ·rintro a wd9 ⟨hf, H⟩
  try dsimp only at hF
  refine CW.at hf ?_
  refine C_cond rfl (fun hb => ?_) (fun hb => ?_)
  ·replace hF := itT hb hF
   refine C_seq <| R_nd <| nq (Q_assign rfl) rfl rfl <| WL_nil <| x_then <| C_ret <| x_block_ret <| x_then_ret ?_
   obtain rfl := Option.some.inj hF
   exact fn_ret (l := [.tmp 4]) (vs := [.int .i64 0]) rfl rfl rfl ⟨0, rfl, rfl, H⟩
  ·replace hF := itF hb hF
   refine C_seq <| R_nd <| nq (Q_move rfl) rfl rfl <| nq (v := .bool true) (Q_known (by decide) (Q_eql rfl rfl)) rfl rfl <| nq (Q_assign rfl) rfl rfl <| WL_nil <| x_then ?_
   refine C_cond rfl (fun _ => ?_) (fun h => nomatch h)
   refine C_seq <| R_nd <| nq (Q_move rfl) rfl rfl <| nq (Q_move rfl) rfl rfl <| nq (v := .int .u8 32) (Q_ixS rfl Tryd.underlying9 rfl rfl) rfl rfl ?_
   obtain ⟨q10, hq10, hF⟩ := bnd hF
   refine ne (E_call fn73 rfl (c_73_1 H gle   hq10)) rfl rfl ?_
   rintro _ wd12 ⟨rfl, rfl, H⟩
   try dsimp only at hF
   refine nq (Q_assign rfl) rfl rfl <| WL_nil <| x_then <| C_ret <| x_block_ret <| x_then_ret ?_
   obtain rfl := Option.some.inj hF
   exact fn_ret (l := [.tmp 4]) (vs := [.int .i64 (sfind x1 32)]) rfl rfl rfl ⟨sfind x1 32, rfl, rfl, H⟩
theorem c_55_1 {N : Nat} {C : Cx} {w : World} {ρ : View} {hs : List Hl} {x1 : ByteArray} (H : Hp C w ρ (hs)) {gV : Nat → Value} (gle : GErrs ρ 137 errIds gV) {r : Int} (hF : F_strings_Index_1 N x1 = some r) :
  Calls Tryd.prog 55 [.string x1, .string (⟨#[32]⟩ : ByteArray)].toArray w (Rets (fun v w' => (∃ (x6 : Int), x6 = r ∧ .int .i64 x6 = v ∧ Hp C w' ρ (hs)))) := by
 unfold F_strings_Index_1 at hF
 have h0 : Tryd.f55.body = some _ := rfl
 refine fn_calls' Tryd.func55 h0 (n := 8) rfl (by simp) <| C_seq <| R_nd <| nq (Q_assign rfl) rfl rfl <| WL_nil <| x_then <| C_seq <| R_nd <| nq (Q_move rfl) rfl rfl <| nq (Q_move rfl) rfl rfl ?_
 obtain ⟨q7, hq7, hF⟩ := bnd hF
 refine ne (E_call fn64 rfl (c_64_1 H gle   hq7)) rfl rfl ?_
 rintro _ wd10 ⟨x9, rfl, rfl, H⟩
 try dsimp only at hF
 refine nq (Q_assign rfl) rfl rfl <| WL_nil <| x_then <| C_ret ?_
 obtain rfl := Option.some.inj hF
 exact fn_ret (l := [.tmp 4]) (vs := [.int .i64 x9]) rfl rfl rfl ⟨x9, rfl, rfl, H⟩
theorem c_44 {N : Nat} {C : Cx} {w : World} {ρ : View} {hs : List Hl} (H : Hp C w ρ (hs)) {gV : Nat → Value} (gle : GErrs ρ 137 errIds gV) {r : (List ByteArray)} (hF : F_strings_genSplit N = some r) :
  Calls Tryd.prog 44 [.string (⟨#[102, 101, 101, 100, 32, 48, 32, 97, 97, 98]⟩ : ByteArray), .string (⟨#[32]⟩ : ByteArray), .int .i64 0, .int .i64 (-1)].toArray w (Rets (fun v w' => (∃ (v188 : Value) (c189 : (List Value)) (x190 : (List ByteArray)), x190 = r ∧ v188 = v ∧ rdL eS ρ x190 c189 ∧ Hp C w' ρ (Arr v188 1 c189 :: hs)))) := by
 unfold F_strings_genSplit at hF
 have h0 : Tryd.f44.body = some _ := rfl
 refine fn_calls' Tryd.func44 h0 (n := 66) rfl (by simp) <| C_seq <| R_nd <| nq (Q_assign rfl) rfl rfl <| WL_nil <| x_then <| C_seq <| C_seq <| R_nd <| nq (Q_move rfl) rfl rfl <| nq (v := .bool false) (Q_known (by decide) (Q_eql rfl rfl)) rfl rfl <| WL_nil <| x_then ?_
 refine C_cond rfl (fun h => nomatch h) (fun _ => ?_)
 refine C_skip <| x_then <| C_seq <| C_seq <| R_nd <| nq (Q_move rfl) rfl rfl <| nq (v := .bool false) (Q_eqlStrC (by kernel_rfl) Tryd.underlying9 rfl rfl) rfl rfl <| WL_nil <| x_then ?_
 refine C_cond rfl (fun h => nomatch h) (fun _ => ?_)
 refine C_skip <| x_then <| C_seq <| C_seq <| R_nd <| nq (Q_move rfl) rfl rfl <| nq (v := .bool true) (Q_known (by decide) (Q_lss rfl rfl)) rfl rfl <| WL_nil <| x_then ?_
 obtain ⟨o195, ho195, hF⟩ := bnd hF
 refine C_cutQ (fun a w' => Fr 66 a [(0, .string (⟨#[102, 101, 101, 100, 32, 48, 32, 97, 97, 98]⟩ : ByteArray)), (1, .string (⟨#[32]⟩ : ByteArray)), (2, .int .i64 0), (3, .int .i64 (w64 ((scount (⟨#[102, 101, 101, 100, 32, 48, 32, 97, 97, 98]⟩ : ByteArray) 32) + 1)))] ∧ Hp C w' ρ (hs)) ?_ ?_
 ·refine C_cond rfl (fun _ => ?_) (fun h => nomatch h)
  refine R_nd <| nq (Q_move rfl) rfl rfl <| nq (Q_move rfl) rfl rfl ?_
  obtain ⟨q196, hq196, ho195⟩ := bnd ho195
  refine ne (E_call fn57 rfl (c_57 H gle   hq196)) rfl rfl ?_
  rintro _ wd198 ⟨rfl, rfl, H⟩
  try dsimp only at ho195
  refine nq (Q_add rfl rfl) rfl rfl <| nq (Q_assign rfl) rfl rfl <| WL_nil ?_
  obtain rfl := Option.some.inj ho195
  refine x_A fun a hf => ⟨hf.sub ⟨rfl, rfl, rfl, rfl, trivial⟩, H⟩
 ·rintro a wd199 ⟨hf, H⟩
  try dsimp only at hF
  refine XX.at hf <| x_then <| C_seq <| R_nd <| nq (Q_move rfl) rfl rfl <| nq (Q_move rfl) rfl rfl <| nq (v := .int .i64 10) (Q_lenStrC Tryd.underlying9 rfl (by decide)) rfl rfl <| nq (Q_add rfl rfl) rfl rfl <| nq (v := .int .i64 (imin (w64 ((scount (⟨#[102, 101, 101, 100, 32, 48, 32, 97, 97, 98]⟩ : ByteArray) 32) + 1)) (w64 (10 + 1)))) (Q_min rfl rfl) rfl rfl <| nq (Q_assign rfl) rfl rfl <| WL_nil <| x_then <| C_seq <| R_nd ?_
  refine nq (Q_move rfl) rfl rfl ?_
  obtain ⟨x200, hx200, hF⟩ := bnd hF
  obtain ⟨hm202a, hm202b, hm202c⟩ := mk_some hx200
  refine ne (E_make H Tryd.underlying32 ty9 (zs := [.string ByteArray.empty]) rfl rfl (by decide) (by decide) rfl hm202a hm202b) rfl rfl ?_
  rintro _ wd203 ⟨b201, rfl, H⟩
  refine nq (Q_assign rfl) rfl rfl <| WL_nil <| x_then <| C_seq <| R_nd <| nq (Q_move rfl) rfl rfl <| nq (Q_sub rfl rfl) rfl rfl <| nq (Q_assign rfl) rfl rfl <| WL_nil <| x_then <| C_seq <| R_nd <| nq (Q_assign rfl) rfl rfl <| WL_nil ?_
  refine x_then ?_
  obtain ⟨o278, ho278, hF⟩ := bnd hF
  refine C_cut (fun a w' => ∃ (c275 : (List Value)) (x273 : ByteArray) (x274 : Int) (x276 : (List ByteArray)), (x273, x274, x276) = o278 ∧ rdL eS ρ x276 c275 ∧ Fr 66 a [(0, .string x273), (9, (.slice (some ⟨b201, 0, none⟩) (imin (w64 ((scount (⟨#[102, 101, 101, 100, 32, 48, 32, 97, 97, 98]⟩ : ByteArray) 32) + 1)) (w64 (10 + 1))).toNat (imin (w64 ((scount (⟨#[102, 101, 101, 100, 32, 48, 32, 97, 97, 98]⟩ : ByteArray) 32) + 1)) (w64 (10 + 1))).toNat)), (10, .int .i64 x274)] ∧ Hp C w' ρ (Arr (.slice (some ⟨b201, 0, none⟩) (imin (w64 ((scount (⟨#[102, 101, 101, 100, 32, 48, 32, 97, 97, 98]⟩ : ByteArray) 32) + 1)) (w64 (10 + 1))).toNat (imin (w64 ((scount (⟨#[102, 101, 101, 100, 32, 48, 32, 97, 97, 98]⟩ : ByteArray) 32) + 1)) (w64 (10 + 1))).toNat) 1 c275 :: hs)) ?_ ?_
  ·refine C_block ?_
   refine C_iter (f := fun s => F_strings_genSplit_l0 N s.1 s.2.1 s.2.2) ho278 (fun s a w' => ∃ (c302 : (List Value)) (x300 : ByteArray) (x301 : Int) (x303 : (List ByteArray)), (x300, x301, x303) = s ∧ rdL eS ρ x303 c302 ∧ Fr 66 a [(0, .string x300), (1, .string (⟨#[32]⟩ : ByteArray)), (2, .int .i64 0), (3, .int .i64 (w64 ((imin (w64 ((scount (⟨#[102, 101, 101, 100, 32, 48, 32, 97, 97, 98]⟩ : ByteArray) 32) + 1)) (w64 (10 + 1))) - 1))), (9, (.slice (some ⟨b201, 0, none⟩) (imin (w64 ((scount (⟨#[102, 101, 101, 100, 32, 48, 32, 97, 97, 98]⟩ : ByteArray) 32) + 1)) (w64 (10 + 1))).toNat (imin (w64 ((scount (⟨#[102, 101, 101, 100, 32, 48, 32, 97, 97, 98]⟩ : ByteArray) 32) + 1)) (w64 (10 + 1))).toNat)), (10, .int .i64 x301)] ∧ Hp C w' ρ (Arr (.slice (some ⟨b201, 0, none⟩) (imin (w64 ((scount (⟨#[102, 101, 101, 100, 32, 48, 32, 97, 97, 98]⟩ : ByteArray) 32) + 1)) (w64 (10 + 1))).toNat (imin (w64 ((scount (⟨#[102, 101, 101, 100, 32, 48, 32, 97, 97, 98]⟩ : ByteArray) 32) + 1)) (w64 (10 + 1))).toNat) 1 c302 :: hs)) ?_ ?_
   ·exact fun a hf => ⟨(repC (imin (w64 ((scount (⟨#[102, 101, 101, 100, 32, 48, 32, 97, 97, 98]⟩ : ByteArray) 32) + 1)) (w64 (10 + 1))).toNat [.string ByteArray.empty]), (⟨#[102, 101, 101, 100, 32, 48, 32, 97, 97, 98]⟩ : ByteArray), 0, x200, rfl, (hm202c ▸ rdL_rep (e := eS) (ρ := ρ) (rfl) _), hf.sub ⟨rfl, rfl, rfl, rfl, rfl, rfl, trivial⟩, H⟩
   ·rintro s o327 a wd330 ⟨c302, x300, x301, x303, rfl, r304, hf, H⟩ hB328 hO329
    replace hB328 : F_strings_genSplit_l0 N x300 x301 x303 = some o327 := hB328
    unfold F_strings_genSplit_l0 at hB328
    refine CW.at hf <| C_seq <| C_seq <| R_nd <| nq (Q_move rfl) rfl rfl <| nq (Q_move rfl) rfl rfl <| nq (Q_lss rfl rfl) rfl rfl <| WL_nil <| x_then ?_
    refine C_cond rfl (fun hb => ?_) (fun hb => ?_)
    ·replace hB328 := itT hb hB328
     refine C_skip <| x_then <| C_block <| C_seq <| R_nd <| nq (Q_move rfl) rfl rfl <| nq (Q_move rfl) rfl rfl ?_
     obtain ⟨q331, hq331, hB328⟩ := bnd hB328
     refine ne (E_call fn55 rfl (c_55_1 H gle   hq331)) rfl rfl ?_
     rintro _ wd334 ⟨x333, rfl, rfl, H⟩
     try dsimp only at hB328
     refine nq (Q_assign rfl) rfl rfl <| WL_nil <| x_then <| C_seq <| C_seq <| R_nd <| nq (Q_move rfl) rfl rfl <| nq (Q_lss rfl rfl) rfl rfl <| WL_nil <| x_then ?_
     refine C_cond rfl (fun hb => ?_) (fun hb => ?_)
     ·replace hB328 := itT hb hB328
      refine C_exit <| x_then_exit <| x_block_other rfl <| x_then_exit <| x_block_exit ?_
      obtain rfl := Option.some.inj hB328
      obtain rfl := hO329 _ rfl
      refine x_A fun a hf => ⟨c302, x300, x301, x303, rfl, r304, hf.sub ⟨rfl, rfl, rfl, trivial⟩, H⟩
     ·replace hB328 := itF hb hB328
      refine C_skip <| x_then <| C_seq <| R_nd <| nq (Q_move rfl) rfl rfl <| nq (Q_move rfl) rfl rfl <| nq (Q_move rfl) rfl rfl <| nq (Q_move rfl) rfl rfl <| nq (Q_move rfl) rfl rfl <| nq (Q_add rfl rfl) rfl rfl ?_
      obtain ⟨x335, hx335, hB328⟩ := bnd hB328
      refine nq (Q_slStr hx335 Tryd.underlying9 rfl rfl ⟨_, rfl⟩) rfl rfl ?_
      obtain ⟨x336, hx336, hB328⟩ := bnd hB328
      obtain ⟨b337, o338, hi342, hc340, ha341⟩ := arr_at (hs := [Arr (.slice (some ⟨b201, 0, none⟩) (imin (w64 ((scount (⟨#[102, 101, 101, 100, 32, 48, 32, 97, 97, 98]⟩ : ByteArray) 32) + 1)) (w64 (10 + 1))).toNat (imin (w64 ((scount (⟨#[102, 101, 101, 100, 32, 48, 32, 97, 97, 98]⟩ : ByteArray) 32) + 1)) (w64 (10 + 1))).toNat) 1 c302]) (k := 0) (by decide) (H.okS (by simp)) rfl r304 hx336
      refine nq (Q_idx hi342 Tryd.underlying32 ty9 rfl rfl) rfl rfl ?_
      obtain ⟨x343, hx343, hB328⟩ := bnd hB328
      obtain ⟨hs344a, hs344b, hs344c⟩ := setI_some hx343
      have r345 : rdL eS ρ x343 (setC c302 (x301.toNat * 1 + 0) [.string x335]) := hs344c ▸ rdL.set r304 hs344b (rfl)
      refine ne (E_stA (k := 0) (j := 0) (c := [.string x335]) H rfl ty9 hi342 rfl rfl rfl rfl (one_cons rfl one_nil) (by decide)) rfl rfl ?_
      rintro _ wd346 H
      dsimp only [List.set] at H
      refine WL_nil <| x_then <| C_seq <| R_nd <| nq (Q_move rfl) rfl rfl <| nq (Q_move rfl) rfl rfl <| nq (Q_move rfl) rfl rfl <| nq (v := .int .i64 1) (Q_lenStrC Tryd.underlying9 rfl (by decide)) rfl rfl <| nq (Q_add rfl rfl) rfl rfl ?_
      obtain ⟨x347, hx347, hB328⟩ := bnd hB328
      refine nq (Q_slStr hx347 Tryd.underlying9 rfl ⟨_, rfl⟩ rfl) rfl rfl <| nq (Q_assign rfl) rfl rfl <| WL_nil <| x_then <| R_nd <| nq (Q_move rfl) rfl rfl <| nq (Q_add rfl rfl) rfl rfl <| nq (Q_assign rfl) rfl rfl <| WL_nil <| x_block ?_
      obtain rfl := Option.some.inj hB328
      refine x_A fun a hf => ⟨_, rfl, (setC c302 (x301.toNat * 1 + 0) [.string x335]), x347, w64 (x301 + 1), x343, rfl, r345, hf.sub ⟨rfl, rfl, rfl, rfl, rfl, rfl, trivial⟩, H⟩
    ·replace hB328 := itF hb hB328
     refine C_exit <| x_then_exit <| x_then_exit <| x_block_exit ?_
     obtain rfl := Option.some.inj hB328
     obtain rfl := hO329 _ rfl
     refine x_A fun a hf => ⟨c302, x300, x301, x303, rfl, r304, hf.sub ⟨rfl, rfl, rfl, trivial⟩, H⟩
  ·rintro a wd348 ⟨c275, x273, x274, x276, rfl, r277, hf, H⟩
   try dsimp only at hF
   refine CW.at hf <| C_seq <| R_nd <| nq (Q_move rfl) rfl rfl <| nq (Q_move rfl) rfl rfl <| nq (Q_move rfl) rfl rfl ?_
   obtain ⟨x349, hx349, hF⟩ := bnd hF
   obtain ⟨b350, o351, hi355, hc353, ha354⟩ := arr_at (hs := [Arr (.slice (some ⟨b201, 0, none⟩) (imin (w64 ((scount (⟨#[102, 101, 101, 100, 32, 48, 32, 97, 97, 98]⟩ : ByteArray) 32) + 1)) (w64 (10 + 1))).toNat (imin (w64 ((scount (⟨#[102, 101, 101, 100, 32, 48, 32, 97, 97, 98]⟩ : ByteArray) 32) + 1)) (w64 (10 + 1))).toNat) 1 c275]) (k := 0) (by decide) (H.okS (by simp)) rfl r277 hx349
   refine nq (Q_idx hi355 Tryd.underlying32 ty9 rfl rfl) rfl rfl ?_
   obtain ⟨x356, hx356, hF⟩ := bnd hF
   obtain ⟨hs357a, hs357b, hs357c⟩ := setI_some hx356
   have r358 : rdL eS ρ x356 (setC c275 (x274.toNat * 1 + 0) [.string x273]) := hs357c ▸ rdL.set r277 hs357b (rfl)
   refine ne (E_stA (k := 0) (j := 0) (c := [.string x273]) H rfl ty9 hi355 rfl rfl rfl rfl (one_cons rfl one_nil) (by decide)) rfl rfl ?_
   rintro _ wd359 H
   dsimp only [List.set] at H
   refine WL_nil <| x_then <| C_seq <| R_nd <| nq (Q_move rfl) rfl rfl <| nq (Q_move rfl) rfl rfl <| nq (Q_add rfl rfl) rfl rfl ?_
   obtain ⟨x360, hx360, hF⟩ := bnd hF
   obtain ⟨v362, c365, H, r363, hq366⟩ := sliceW (P := Tryd.prog) (en := eS) (k := 0) H rfl (by decide) r358 hx360
   dsimp only [List.set] at H
   refine nq (v := v362) (hq366 _ _ _ _ _ _ _ _ _ _ _ _ _ _ _ Tryd.underlying32 ty9 rfl rfl ⟨_, rfl⟩) rfl rfl <| nq (Q_assign rfl) rfl rfl <| WL_nil <| x_then <| C_ret ?_
   obtain rfl := Option.some.inj hF
   exact fn_ret (l := [.tmp 8]) (vs := [v362]) rfl rfl rfl ⟨v362, c365, x360, rfl, rfl, r363, H⟩
theorem c_29 {N : Nat} {C : Cx} {w : World} {ρ : View} {hs : List Hl} (H : Hp C w ρ (hs)) {gV : Nat → Value} (gle : GErrs ρ 137 errIds gV) {r : (List ByteArray)} (hF : F_strings_Split N = some r) :
  Calls Tryd.prog 29 [.string (⟨#[102, 101, 101, 100, 32, 48, 32, 97, 97, 98]⟩ : ByteArray), .string (⟨#[32]⟩ : ByteArray)].toArray w (Rets (fun v w' => (∃ (v8 : Value) (c9 : (List Value)) (x10 : (List ByteArray)), x10 = r ∧ v8 = v ∧ rdL eS ρ x10 c9 ∧ Hp C w' ρ (Arr v8 1 c9 :: hs)))) := by
 unfold F_strings_Split at hF
 have h0 : Tryd.f29.body = some _ := rfl
 refine fn_calls' Tryd.func29 h0 (n := 8) rfl (by simp) <| C_seq <| R_nd <| nq (Q_assign rfl) rfl rfl <| WL_nil <| x_then <| C_seq <| R_nd <| nq (Q_move rfl) rfl rfl <| nq (Q_move rfl) rfl rfl ?_
 obtain ⟨q12, hq12, hF⟩ := bnd hF
 refine ne (E_call fn44 rfl (c_44 H gle   hq12)) rfl rfl ?_
 rintro _ wd18 ⟨v14, c15, x16, rfl, rfl, r17, H⟩
 try dsimp only at hF
 refine nq (Q_assign rfl) rfl rfl <| WL_nil <| x_then <| C_ret ?_
 obtain rfl := Option.some.inj hF
 exact fn_ret (l := [.tmp 4]) (vs := [v14]) rfl rfl rfl ⟨v14, c15, x16, rfl, rfl, r17, H⟩
theorem c_30 {N : Nat} {C : Cx} {w : World} {ρ : View} {hs : List Hl} (H : Hp C w ρ (hs)) {gV : Nat → Value} (_gle : GErrs ρ 137 errIds gV) {r : Unit} (hF : F_script_forms N = some r) :
  Calls Tryd.prog 30 [].toArray w (Rets (fun v w' => (∃ (v3 : Value) (c4 : (List Value)), () = r ∧ v3 = v ∧ rdL (eP eS (eP (eI .i64) eS)) ρ ([((⟨#[111, 112, 101, 110]⟩ : ByteArray), (1 : Int), ByteArray.empty), ((⟨#[102, 101, 101, 100]⟩ : ByteArray), (2 : Int), (⟨#[110, 98]⟩ : ByteArray)), ((⟨#[99, 108, 111, 115, 101]⟩ : ByteArray), (3 : Int), (⟨#[110]⟩ : ByteArray)), ((⟨#[105, 110, 115, 116, 97, 108, 108]⟩ : ByteArray), (4 : Int), (⟨#[110, 98]⟩ : ByteArray)), ((⟨#[100, 114, 97, 105, 110]⟩ : ByteArray), (5 : Int), (⟨#[110, 109]⟩ : ByteArray)), ((⟨#[116, 105, 99, 107]⟩ : ByteArray), (6 : Int), ByteArray.empty), ((⟨#[101, 110, 100]⟩ : ByteArray), (7 : Int), (⟨#[110, 109]⟩ : ByteArray))]) c4 ∧ Hp C w' ρ (Arr v3 3 c4 :: hs)))) := by
 unfold F_script_forms at hF
 have h0 : Tryd.f30.body = some _ := rfl
 refine fn_calls' Tryd.func30 h0 (n := 9) rfl (by simp) <| C_seq <| R_nd <| nq (Q_assign rfl) rfl rfl <| WL_nil <| x_then <| C_seq <| R_nd <| nq (v := .agg #[.string (⟨#[111, 112, 101, 110]⟩ : ByteArray), .int .i64 1, .string ByteArray.empty]) (Q_buildS st75.choose_spec (ps := [(0, [.string (⟨#[111, 112, 101, 110]⟩ : ByteArray)]), (1, [.int .i64 1]), (2, [.string ByteArray.empty])]) rfl ⟨rfl, rfl, by simp, ⟨rfl, rfl, by simp, ⟨rfl, rfl, by simp, trivial⟩⟩⟩ rfl) rfl rfl <| nq (v := .agg #[.string (⟨#[102, 101, 101, 100]⟩ : ByteArray), .int .i64 2, .string (⟨#[110, 98]⟩ : ByteArray)]) (Q_buildS st75.choose_spec (ps := [(0, [.string (⟨#[102, 101, 101, 100]⟩ : ByteArray)]), (1, [.int .i64 2]), (2, [.string (⟨#[110, 98]⟩ : ByteArray)])]) rfl ⟨rfl, rfl, by simp, ⟨rfl, rfl, by simp, ⟨rfl, rfl, by simp, trivial⟩⟩⟩ rfl) rfl rfl <| nq (v := .agg #[.string (⟨#[99, 108, 111, 115, 101]⟩ : ByteArray), .int .i64 3, .string (⟨#[110]⟩ : ByteArray)]) (Q_buildS st75.choose_spec (ps := [(0, [.string (⟨#[99, 108, 111, 115, 101]⟩ : ByteArray)]), (1, [.int .i64 3]), (2, [.string (⟨#[110]⟩ : ByteArray)])]) rfl ⟨rfl, rfl, by simp, ⟨rfl, rfl, by simp, ⟨rfl, rfl, by simp, trivial⟩⟩⟩ rfl) rfl rfl <| nq (v := .agg #[.string (⟨#[105, 110, 115, 116, 97, 108, 108]⟩ : ByteArray), .int .i64 4, .string (⟨#[110, 98]⟩ : ByteArray)]) (Q_buildS st75.choose_spec (ps := [(0, [.string (⟨#[105, 110, 115, 116, 97, 108, 108]⟩ : ByteArray)]), (1, [.int .i64 4]), (2, [.string (⟨#[110, 98]⟩ : ByteArray)])]) rfl ⟨rfl, rfl, by simp, ⟨rfl, rfl, by simp, ⟨rfl, rfl, by simp, trivial⟩⟩⟩ rfl) rfl rfl <| nq (v := .agg #[.string (⟨#[100, 114, 97, 105, 110]⟩ : ByteArray), .int .i64 5, .string (⟨#[110, 109]⟩ : ByteArray)]) (Q_buildS st75.choose_spec (ps := [(0, [.string (⟨#[100, 114, 97, 105, 110]⟩ : ByteArray)]), (1, [.int .i64 5]), (2, [.string (⟨#[110, 109]⟩ : ByteArray)])]) rfl ⟨rfl, rfl, by simp, ⟨rfl, rfl, by simp, ⟨rfl, rfl, by simp, trivial⟩⟩⟩ rfl) rfl rfl <| nq (v := .agg #[.string (⟨#[116, 105, 99, 107]⟩ : ByteArray), .int .i64 6, .string ByteArray.empty]) (Q_buildS st75.choose_spec (ps := [(0, [.string (⟨#[116, 105, 99, 107]⟩ : ByteArray)]), (1, [.int .i64 6]), (2, [.string ByteArray.empty])]) rfl ⟨rfl, rfl, by simp, ⟨rfl, rfl, by simp, ⟨rfl, rfl, by simp, trivial⟩⟩⟩ rfl) rfl rfl ?_
 refine nq (v := .agg #[.string (⟨#[101, 110, 100]⟩ : ByteArray), .int .i64 7, .string (⟨#[110, 109]⟩ : ByteArray)]) (Q_buildS st75.choose_spec (ps := [(0, [.string (⟨#[101, 110, 100]⟩ : ByteArray)]), (1, [.int .i64 7]), (2, [.string (⟨#[110, 109]⟩ : ByteArray)])]) rfl ⟨rfl, rfl, by simp, ⟨rfl, rfl, by simp, ⟨rfl, rfl, by simp, trivial⟩⟩⟩ rfl) rfl rfl <| ne (E_bslice (xs := [.tmp 1, .tmp 2, .tmp 3, .tmp 4, .tmp 5, .tmp 6, .tmp 7]) (vs := [.agg #[.string (⟨#[111, 112, 101, 110]⟩ : ByteArray), .int .i64 1, .string ByteArray.empty], .agg #[.string (⟨#[102, 101, 101, 100]⟩ : ByteArray), .int .i64 2, .string (⟨#[110, 98]⟩ : ByteArray)], .agg #[.string (⟨#[99, 108, 111, 115, 101]⟩ : ByteArray), .int .i64 3, .string (⟨#[110]⟩ : ByteArray)], .agg #[.string (⟨#[105, 110, 115, 116, 97, 108, 108]⟩ : ByteArray), .int .i64 4, .string (⟨#[110, 98]⟩ : ByteArray)], .agg #[.string (⟨#[100, 114, 97, 105, 110]⟩ : ByteArray), .int .i64 5, .string (⟨#[110, 109]⟩ : ByteArray)], .agg #[.string (⟨#[116, 105, 99, 107]⟩ : ByteArray), .int .i64 6, .string ByteArray.empty], .agg #[.string (⟨#[101, 110, 100]⟩ : ByteArray), .int .i64 7, .string (⟨#[110, 109]⟩ : ByteArray)]]) H Tryd.underlying71 ty75 (by decide) (cs := [.string (⟨#[111, 112, 101, 110]⟩ : ByteArray), .int .i64 1, .string ByteArray.empty, .string (⟨#[102, 101, 101, 100]⟩ : ByteArray), .int .i64 2, .string (⟨#[110, 98]⟩ : ByteArray), .string (⟨#[99, 108, 111, 115, 101]⟩ : ByteArray), .int .i64 3, .string (⟨#[110]⟩ : ByteArray), .string (⟨#[105, 110, 115, 116, 97, 108, 108]⟩ : ByteArray), .int .i64 4, .string (⟨#[110, 98]⟩ : ByteArray), .string (⟨#[100, 114, 97, 105, 110]⟩ : ByteArray), .int .i64 5, .string (⟨#[110, 109]⟩ : ByteArray), .string (⟨#[116, 105, 99, 107]⟩ : ByteArray), .int .i64 6, .string ByteArray.empty, .string (⟨#[101, 110, 100]⟩ : ByteArray), .int .i64 7, .string (⟨#[110, 109]⟩ : ByteArray)]) rfl (sz_cons rfl (sz_cons rfl (sz_cons rfl (sz_cons rfl (sz_cons rfl (sz_cons rfl (sz_cons rfl sz_nil))))))) rfl (by simp) (by simp) rfl rfl) rfl rfl ?_
 rintro _ wd7 ⟨b6, rfl, H⟩
 refine nq (Q_assign rfl) rfl rfl <| WL_nil <| x_then <| C_ret ?_
 obtain rfl := Option.some.inj hF
 exact fn_ret (l := [.tmp 0]) (vs := [(.slice (some ⟨b6, 0, none⟩) 7 7)]) rfl rfl rfl ⟨(.slice (some ⟨b6, 0, none⟩) 7 7), [.string (⟨#[111, 112, 101, 110]⟩ : ByteArray), .int .i64 1, .string ByteArray.empty, .string (⟨#[102, 101, 101, 100]⟩ : ByteArray), .int .i64 2, .string (⟨#[110, 98]⟩ : ByteArray), .string (⟨#[99, 108, 111, 115, 101]⟩ : ByteArray), .int .i64 3, .string (⟨#[110]⟩ : ByteArray), .string (⟨#[105, 110, 115, 116, 97, 108, 108]⟩ : ByteArray), .int .i64 4, .string (⟨#[110, 98]⟩ : ByteArray), .string (⟨#[100, 114, 97, 105, 110]⟩ : ByteArray), .int .i64 5, .string (⟨#[110, 109]⟩ : ByteArray), .string (⟨#[116, 105, 99, 107]⟩ : ByteArray), .int .i64 6, .string ByteArray.empty, .string (⟨#[101, 110, 100]⟩ : ByteArray), .int .i64 7, .string (⟨#[110, 109]⟩ : ByteArray)], rfl, rfl, (show rdL (eP eS (eP (eI .i64) eS)) ρ ([((⟨#[111, 112, 101, 110]⟩ : ByteArray), (1 : Int), ByteArray.empty), ((⟨#[102, 101, 101, 100]⟩ : ByteArray), (2 : Int), (⟨#[110, 98]⟩ : ByteArray)), ((⟨#[99, 108, 111, 115, 101]⟩ : ByteArray), (3 : Int), (⟨#[110]⟩ : ByteArray)), ((⟨#[105, 110, 115, 116, 97, 108, 108]⟩ : ByteArray), (4 : Int), (⟨#[110, 98]⟩ : ByteArray)), ((⟨#[100, 114, 97, 105, 110]⟩ : ByteArray), (5 : Int), (⟨#[110, 109]⟩ : ByteArray)), ((⟨#[116, 105, 99, 107]⟩ : ByteArray), (6 : Int), ByteArray.empty), ((⟨#[101, 110, 100]⟩ : ByteArray), (7 : Int), (⟨#[110, 109]⟩ : ByteArray))]) ([.string (⟨#[111, 112, 101, 110]⟩ : ByteArray), .int .i64 1, .string ByteArray.empty, .string (⟨#[102, 101, 101, 100]⟩ : ByteArray), .int .i64 2, .string (⟨#[110, 98]⟩ : ByteArray), .string (⟨#[99, 108, 111, 115, 101]⟩ : ByteArray), .int .i64 3, .string (⟨#[110]⟩ : ByteArray), .string (⟨#[105, 110, 115, 116, 97, 108, 108]⟩ : ByteArray), .int .i64 4, .string (⟨#[110, 98]⟩ : ByteArray), .string (⟨#[100, 114, 97, 105, 110]⟩ : ByteArray), .int .i64 5, .string (⟨#[110, 109]⟩ : ByteArray), .string (⟨#[116, 105, 99, 107]⟩ : ByteArray), .int .i64 6, .string ByteArray.empty, .string (⟨#[101, 110, 100]⟩ : ByteArray), .int .i64 7, .string (⟨#[110, 109]⟩ : ByteArray)]) from ⟨([.string (⟨#[111, 112, 101, 110]⟩ : ByteArray), .int .i64 1, .string ByteArray.empty]), _, rfl, ⟨[.string (⟨#[111, 112, 101, 110]⟩ : ByteArray)], _, rfl, rfl, ⟨[.int .i64 1], _, rfl, rfl, rfl⟩⟩, ⟨([.string (⟨#[102, 101, 101, 100]⟩ : ByteArray), .int .i64 2, .string (⟨#[110, 98]⟩ : ByteArray)]), _, rfl, ⟨[.string (⟨#[102, 101, 101, 100]⟩ : ByteArray)], _, rfl, rfl, ⟨[.int .i64 2], _, rfl, rfl, rfl⟩⟩, ⟨([.string (⟨#[99, 108, 111, 115, 101]⟩ : ByteArray), .int .i64 3, .string (⟨#[110]⟩ : ByteArray)]), _, rfl, ⟨[.string (⟨#[99, 108, 111, 115, 101]⟩ : ByteArray)], _, rfl, rfl, ⟨[.int .i64 3], _, rfl, rfl, rfl⟩⟩, ⟨([.string (⟨#[105, 110, 115, 116, 97, 108, 108]⟩ : ByteArray), .int .i64 4, .string (⟨#[110, 98]⟩ : ByteArray)]), _, rfl, ⟨[.string (⟨#[105, 110, 115, 116, 97, 108, 108]⟩ : ByteArray)], _, rfl, rfl, ⟨[.int .i64 4], _, rfl, rfl, rfl⟩⟩, ⟨([.string (⟨#[100, 114, 97, 105, 110]⟩ : ByteArray), .int .i64 5, .string (⟨#[110, 109]⟩ : ByteArray)]), _, rfl, ⟨[.string (⟨#[100, 114, 97, 105, 110]⟩ : ByteArray)], _, rfl, rfl, ⟨[.int .i64 5], _, rfl, rfl, rfl⟩⟩, ⟨([.string (⟨#[116, 105, 99, 107]⟩ : ByteArray), .int .i64 6, .string ByteArray.empty]), _, rfl, ⟨[.string (⟨#[116, 105, 99, 107]⟩ : ByteArray)], _, rfl, rfl, ⟨[.int .i64 6], _, rfl, rfl, rfl⟩⟩, ⟨([.string (⟨#[101, 110, 100]⟩ : ByteArray), .int .i64 7, .string (⟨#[110, 109]⟩ : ByteArray)]), _, rfl, ⟨[.string (⟨#[101, 110, 100]⟩ : ByteArray)], _, rfl, rfl, ⟨[.int .i64 7], _, rfl, rfl, rfl⟩⟩, rdL.nil⟩⟩⟩⟩⟩⟩⟩), H⟩
theorem c_32 {N : Nat} {C : Cx} {w : World} {ρ : View} {hs : List Hl} {b4 : Nat} {c5 : List Value} {v8 : Value} {x1 : ByteArray} {x2 : Int} {x3 : ByteArray} {x6 : (List ByteArray)} (H : Hp C w ρ (Box b4 [v8] :: Arr v8 1 c5 :: hs)) {gV : Nat → Value} (_gle : GErrs ρ 137 errIds gV) (r7 : rdL eS ρ x6 c5) {r : Bool} (hF : F_script_Parse_1 N x1 x2 x3 x6 = some r) :
  Calls Tryd.prog 32 [.agg #[.string x1, .int .i64 x2, .string x3], .pointer (some ⟨b4, 0, none⟩)].toArray w (Rets (fun v w' => (∃ (x18 : Bool), x18 = r ∧ .bool x18 = v ∧ Hp C w' ρ (Box b4 [v8] :: Arr v8 1 c5 :: hs)))) := by
 unfold F_script_Parse_1 at hF
 have h0 : Tryd.f32.body = some _ := rfl
 refine fn_calls' Tryd.func32 h0 (n := 10) rfl (by simp) <| C_seq <| R_nd <| ne (E_box H (vs := [.string x1, .int .i64 x2, .string x3]) rfl rfl) rfl rfl ?_
 rintro _ wd20 ⟨b19, rfl, H⟩
 refine nq (Q_assign rfl) rfl rfl <| WL_nil <| x_then <| C_seq <| R_dr (.take 0 (.take 1 (.take 2 (.take 3 (.take 4 (.take 5 (.take 6 .done))))))) (fun w' => Ok w' ρ [Box b19 [.string x1, .int .i64 x2, .string x3], Box b4 [v8], Arr v8 1 c5]) (by kernel_rfl) (by kernel_rfl) (by kernel_rfl) (H.drew.okS (by simp)) ?_
 replace H := H.drew
 refine dq (v := .pointer (some ⟨b19, 0, none⟩)) rfl (fun _ _ => Q_fld Tryd.underlying75 rfl ty9 (by decide) rfl rfl) rfl rfl <| dq (v := .string x1) rfl (fun _ hw => Q_ldB (k := 0) (cs := [.string x1]) hw rfl ty9 rfl rfl rfl (fun _ => rfl) rfl) rfl rfl <| dq (v := v8) rfl (fun _ hw => Q_ldB (k := 1) (cs := [v8]) hw rfl ty32 rfl rfl rfl (fun _ => rfl) rfl) rfl rfl ?_
 obtain ⟨x21, hx21, hF⟩ := bnd hF
 obtain ⟨b22, o23, hi27, hc25, ha26⟩ := arr_at (hs := [Arr v8 1 c5]) (k := 0) (by decide) (H.okS (by simp)) rfl r7 hx21
 refine dq rfl (fun _ _ => Q_idx hi27 Tryd.underlying32 ty9 rfl rfl) rfl rfl <| dq (v := .string x21) rfl (fun _ hw => Q_ld (show cellsAt _ _ _ [.string x21] from (show _ = [_] from hc25) ▸ (ha26 _ (Ok.subS (by simp) hw))) ty9 rfl (fun _ => rfl) rfl rfl) rfl rfl <| dq (v := .bool (x1.toList == x21.toList)) rfl (fun _ _ => Q_eqlStr Tryd.underlying9 rfl rfl) rfl rfl <| dq rfl (fun _ _ => Q_assign rfl) rfl rfl <| DL_nil <| x_then <| C_ret ?_
 replace H := H.f2
 replace H := H.f2
 replace H := H.drop 2 rfl
 dsimp only [List.eraseIdx] at H
 obtain rfl := Option.some.inj hF
 exact fn_ret (l := [.tmp 3]) (vs := [.bool (x1.toList == x21.toList)]) rfl rfl rfl ⟨x1.toList == x21.toList, rfl, rfl, H⟩
theorem c_31 {N : Nat} {C : Cx} {w : World} {ρ : View} {hs : List Hl} {v1 : Value} {b4 : Nat} {c5 : List Value} {v8 : Value} {x2 : (List (ByteArray × Int × ByteArray))} {x6 : (List ByteArray)} (H : Hp C w ρ (Box b4 [v8] :: Arr v8 1 c5 :: hs)) {gV : Nat → Value} (gle : GErrs ρ 137 errIds gV) (r3 : RdSl ρ (eP eS (eP (eI .i64) eS)) v1 x2) (r7 : rdL eS ρ x6 c5) {r : Int} (hF : F_slices_IndexFunc_script_form_script_form N x2 x6 = some r) :
  Calls Tryd.prog 31 [v1, .func (.func 32) #[] [.pointer (some ⟨b4, 0, none⟩)].toArray].toArray w (Rets (fun v w' => (∃ (x151 : Int), x151 = r ∧ .int .i64 x151 = v ∧ Hp C w' ρ (Box b4 [v8] :: Arr v8 1 c5 :: hs)))) := by
 unfold F_slices_IndexFunc_script_form_script_form at hF
 have h0 : Tryd.f31.body = some _ := rfl
 refine fn_calls' Tryd.func31 h0 (n := 19) rfl (by simp) <| C_seq <| R_nd <| nq (Q_assign rfl) rfl rfl <| WL_nil <| x_then <| C_seq <| C_seq <| R_nd <| nq (Q_move rfl) rfl rfl <| nq (Q_len Tryd.underlying71 rfl r3) rfl rfl <| nq (Q_move rfl) rfl rfl <| WL_nil <| x_then ?_
 obtain ⟨o222, ho222, hF⟩ := bnd hF
 refine C_cutQ (fun a w' => .inl () = o222 ∧ Fr 19 a [] ∧ Hp C w' ρ (Box b4 [v8] :: Arr v8 1 c5 :: hs)) ?_ ?_
 ·refine C_block ?_
  replace H := H.f1
  replace H := H.f1
  refine C_iter (f := fun s => F_slices_IndexFunc_script_form_script_form_l0 N x2 x6 s) ho222 (fun s a w' => ∃ (x245 : Int), x245 = s ∧ Fr 19 a [(0, v1), (1, .func (.func 32) #[] [.pointer (some ⟨b4, 0, none⟩)].toArray), (7, .int .i64 (x2.length : Int)), (8, .int .i64 x245)] ∧ Hp C w' ρ (Box b4 [v8] :: Arr v8 1 c5 :: hs)) ?_ ?_
  ·exact fun a hf => ⟨0, rfl, hf.sub ⟨rfl, rfl, rfl, rfl, trivial⟩, H⟩
  ·rintro s o268 a wd271 ⟨x245, rfl, hf, H⟩ hB269 hO270
   replace hB269 : F_slices_IndexFunc_script_form_script_form_l0 N x2 x6 x245 = some o268 := hB269
   unfold F_slices_IndexFunc_script_form_script_form_l0 at hB269
   refine CW.at hf <| C_seq <| R_nd <| nq (Q_lss rfl rfl) rfl rfl <| WL_nil <| x_then <| C_seq ?_
   refine C_cond rfl (fun hb => ?_) (fun hb => ?_)
   ·replace hB269 := itT hb hB269
    refine C_skip <| x_then <| C_seq <| C_block <| C_seq <| R_nd <| nq (Q_move rfl) rfl rfl <| nq (Q_assign rfl) rfl rfl <| WL_nil <| x_then <| C_seq <| R_nd <| nq (Q_move rfl) rfl rfl <| nq (Q_move rfl) rfl rfl ?_
    refine nq (Q_move rfl) rfl rfl ?_
    obtain ⟨x272, hx272, hB269⟩ := bnd hB269
    obtain ⟨b273, o274, c275, hc276, ha277, hi278⟩ := idxR r3 hx272
    refine nq (Q_idx hi278 Tryd.underlying71 ty75 rfl rfl) rfl rfl ?_
    obtain ⟨c279, c280, he281, hc282, hc283⟩ := hc276
    obtain ⟨c284, c285, he286, hc287, hc288⟩ := hc283
    refine nq (v := .agg #[.string x272.1, .int .i64 x272.2.1, .string x272.2.2]) (Q_ld (show cellsAt _ _ _ [.string x272.1, .int .i64 x272.2.1, .string x272.2.2] from cellsAt.cg (cat2 he281 (rdS hc282) (cat2 he286 (rdI hc287) (rdS hc288))) (ha277.up H.ok.view)) ty75 rfl (fun h => nomatch h) rfl rfl) rfl rfl ?_
    replace H := H.f1
    replace H := H.f1
    obtain ⟨q289, hq289, hB269⟩ := bnd hB269
    refine ne (E_callV fn32 rfl rfl (c_32 H gle  r7 hq289)) rfl rfl ?_
    rintro _ wd292 ⟨x291, rfl, rfl, H⟩
    try dsimp only at hB269
    refine WL_nil <| x_then ?_
    refine C_cond rfl (fun hb => ?_) (fun hb => ?_)
    ·replace hB269 := itT hb hB269
     refine C_seq <| R_nd <| nq (Q_move rfl) rfl rfl <| nq (Q_assign rfl) rfl rfl <| WL_nil <| x_then <| C_ret <| x_block_ret <| x_then_ret <| x_then_ret <| x_block_ret <| x_then_ret <| x_then_ret ?_
     replace H := H.f1
     replace H := H.f1
     obtain rfl := Option.some.inj hB269
     obtain rfl := hO270 _ rfl
     obtain rfl := Option.some.inj (show some _ = some _ from hF)
     exact fn_ret (l := [.tmp 4]) (vs := [.int .i64 x245]) rfl rfl rfl ⟨x245, rfl, rfl, H⟩
    ·replace hB269 := itF hb hB269
     refine C_skip <| x_block <| x_then <| R_nd <| nq (Q_add rfl rfl) rfl rfl <| nq (Q_move rfl) rfl rfl <| WL_nil ?_
     replace H := H.f1
     replace H := H.f1
     obtain rfl := Option.some.inj hB269
     refine x_A fun a hf => ⟨_, rfl, w64 (x245 + 1), rfl, hf.sub ⟨rfl, rfl, rfl, rfl, trivial⟩, H⟩
   ·replace hB269 := itF hb hB269
    refine C_exit <| x_then_exit <| x_then_exit <| x_block_exit ?_
    replace H := H.f1
    replace H := H.f1
    obtain rfl := Option.some.inj hB269
    obtain rfl := hO270 _ rfl
    refine x_A fun a hf => ⟨rfl, hf.sub trivial, H⟩
 ·rintro a wd293 ⟨rfl, hf, H⟩
  try dsimp only at hF
  refine XX.at hf <| x_then <| C_seq <| R_nd <| nq (Q_assign rfl) rfl rfl <| WL_nil <| x_then <| C_ret ?_
  replace H := H.f1
  replace H := H.f1
  obtain rfl := Option.some.inj hF
  exact fn_ret (l := [.tmp 4]) (vs := [.int .i64 (-1)]) rfl rfl rfl ⟨(-1), rfl, rfl, H⟩
theorem c_51 {N : Nat} {C : Cx} {w : World} {ρ : View} {hs : List Hl} {x1 : ByteArray} (H : Hp C w ρ (hs)) {gV : Nat → Value} (_gle : GErrs ρ 137 errIds gV) {r : Bool} (hF : F_internal_stringslite_HasPrefix N x1 = some r) :
  Calls Tryd.prog 51 [.string x1, .string (⟨#[45]⟩ : ByteArray)].toArray w (Rets (fun v w' => (∃ (x7 : Bool), x7 = r ∧ .bool x7 = v ∧ Hp C w' ρ (hs)))) := by
 unfold F_internal_stringslite_HasPrefix at hF
 have h0 : Tryd.f51.body = some _ := rfl
 refine fn_calls' Tryd.func51 h0 (n := 18) rfl (by simp) <| C_seq <| R_nd <| nq (Q_assign rfl) rfl rfl <| WL_nil <| x_then ?_
 obtain ⟨o10, ho10, hF⟩ := bnd hF
 refine C_cut (fun a w' => ∃ (x9 : Bool), x9 = o10 ∧ Fr 18 a [(4, .bool x9)] ∧ Hp C w' ρ (hs)) ?_ ?_
 ·refine R_nd <| nq (Q_move rfl) rfl rfl <| nq (Q_lenStr Tryd.underlying9 rfl) rfl rfl <| nq (Q_move rfl) rfl rfl <| nq (v := .int .i64 1) (Q_lenStrC Tryd.underlying9 rfl (by decide)) rfl rfl <| nq (Q_geq rfl rfl) rfl rfl <| nq (Q_move rfl) rfl rfl ?_
  rcases Bool.eq_false_or_eq_true (decide ((x1.size : Int) ≥ 1)) with hb | hb
  ·rw [hb]
   replace ho10 := itT hb ho10
   refine gq (Q_move rfl) rfl rfl rfl <| gq (Q_move rfl) rfl rfl rfl <| gq (v := .int .i64 1) (Q_lenStrC Tryd.underlying9 rfl (by decide)) rfl rfl rfl ?_
   obtain ⟨x11, hx11, ho10⟩ := bnd ho10
   refine gq (Q_slStr hx11 Tryd.underlying9 rfl rfl ⟨_, rfl⟩) rfl rfl rfl <| gq (Q_move rfl) rfl rfl rfl <| gq (v := .bool (x11.toList == (⟨#[45]⟩ : ByteArray).toList)) (Q_eqlStr Tryd.underlying9 rfl rfl) rfl rfl rfl <| nq (Q_pickT rfl rfl) rfl rfl <| nq (Q_assign rfl) rfl rfl <| WL_nil ?_
   obtain rfl := Option.some.inj ho10
   refine x_A fun a hf => ⟨x11.toList == (⟨#[45]⟩ : ByteArray).toList, rfl, hf.sub ⟨rfl, trivial⟩, H⟩
  ·rw [hb]
   replace ho10 := itF hb ho10
   refine gs rfl rfl rfl rfl <| gs rfl rfl rfl rfl <| gs rfl rfl rfl rfl <| gs rfl rfl rfl rfl <| gs rfl rfl rfl rfl <| gs rfl rfl rfl rfl <| nq (Q_pickF rfl rfl) rfl rfl <| nq (Q_assign rfl) rfl rfl <| WL_nil ?_
   obtain rfl := Option.some.inj ho10
   refine x_A fun a hf => ⟨false, rfl, hf.sub ⟨rfl, trivial⟩, H⟩
 ·rintro a wd12 ⟨x9, rfl, hf, H⟩
  try dsimp only at hF
  refine CW.at hf <| C_ret ?_
  obtain rfl := Option.some.inj hF
  exact fn_ret (l := [.tmp 4]) (vs := [.bool x9]) rfl rfl rfl ⟨x9, rfl, rfl, H⟩
theorem c_39 {N : Nat} {C : Cx} {w : World} {ρ : View} {hs : List Hl} {x1 : ByteArray} (H : Hp C w ρ (hs)) {gV : Nat → Value} (gle : GErrs ρ 137 errIds gV) {r : (ByteArray × Bool)} (hF : F_internal_stringslite_CutPrefix N x1 = some r) :
  Calls Tryd.prog 39 [.string x1, .string (⟨#[45]⟩ : ByteArray)].toArray w (Rets (fun v w' => (∃ (x7 : ByteArray) (x8 : Bool), (x7, x8) = r ∧ .tuple [.string x7, .bool x8].toArray = v ∧ Hp C w' ρ (hs)))) := by
 unfold F_internal_stringslite_CutPrefix at hF
 have h0 : Tryd.f39.body = some _ := rfl
 refine fn_calls' Tryd.func39 h0 (n := 15) rfl (by simp) <| C_seq <| R_nd <| nq (Q_assign rfl) rfl rfl <| nq (Q_assign rfl) rfl rfl <| WL_nil <| x_then <| C_seq <| C_seq <| R_nd <| nq (Q_move rfl) rfl rfl <| nq (Q_move rfl) rfl rfl ?_
 obtain ⟨q9, hq9, hF⟩ := bnd hF
 refine ne (E_call fn51 rfl (c_51 H gle   hq9)) rfl rfl ?_
 rintro _ wd12 ⟨x11, rfl, rfl, H⟩
 try dsimp only at hF
 refine nq (Q_not rfl) rfl rfl <| WL_nil <| x_then ?_
 refine C_cond rfl (fun hb => ?_) (fun hb => ?_)
 ·replace hF := itT hb hF
  refine C_seq <| R_nd <| nq (Q_move rfl) rfl rfl <| nq (Q_assign rfl) rfl rfl <| nq (Q_assign rfl) rfl rfl <| WL_nil <| x_then <| C_ret <| x_then_ret ?_
  obtain rfl := Option.some.inj hF
  exact fn_ret (l := [.tmp 4, .tmp 5]) (vs := [.string x1, .bool false]) rfl rfl rfl ⟨x1, false, rfl, rfl, H⟩
 ·replace hF := itF hb hF
  refine C_skip <| x_then <| C_seq <| R_nd <| nq (Q_move rfl) rfl rfl <| nq (Q_move rfl) rfl rfl <| nq (v := .int .i64 1) (Q_lenStrC Tryd.underlying9 rfl (by decide)) rfl rfl ?_
  obtain ⟨x13, hx13, hF⟩ := bnd hF
  refine nq (Q_slStr hx13 Tryd.underlying9 rfl ⟨_, rfl⟩ rfl) rfl rfl <| nq (Q_assign rfl) rfl rfl <| nq (Q_assign rfl) rfl rfl <| WL_nil <| x_then <| C_ret ?_
  obtain rfl := Option.some.inj hF
  exact fn_ret (l := [.tmp 4, .tmp 5]) (vs := [.string x13, .bool true]) rfl rfl rfl ⟨x13, true, rfl, rfl, H⟩
theorem c_23 {N : Nat} {C : Cx} {w : World} {ρ : View} {hs : List Hl} {x1 : ByteArray} (H : Hp C w ρ (hs)) {gV : Nat → Value} (gle : GErrs ρ 137 errIds gV) {r : (ByteArray × Bool)} (hF : F_strings_CutPrefix N x1 = some r) :
  Calls Tryd.prog 23 [.string x1, .string (⟨#[45]⟩ : ByteArray)].toArray w (Rets (fun v w' => (∃ (x7 : ByteArray) (x8 : Bool), (x7, x8) = r ∧ .tuple [.string x7, .bool x8].toArray = v ∧ Hp C w' ρ (hs)))) := by
 unfold F_strings_CutPrefix at hF
 have h0 : Tryd.f23.body = some _ := rfl
 refine fn_calls' Tryd.func23 h0 (n := 11) rfl (by simp) <| C_seq <| R_nd <| nq (Q_assign rfl) rfl rfl <| nq (Q_assign rfl) rfl rfl <| WL_nil <| x_then <| C_seq <| R_nd <| nq (Q_move rfl) rfl rfl <| nq (Q_move rfl) rfl rfl ?_
 obtain ⟨q9, hq9, hF⟩ := bnd hF
 refine ne (E_call fn39 rfl (c_39 H gle   hq9)) rfl rfl ?_
 rintro _ wd13 ⟨x11, x12, rfl, rfl, H⟩
 try dsimp only at hF
 refine nq (Q_extract rfl rfl) rfl rfl <| nq (Q_extract rfl rfl) rfl rfl <| nq (Q_assign rfl) rfl rfl <| nq (Q_assign rfl) rfl rfl <| WL_nil <| x_then <| C_ret ?_
 obtain rfl := Option.some.inj hF
 exact fn_ret (l := [.tmp 4, .tmp 5]) (vs := [.string x11, .bool x12]) rfl rfl rfl ⟨x11, x12, rfl, rfl, H⟩
theorem c_21 {N : Nat} {C : Cx} {w : World} {ρ : View} {hs : List Hl} {x1 : Int} (H : Hp C w ρ (hs)) {gV : Nat → Value} (_gle : GErrs ρ 137 errIds gV) {r : Int} (hF : F_script_Numeral_1 N x1 = some r) :
  Calls Tryd.prog 21 [.int .i64 x1].toArray w (Rets (fun v w' => (∃ (x2 : Int), x2 = r ∧ .int .u8 x2 = v ∧ Hp C w' ρ (hs)))) := by
 unfold F_script_Numeral_1 at hF
 have h0 : Tryd.f21.body = some _ := rfl
 refine fn_calls' Tryd.func21 h0 (n := 9) rfl (by simp) <| C_seq <| R_nd <| nq (Q_assign rfl) rfl rfl <| WL_nil <| x_then <| C_seq <| R_nd <| nq (Q_move rfl) rfl rfl <| nq (Q_move rfl) rfl rfl <| nq (v := .int .i64 (w64 (0 - x1))) (Q_neg rfl) rfl rfl <| nq (v := .int .i64 (imax x1 (w64 (0 - x1)))) (Q_max rfl rfl) rfl rfl <| nq (Q_add rfl rfl) rfl rfl <| nq (Q_cvI ⟨_, Tryd.underlying3⟩ Tryd.underlying5 rfl) rfl rfl ?_
 refine nq (Q_assign rfl) rfl rfl <| WL_nil <| x_then <| C_ret ?_
 obtain rfl := Option.some.inj hF
 exact fn_ret (l := [.tmp 2]) (vs := [.int .u8 (IntKind.wrap .u8 (w64 (48 + (imax x1 (w64 (0 - x1))))))]) rfl rfl rfl ⟨IntKind.wrap .u8 (w64 (48 + (imax x1 (w64 (0 - x1))))), rfl, rfl, H⟩
theorem c_22_1 {N : Nat} {C : Cx} {w : World} {ρ : View} {hs : List Hl} {c1 : List Value} {v4 : Value} {x2 : (List Int)} (H : Hp C w ρ (Arr v4 1 c1 :: hs)) {gV : Nat → Value} (_gle : GErrs ρ 137 errIds gV) (r3 : rdL (eI .u8) ρ x2 c1) {r : (List Int)} (hF : F_slices_Reverse_byte_byte_1 N x2 = some r) :
  Calls Tryd.prog 22 [v4].toArray w (Rets (fun v w' => (∃ (c775 : (List Value)) (x776 : (List Int)), x776 = r ∧ .tuple [].toArray = v ∧ rdL (eI .u8) ρ x776 c775 ∧ Hp C w' ρ (Arr v4 1 c775 :: hs)))) := by
 unfold F_slices_Reverse_byte_byte_1 at hF
 have h0 : Tryd.f22.body = some _ := rfl
 refine fn_calls' Tryd.func22 h0 (n := 28) rfl (by simp) <| C_seq <| R_nd <| nq (Q_move rfl) rfl rfl <| nq (Q_lenA (k := 0) H.ok rfl r3 (by decide) Tryd.underlying34 rfl) rfl rfl <| nq (Q_sub rfl rfl) rfl rfl <| nq (Q_assign rfl) rfl rfl <| nq (Q_assign rfl) rfl rfl <| WL_nil <| x_then ?_
 obtain ⟨o1163, ho1163, hF⟩ := bnd hF
 refine C_cutQ (fun a w' => ∃ (c1160 : (List Value)) (x1161 : (List Int)), x1161 = o1163 ∧ rdL (eI .u8) ρ x1161 c1160 ∧ Fr 28 a [] ∧ Hp C w' ρ (Arr v4 1 c1160 :: hs)) ?_ ?_
 ·refine C_block ?_
  refine C_iter (f := fun s => F_slices_Reverse_byte_byte_1_l0 N s.1 s.2.1 s.2.2) ho1163 (fun s a w' => ∃ (c1290 : (List Value)) (x1291 : (List Int)) (x1293 : Int) (x1294 : Int), (x1291, x1293, x1294) = s ∧ rdL (eI .u8) ρ x1291 c1290 ∧ Fr 28 a [(0, v4), (2, .int .i64 x1293), (3, .int .i64 x1294)] ∧ Hp C w' ρ (Arr v4 1 c1290 :: hs)) ?_ ?_
  ·exact fun a hf => ⟨c1, x2, 0, w64 ((x2.length : Int) - 1), rfl, r3, hf.sub ⟨rfl, rfl, rfl, trivial⟩, H⟩
  ·rintro s o1421 a wd1424 ⟨c1290, x1291, x1293, x1294, rfl, r1292, hf, H⟩ hB1422 hO1423
   replace hB1422 : F_slices_Reverse_byte_byte_1_l0 N x1291 x1293 x1294 = some o1421 := hB1422
   unfold F_slices_Reverse_byte_byte_1_l0 at hB1422
   refine CW.at hf <| C_seq <| C_seq <| R_nd <| nq (Q_move rfl) rfl rfl <| nq (Q_move rfl) rfl rfl <| nq (Q_lss rfl rfl) rfl rfl <| WL_nil <| x_then ?_
   refine C_cond rfl (fun hb => ?_) (fun hb => ?_)
   ·replace hB1422 := itT hb hB1422
    refine C_skip <| x_then <| C_seq <| C_block ?_
    obtain ⟨o1486, ho1486, hB1422⟩ := bnd hB1422
    refine C_cutQ (fun a w' => ∃ (c1483 : (List Value)) (x1484 : (List Int)), x1484 = o1486 ∧ rdL (eI .u8) ρ x1484 c1483 ∧ Fr 28 a [(0, v4), (2, .int .i64 x1293), (3, .int .i64 x1294)] ∧ Hp C w' ρ (Arr v4 1 c1483 :: hs)) ?_ ?_
    ·refine R_dr (.take 0 (.take 1 (.take 2 (.take 3 (.take 4 (.take 5 (.take 6 (.take 8 (.take 9 (.take 10 (.two 7 11 (.one 11 (.take 12 (.one 13 (.take 14 (.one 15 .done))))) (.one 7 (.take 12 (.one 13 (.take 14 (.one 15 .done)))))))))))))))) (fun w' => Ok w' ρ []) (by kernel_rfl) (by kernel_rfl) (by kernel_rfl) (H.drew.okS (by simp)) ?_
     replace H := H.drew
     refine dq rfl (fun _ _ => Q_move rfl) rfl rfl <| dq rfl (fun _ _ => Q_move rfl) rfl rfl <| dq rfl (fun _ _ => Q_move rfl) rfl rfl <| dq rfl (fun _ _ => Q_move rfl) rfl rfl <| dq rfl (fun _ _ => Q_move rfl) rfl rfl <| dq rfl (fun _ _ => Q_move rfl) rfl rfl ?_
     obtain ⟨x1487, hx1487, ho1486⟩ := bnd ho1486
     obtain ⟨b1488, o1489, hi1493, hc1491, ha1492⟩ := arr_at (hs := [Arr v4 1 c1290]) (k := 0) (by decide) (H.okS (by simp)) rfl r1292 hx1487
     refine dq rfl (fun _ _ => Q_idx hi1493 Tryd.underlying34 ty5 rfl rfl) rfl rfl <| dq rfl (fun _ _ => Q_move rfl) rfl rfl <| dq rfl (fun _ _ => Q_move rfl) rfl rfl ?_
     obtain ⟨x1494, hx1494, ho1486⟩ := bnd ho1486
     obtain ⟨b1495, o1496, hi1500, hc1498, ha1499⟩ := arr_at (hs := [Arr v4 1 c1290]) (k := 0) (by decide) (H.okS (by simp)) rfl r1292 hx1494
     refine dq rfl (fun _ _ => Q_idx hi1500 Tryd.underlying34 ty5 rfl rfl) rfl rfl ?_
     refine d2 ?_ ?_
     ·refine de rfl (Eff.quiet (v := .int .u8 x1487) (Q_ld (show cellsAt _ _ _ [.int .u8 x1487] from (show _ = [_] from hc1491) ▸ (ha1492 _ (Ok.subS (by simp) H.ok))) ty5 rfl (fun _ => rfl) rfl rfl)) rfl rfl ?_
      rintro _ _ ⟨rfl, rfl⟩
      refine ⟨H.okS (by simp), ?_⟩
      refine d1 (de rfl (Eff.quiet (v := .int .u8 x1494) (Q_ld (show cellsAt _ _ _ [.int .u8 x1494] from (show _ = [_] from hc1498) ▸ (ha1499 _ (Ok.subS (by simp) H.ok))) ty5 rfl (fun _ => rfl) rfl rfl)) rfl rfl ?_)
      rintro _ _ ⟨rfl, rfl⟩
      refine ⟨H.okS (by simp), ?_⟩
      obtain ⟨x1501, hx1501, ho1486⟩ := bnd ho1486
      obtain ⟨b1502, o1503, hi1507, hc1505, ha1506⟩ := arr_at (hs := [Arr v4 1 c1290]) (k := 0) (by decide) (H.okS (by simp)) rfl r1292 hx1501
      refine dq rfl (fun _ _ => Q_idx hi1507 Tryd.underlying34 ty5 rfl rfl) rfl rfl ?_
      obtain ⟨x1508, hx1508, ho1486⟩ := bnd ho1486
      obtain ⟨hs1509a, hs1509b, hs1509c⟩ := setI_some hx1508
      have r1510 : rdL (eI .u8) ρ x1508 (setC c1290 (x1293.toNat * 1 + 0) [.int .u8 x1487]) := hs1509c ▸ rdL.set r1292 hs1509b (rfl)
      refine d1 (de rfl (E_stA (k := 0) (j := 0) (c := [.int .u8 x1487]) H rfl ty5 hi1507 rfl rfl rfl rfl (one_cons rfl one_nil) (by decide)) rfl rfl ?_)
      rintro _ wd1511 H
      dsimp only [List.set] at H
      refine ⟨H.okS (by simp), ?_⟩
      obtain ⟨x1512, hx1512, ho1486⟩ := bnd ho1486
      obtain ⟨b1513, o1514, hi1518, hc1516, ha1517⟩ := arr_at (hs := [Arr v4 1 (setC c1290 (x1293.toNat * 1 + 0) [.int .u8 x1487])]) (k := 0) (by decide) (H.okS (by simp)) rfl r1510 hx1512
      refine dq rfl (fun _ _ => Q_idx hi1518 Tryd.underlying34 ty5 rfl rfl) rfl rfl ?_
      obtain ⟨x1519, hx1519, ho1486⟩ := bnd ho1486
      obtain ⟨hs1520a, hs1520b, hs1520c⟩ := setI_some hx1519
      have r1521 : rdL (eI .u8) ρ x1519 (setC (setC c1290 (x1293.toNat * 1 + 0) [.int .u8 x1487]) (x1294.toNat * 1 + 0) [.int .u8 x1494]) := hs1520c ▸ rdL.set r1510 hs1520b (rfl)
      refine d1 (de rfl (E_stA (k := 0) (j := 0) (c := [.int .u8 x1494]) H rfl ty5 hi1518 rfl rfl rfl rfl (one_cons rfl one_nil) (by decide)) rfl rfl ?_)
      rintro _ wd1522 H
      dsimp only [List.set] at H
      refine ⟨H.okS (by simp), ?_⟩
      refine DL_nil ?_
      obtain rfl := Option.some.inj ho1486
      refine x_A fun a hf => ⟨(setC (setC c1290 (x1293.toNat * 1 + 0) [.int .u8 x1487]) (x1294.toNat * 1 + 0) [.int .u8 x1494]), x1519, rfl, r1521, hf.sub ⟨rfl, rfl, rfl, trivial⟩, H⟩
     ·refine de rfl (Eff.quiet (v := .int .u8 x1494) (Q_ld (show cellsAt _ _ _ [.int .u8 x1494] from (show _ = [_] from hc1498) ▸ (ha1499 _ (Ok.subS (by simp) H.ok))) ty5 rfl (fun _ => rfl) rfl rfl)) rfl rfl ?_
      rintro _ _ ⟨rfl, rfl⟩
      refine ⟨H.okS (by simp), ?_⟩
      refine d1 (de rfl (Eff.quiet (v := .int .u8 x1487) (Q_ld (show cellsAt _ _ _ [.int .u8 x1487] from (show _ = [_] from hc1491) ▸ (ha1492 _ (Ok.subS (by simp) H.ok))) ty5 rfl (fun _ => rfl) rfl rfl)) rfl rfl ?_)
      rintro _ _ ⟨rfl, rfl⟩
      refine ⟨H.okS (by simp), ?_⟩
      obtain ⟨x1523, hx1523, ho1486⟩ := bnd ho1486
      obtain ⟨b1524, o1525, hi1529, hc1527, ha1528⟩ := arr_at (hs := [Arr v4 1 c1290]) (k := 0) (by decide) (H.okS (by simp)) rfl r1292 hx1523
      refine dq rfl (fun _ _ => Q_idx hi1529 Tryd.underlying34 ty5 rfl rfl) rfl rfl ?_
      obtain ⟨x1530, hx1530, ho1486⟩ := bnd ho1486
      obtain ⟨hs1531a, hs1531b, hs1531c⟩ := setI_some hx1530
      have r1532 : rdL (eI .u8) ρ x1530 (setC c1290 (x1293.toNat * 1 + 0) [.int .u8 x1487]) := hs1531c ▸ rdL.set r1292 hs1531b (rfl)
      refine d1 (de rfl (E_stA (k := 0) (j := 0) (c := [.int .u8 x1487]) H rfl ty5 hi1529 rfl rfl rfl rfl (one_cons rfl one_nil) (by decide)) rfl rfl ?_)
      rintro _ wd1533 H
      dsimp only [List.set] at H
      refine ⟨H.okS (by simp), ?_⟩
      obtain ⟨x1534, hx1534, ho1486⟩ := bnd ho1486
      obtain ⟨b1535, o1536, hi1540, hc1538, ha1539⟩ := arr_at (hs := [Arr v4 1 (setC c1290 (x1293.toNat * 1 + 0) [.int .u8 x1487])]) (k := 0) (by decide) (H.okS (by simp)) rfl r1532 hx1534
      refine dq rfl (fun _ _ => Q_idx hi1540 Tryd.underlying34 ty5 rfl rfl) rfl rfl ?_
      obtain ⟨x1541, hx1541, ho1486⟩ := bnd ho1486
      obtain ⟨hs1542a, hs1542b, hs1542c⟩ := setI_some hx1541
      have r1543 : rdL (eI .u8) ρ x1541 (setC (setC c1290 (x1293.toNat * 1 + 0) [.int .u8 x1487]) (x1294.toNat * 1 + 0) [.int .u8 x1494]) := hs1542c ▸ rdL.set r1532 hs1542b (rfl)
      refine d1 (de rfl (E_stA (k := 0) (j := 0) (c := [.int .u8 x1494]) H rfl ty5 hi1540 rfl rfl rfl rfl (one_cons rfl one_nil) (by decide)) rfl rfl ?_)
      rintro _ wd1544 H
      dsimp only [List.set] at H
      refine ⟨H.okS (by simp), ?_⟩
      refine DL_nil ?_
      obtain rfl := Option.some.inj ho1486
      refine x_A fun a hf => ⟨(setC (setC c1290 (x1293.toNat * 1 + 0) [.int .u8 x1487]) (x1294.toNat * 1 + 0) [.int .u8 x1494]), x1541, rfl, r1543, hf.sub ⟨rfl, rfl, rfl, trivial⟩, H⟩
    ·rintro a wd1545 ⟨c1483, x1484, rfl, r1485, hf, H⟩
     try dsimp only at hB1422
     refine XX.at hf <| x_block <| x_then <| R_nd <| nq (Q_move rfl) rfl rfl <| nq (Q_add rfl rfl) rfl rfl <| nq (Q_move rfl) rfl rfl <| nq (Q_sub rfl rfl) rfl rfl <| nq (Q_assign rfl) rfl rfl <| nq (Q_assign rfl) rfl rfl <| WL_nil ?_
     obtain rfl := Option.some.inj hB1422
     refine x_A fun a hf => ⟨_, rfl, c1483, x1484, w64 (x1293 + 1), w64 (x1294 - 1), rfl, r1485, hf.sub ⟨rfl, rfl, rfl, trivial⟩, H⟩
   ·replace hB1422 := itF hb hB1422
    refine C_exit <| x_then_exit <| x_then_exit <| x_block_exit ?_
    obtain rfl := Option.some.inj hB1422
    obtain rfl := hO1423 _ rfl
    refine x_A fun a hf => ⟨c1290, x1291, rfl, r1292, hf.sub trivial, H⟩
 ·rintro a wd1546 ⟨c1160, x1161, rfl, r1162, hf, H⟩
  try dsimp only at hF
  refine XX.at hf ?_
  obtain rfl := Option.some.inj hF
  exact fn_end (l := []) (vs := []) rfl rfl rfl ⟨c1160, x1161, rfl, rfl, r1162, H⟩
theorem c_8 {N : Nat} {C : Cx} {w : World} {ρ : View} {hs : List Hl} {x1 : Int} (H : Hp C w ρ (hs)) {gV : Nat → Value} (gle : GErrs ρ 137 errIds gV) {r : ByteArray} (hF : F_script_Numeral N x1 = some r) :
  Calls Tryd.prog 8 [.int .i64 x1].toArray w (Rets (fun v w' => (∃ (x156 : ByteArray), x156 = r ∧ .string x156 = v ∧ Hp C w' ρ (hs)))) := by
 unfold F_script_Numeral at hF
 have h0 : Tryd.f8.body = some _ := rfl
 refine fn_calls' Tryd.func8 h0 (n := 34) rfl (by simp) <| C_seq <| R_nd <| nq (Q_assign rfl) rfl rfl <| WL_nil <| x_then <| C_seq <| R_nd <| nq (Q_assign rfl) rfl rfl <| WL_nil <| x_then <| C_seq <| R_nd <| nq (Q_move rfl) rfl rfl ?_
 refine nq (Q_move rfl) rfl rfl <| nq (Q_rem rfl rfl (by decide)) rfl rfl ?_
 obtain ⟨q157, hq157, hF⟩ := bnd hF
 refine ne (E_callV fn21 rfl rfl (c_21 H gle   hq157)) rfl rfl ?_
 rintro _ wd160 ⟨x159, rfl, rfl, H⟩
 try dsimp only at hF
 refine ne (E_bslice (xs := [.tmp 9]) (vs := [.int .u8 x159]) H Tryd.underlying34 ty5 (by decide) (cs := [.int .u8 x159]) rfl (sz_cons rfl sz_nil) rfl (by simp) (by simp) rfl rfl) rfl rfl ?_
 rintro _ wd162 ⟨b161, rfl, H⟩
 refine nq (Q_assign rfl) rfl rfl <| WL_nil <| x_then <| C_seq <| C_seq <| R_nd <| nq (Q_move rfl) rfl rfl <| nq (Q_quo rfl rfl (by decide)) rfl rfl <| nq (Q_assign rfl) rfl rfl <| WL_nil <| x_then ?_
 obtain ⟨o222, ho222, hF⟩ := bnd hF
 refine C_cutQ (fun a w' => ∃ (v218 : Value) (c219 : (List Value)) (x220 : (List Int)), x220 = o222 ∧ rdL (eI .u8) ρ x220 c219 ∧ Fr 34 a [(0, .int .i64 x1), (4, v218)] ∧ Hp C w' ρ (Arr v218 1 c219 :: hs)) ?_ ?_
 ·refine C_block ?_
  refine C_iter (f := fun s => F_script_Numeral_l0 N s.1 s.2) ho222 (fun s a w' => ∃ (v240 : Value) (c241 : (List Value)) (x242 : (List Int)) (x244 : Int), (x242, x244) = s ∧ rdL (eI .u8) ρ x242 c241 ∧ Fr 34 a [(0, .int .i64 x1), (3, .func (.func 21) #[] [].toArray), (4, v240), (5, .int .i64 x244)] ∧ Hp C w' ρ (Arr v240 1 c241 :: hs)) ?_ ?_
  ·exact fun a hf => ⟨(.slice (some ⟨b161, 0, none⟩) 1 1), [.int .u8 x159], [x159], w64 (x1.tdiv 10), rfl, (show rdL (eI .u8) ρ ([x159]) ([.int .u8 x159]) from ⟨([.int .u8 x159]), _, rfl, rfl, rdL.nil⟩), hf.sub ⟨rfl, rfl, rfl, rfl, trivial⟩, H⟩
  ·rintro s o262 a wd265 ⟨v240, c241, x242, x244, rfl, r243, hf, H⟩ hB263 hO264
   replace hB263 : F_script_Numeral_l0 N x242 x244 = some o262 := hB263
   unfold F_script_Numeral_l0 at hB263
   refine CW.at hf <| C_seq <| C_seq <| R_nd <| nq (Q_move rfl) rfl rfl <| nq (Q_neq rfl rfl) rfl rfl <| WL_nil <| x_then ?_
   refine C_cond rfl (fun hb => ?_) (fun hb => ?_)
   ·replace hB263 := itT hb hB263
    refine C_skip <| x_then <| C_seq <| C_block <| R_nd <| nq (Q_move rfl) rfl rfl <| nq (Q_move rfl) rfl rfl <| nq (Q_move rfl) rfl rfl <| nq (Q_rem rfl rfl (by decide)) rfl rfl ?_
    obtain ⟨q266, hq266, hB263⟩ := bnd hB263
    refine ne (E_callV fn21 rfl rfl (c_21 H gle   hq266)) rfl rfl ?_
    rintro _ wd269 ⟨x268, rfl, rfl, H⟩
    try dsimp only at hB263
    refine ne (E_bslice (xs := [.tmp 21]) (vs := [.int .u8 x268]) H Tryd.underlying34 ty5 (by decide) (cs := [.int .u8 x268]) rfl (sz_cons rfl sz_nil) rfl (by simp) (by simp) rfl rfl) rfl rfl ?_
    rintro _ wd271 ⟨b270, rfl, H⟩
    obtain ⟨x272, hx272, hB263⟩ := bnd hB263
    obtain ⟨ha273a, ha273b⟩ := app_some hx272
    have r275 : rdL (eI .u8) ρ x272 (c241 ++ ([.int .u8 x268])) := ha273b ▸ rdL.app r243 (show rdL (eI .u8) ρ ([x268]) ([.int .u8 x268]) from ⟨([.int .u8 x268]), _, rfl, rfl, rdL.nil⟩)
    refine ne (E_append (k := 1) H rfl Tryd.underlying34 ty5 rfl (by decide) (by decide) rfl rfl (Src.ofArr (k := 0) H.ok rfl) (rdL.one (show rdL (eI .u8) ρ ([x268]) ([.int .u8 x268]) from ⟨([.int .u8 x268]), _, rfl, rfl, rdL.nil⟩)) (app_fit r243 (show rdL (eI .u8) ρ ([x268]) ([.int .u8 x268]) from ⟨([.int .u8 x268]), _, rfl, rfl, rdL.nil⟩) ha273a)) rfl rfl ?_
    rintro v274 wd277 ⟨H, hc276⟩
    dsimp only [List.set] at H
    refine nq (Q_assign rfl) rfl rfl <| WL_nil <| x_block <| x_then <| R_nd <| nq (Q_move rfl) rfl rfl <| nq (Q_quo rfl rfl (by decide)) rfl rfl <| nq (Q_assign rfl) rfl rfl <| WL_nil ?_
    replace H := H.f1
    replace H := H.drop 1 rfl
    dsimp only [List.eraseIdx] at H
    obtain rfl := Option.some.inj hB263
    refine x_A fun a hf => ⟨_, rfl, v274, (c241 ++ ([.int .u8 x268])), x272, w64 (x244.tdiv 10), rfl, r275, hf.sub ⟨rfl, rfl, rfl, rfl, trivial⟩, H⟩
   ·replace hB263 := itF hb hB263
    refine C_exit <| x_then_exit <| x_then_exit <| x_block_exit ?_
    obtain rfl := Option.some.inj hB263
    obtain rfl := hO264 _ rfl
    refine x_A fun a hf => ⟨v240, c241, x242, rfl, r243, hf.sub ⟨rfl, rfl, trivial⟩, H⟩
 ·rintro a wd278 ⟨v218, c219, x220, rfl, r221, hf, H⟩
  try dsimp only at hF
  refine XX.at hf <| x_then <| C_seq <| C_seq <| R_nd <| nq (Q_move rfl) rfl rfl <| nq (Q_lss rfl rfl) rfl rfl <| WL_nil <| x_then ?_
  obtain ⟨o291, ho291, hF⟩ := bnd hF
  refine C_cutQ (fun a w' => ∃ (v287 : Value) (c288 : (List Value)) (x289 : (List Int)), x289 = o291 ∧ rdL (eI .u8) ρ x289 c288 ∧ Fr 34 a [(4, v287)] ∧ Hp C w' ρ (Arr v287 1 c288 :: hs)) ?_ ?_
  ·refine C_cond rfl (fun hb => ?_) (fun hb => ?_)
   ·replace ho291 := itT hb ho291
    refine R_nd <| nq (Q_move rfl) rfl rfl <| nq (v := .int .u8 45) (Q_ixS rfl Tryd.underlying9 rfl rfl) rfl rfl <| ne (E_bslice (xs := [.tmp 27]) (vs := [.int .u8 45]) H Tryd.underlying34 ty5 (by decide) (cs := [.int .u8 45]) rfl (sz_cons rfl sz_nil) rfl (by simp) (by simp) rfl rfl) rfl rfl ?_
    rintro _ wd293 ⟨b292, rfl, H⟩
    obtain ⟨x294, hx294, ho291⟩ := bnd ho291
    obtain ⟨ha295a, ha295b⟩ := app_some hx294
    have r297 : rdL (eI .u8) ρ x294 (c219 ++ ([.int .u8 45])) := ha295b ▸ rdL.app r221 (show rdL (eI .u8) ρ ([45]) ([.int .u8 45]) from ⟨([.int .u8 45]), _, rfl, rfl, rdL.nil⟩)
    refine ne (E_append (k := 1) H rfl Tryd.underlying34 ty5 rfl (by decide) (by decide) rfl rfl (Src.ofArr (k := 0) H.ok rfl) (rdL.one (show rdL (eI .u8) ρ ([45]) ([.int .u8 45]) from ⟨([.int .u8 45]), _, rfl, rfl, rdL.nil⟩)) (app_fit r221 (show rdL (eI .u8) ρ ([45]) ([.int .u8 45]) from ⟨([.int .u8 45]), _, rfl, rfl, rdL.nil⟩) ha295a)) rfl rfl ?_
    rintro v296 wd299 ⟨H, hc298⟩
    dsimp only [List.set] at H
    refine nq (Q_assign rfl) rfl rfl <| WL_nil ?_
    replace H := H.f1
    replace H := H.drop 1 rfl
    dsimp only [List.eraseIdx] at H
    obtain rfl := Option.some.inj ho291
    refine x_A fun a hf => ⟨v296, (c219 ++ ([.int .u8 45])), x294, rfl, r297, hf.sub ⟨rfl, trivial⟩, H⟩
   ·replace ho291 := itF hb ho291
    refine C_skip ?_
    obtain rfl := Option.some.inj ho291
    refine x_A fun a hf => ⟨v218, c219, x220, rfl, r221, hf.sub ⟨rfl, trivial⟩, H⟩
  ·rintro a wd300 ⟨v287, c288, x289, rfl, r290, hf, H⟩
   try dsimp only at hF
   refine XX.at hf <| x_then <| C_seq <| R_nd <| nq (Q_move rfl) rfl rfl ?_
   obtain ⟨q301, hq301, hF⟩ := bnd hF
   refine ne (E_call fn22 rfl (c_22_1 H gle  r290 hq301)) rfl rfl ?_
   rintro _ wd306 ⟨c303, x304, rfl, rfl, r305, H⟩
   try dsimp only at hF
   refine WL_nil <| x_then <| C_seq <| R_nd <| nq (Q_move rfl) rfl rfl <| ne (E_bstrA (k := 0) H rfl r305 Tryd.underlying34 Tryd.underlying5 Tryd.underlying9 rfl) rfl rfl ?_
   rintro _ wd307 ⟨rfl, rfl⟩
   refine nq (Q_assign rfl) rfl rfl <| WL_nil <| x_then <| C_ret ?_
   replace H := H.drop 0 rfl
   dsimp only [List.eraseIdx] at H
   obtain rfl := Option.some.inj hF
   exact fn_ret (l := [.tmp 2]) (vs := [.string (bstr x304)]) rfl rfl rfl ⟨bstr x304, rfl, rfl, H⟩
theorem c_9 {N : Nat} {C : Cx} {w : World} {ρ : View} {hs : List Hl} {x1 : ByteArray} (H : Hp C w ρ (hs)) {gV : Nat → Value} (gle : GErrs ρ 137 errIds gV) {r : (Int × Int)} (hF : F_script_Number N x1 = some r) :
  Calls Tryd.prog 9 [.string x1].toArray w (Rets (fun v w' => (∃ (x92 : Int) (x93 : Int), (x92, x93) = r ∧ .tuple [.int .i64 x92, errV errIds gV x93].toArray = v ∧ Hp C w' ρ (hs)))) := by
 unfold F_script_Number at hF
 have h0 : Tryd.f9.body = some _ := rfl
 refine fn_calls' Tryd.func9 h0 (n := 55) rfl (by simp) <| C_seq <| R_nd <| nq (Q_assign rfl) rfl rfl <| nq (Q_assign rfl) rfl rfl <| WL_nil <| x_then <| C_seq <| R_nd <| nq (Q_move rfl) rfl rfl ?_
 obtain ⟨q94, hq94, hF⟩ := bnd hF
 refine ne (E_call fn23 rfl (c_23 H gle   hq94)) rfl rfl ?_
 rintro _ wd98 ⟨x96, x97, rfl, rfl, H⟩
 try dsimp only at hF
 refine nq (Q_move rfl) rfl rfl <| nq (Q_extract rfl rfl) rfl rfl <| nq (Q_extract rfl rfl) rfl rfl <| nq (Q_assign rfl) rfl rfl <| nq (Q_assign rfl) rfl rfl <| WL_nil <| x_then <| C_seq <| R_nd <| nq (Q_assign rfl) rfl rfl <| WL_nil <| x_then <| C_seq <| C_seq ?_
 refine R_nd <| nq (Q_move rfl) rfl rfl <| nq (Q_lenStr Tryd.underlying9 rfl) rfl rfl <| nq (Q_move rfl) rfl rfl <| WL_nil <| x_then ?_
 obtain ⟨o134, ho134, hF⟩ := bnd hF
 refine C_cutQ (fun a w' => ∃ (x133 : Int), .inl x133 = o134 ∧ Fr 55 a [(0, .string x1), (4, .string x96), (5, .bool x97), (6, .int .i64 x133)] ∧ Hp C w' ρ (hs)) ?_ ?_
 ·refine C_block ?_
  refine C_iter (f := fun s => F_script_Number_l0 N x96 s.1 s.2) ho134 (fun s a w' => ∃ (x145 : Int) (x146 : Int), (x145, x146) = s ∧ Fr 55 a [(0, .string x1), (4, .string x96), (5, .bool x97), (6, .int .i64 x146), (14, .int .i64 (x96.size : Int)), (15, .int .i64 x145)] ∧ Hp C w' ρ (hs)) ?_ ?_
  ·exact fun a hf => ⟨0, 0, rfl, hf.sub ⟨rfl, rfl, rfl, rfl, rfl, rfl, trivial⟩, H⟩
  ·rintro s o157 a wd160 ⟨x145, x146, rfl, hf, H⟩ hB158 hO159
   replace hB158 : F_script_Number_l0 N x96 x145 x146 = some o157 := hB158
   unfold F_script_Number_l0 at hB158
   refine CW.at hf <| C_seq <| R_nd <| nq (Q_lss rfl rfl) rfl rfl <| WL_nil <| x_then <| C_seq ?_
   refine C_cond rfl (fun hb => ?_) (fun hb => ?_)
   ·replace hB158 := itT hb hB158
    refine C_skip <| x_then <| C_seq <| C_block <| C_seq <| R_nd <| nq (Q_move rfl) rfl rfl <| nq (Q_assign rfl) rfl rfl <| WL_nil <| x_then <| C_seq ?_
    obtain ⟨o164, ho164, hB158⟩ := bnd hB158
    refine C_cut (fun a w' => ∃ (x163 : Bool), x163 = o164 ∧ Fr 55 a [(0, .string x1), (4, .string x96), (5, .bool x97), (6, .int .i64 x146), (7, .int .i64 x145), (14, .int .i64 (x96.size : Int)), (15, .int .i64 x145), (31, .bool x163)] ∧ Hp C w' ρ (hs)) ?_ ?_
    ·refine R_nd <| nq (Q_move rfl) rfl rfl <| nq (Q_move rfl) rfl rfl ?_
     obtain ⟨x165, hx165, ho164⟩ := bnd ho164
     refine nq (Q_ixS hx165 Tryd.underlying9 rfl rfl) rfl rfl <| nq (Q_lss rfl rfl) rfl rfl <| nq (Q_move rfl) rfl rfl ?_
     rcases Bool.eq_false_or_eq_true (decide (x165 < 48)) with hb | hb
     ·rw [hb]
      replace ho164 := itT hb ho164
      refine gs rfl rfl rfl rfl <| gs rfl rfl rfl rfl <| gs rfl rfl rfl rfl <| gs rfl rfl rfl rfl <| nq (Q_pickT rfl rfl) rfl rfl <| nq (Q_move rfl) rfl rfl <| gs rfl rfl rfl rfl <| gs rfl rfl rfl rfl <| nq (Q_pickT rfl rfl) rfl rfl <| WL_nil ?_
      obtain rfl := Option.some.inj ho164
      refine x_A fun a hf => ⟨true, rfl, hf.sub ⟨rfl, rfl, rfl, rfl, rfl, rfl, rfl, rfl, trivial⟩, H⟩
     ·rw [hb]
      replace ho164 := itF hb ho164
      refine gq (Q_move rfl) rfl rfl rfl <| gq (Q_move rfl) rfl rfl rfl ?_
      obtain ⟨x166, hx166, ho164⟩ := bnd ho164
      refine gq (Q_ixS hx166 Tryd.underlying9 rfl rfl) rfl rfl rfl <| gq (Q_gtr rfl rfl) rfl rfl rfl <| nq (Q_pickF rfl rfl) rfl rfl <| nq (Q_move rfl) rfl rfl ?_
      rcases Bool.eq_false_or_eq_true (decide (x166 > 57)) with hb | hb
      ·rw [hb]
       replace ho164 := itT hb ho164
       refine gs rfl rfl rfl rfl <| gs rfl rfl rfl rfl <| nq (Q_pickT rfl rfl) rfl rfl <| WL_nil ?_
       obtain rfl := Option.some.inj ho164
       refine x_A fun a hf => ⟨true, rfl, hf.sub ⟨rfl, rfl, rfl, rfl, rfl, rfl, rfl, rfl, trivial⟩, H⟩
      ·rw [hb]
       replace ho164 := itF hb ho164
       refine gq (Q_move rfl) rfl rfl rfl <| gq (Q_geq rfl rfl) rfl rfl rfl <| nq (Q_pickF rfl rfl) rfl rfl <| WL_nil ?_
       obtain rfl := Option.some.inj ho164
       refine x_A fun a hf => ⟨decide (x145 ≥ 9), rfl, hf.sub ⟨rfl, rfl, rfl, rfl, rfl, rfl, rfl, rfl, trivial⟩, H⟩
    ·rintro a wd167 ⟨x163, rfl, hf, H⟩
     try dsimp only at hB158
     refine CW.at hf ?_
     refine C_cond rfl (fun hb => ?_) (fun hb => ?_)
     ·replace hB158 := itT hb hB158
      refine C_seq <| R_dr (.take 0 (.take 1 (.take 2 .done))) (fun w' => Ok w' ρ []) (by kernel_rfl) (by kernel_rfl) (by kernel_rfl) (H.drew.okS (by simp)) ?_
      replace H := H.drew
      refine dq (v := errV errIds gV 1) rfl (fun _ hw => Q_ldV hw gle (by decide) ty25) rfl rfl <| dq rfl (fun _ _ => Q_assign rfl) rfl rfl <| dq rfl (fun _ _ => Q_assign rfl) rfl rfl <| DL_nil <| x_then <| C_ret <| x_then_ret <| x_block_ret <| x_then_ret <| x_then_ret <| x_block_ret <| x_then_ret <| x_then_ret ?_
      obtain rfl := Option.some.inj hB158
      obtain rfl := hO159 _ rfl
      obtain rfl := Option.some.inj (show some _ = some _ from hF)
      exact fn_ret (l := [.tmp 2, .tmp 3]) (vs := [.int .i64 0, errV errIds gV 1]) rfl rfl rfl ⟨0, 1, rfl, rfl, H⟩
     ·replace hB158 := itF hb hB158
      refine C_skip <| x_then <| R_nd <| nq (Q_move rfl) rfl rfl <| nq (Q_mul rfl rfl) rfl rfl <| nq (Q_move rfl) rfl rfl <| nq (Q_move rfl) rfl rfl ?_
      obtain ⟨x168, hx168, hB158⟩ := bnd hB158
      refine nq (Q_ixS hx168 Tryd.underlying9 rfl rfl) rfl rfl <| nq (Q_sub rfl rfl) rfl rfl <| nq (Q_cvI ⟨_, Tryd.underlying5⟩ Tryd.underlying3 rfl) rfl rfl <| nq (Q_add rfl rfl) rfl rfl <| nq (Q_assign rfl) rfl rfl <| WL_nil <| x_block <| x_then <| R_nd <| nq (Q_add rfl rfl) rfl rfl <| nq (Q_move rfl) rfl rfl <| WL_nil ?_
      obtain rfl := Option.some.inj hB158
      refine x_A fun a hf => ⟨_, rfl, w64 (x145 + 1), w64 ((w64 (10 * x146)) + (IntKind.wrap .i64 (IntKind.wrap .u8 (x168 - 48)))), rfl, hf.sub ⟨rfl, rfl, rfl, rfl, rfl, rfl, trivial⟩, H⟩
   ·replace hB158 := itF hb hB158
    refine C_exit <| x_then_exit <| x_then_exit <| x_block_exit ?_
    obtain rfl := Option.some.inj hB158
    obtain rfl := hO159 _ rfl
    refine x_A fun a hf => ⟨x146, rfl, hf.sub ⟨rfl, rfl, rfl, rfl, trivial⟩, H⟩
 ·rintro a wd169 ⟨x133, rfl, hf, H⟩
  try dsimp only at hF
  refine XX.at hf <| x_then <| C_seq <| C_seq <| R_nd <| nq (Q_move rfl) rfl rfl <| WL_nil <| x_then ?_
  obtain ⟨o171, ho171, hF⟩ := bnd hF
  refine C_cutQ (fun a w' => ∃ (x170 : Int), x170 = o171 ∧ Fr 55 a [(0, .string x1), (4, .string x96), (6, .int .i64 x170)] ∧ Hp C w' ρ (hs)) ?_ ?_
  ·refine C_cond rfl (fun hb => ?_) (fun hb => ?_)
   ·replace ho171 := itT hb ho171
    refine R_nd <| nq (Q_move rfl) rfl rfl <| nq (v := .int .i64 (w64 (0 - x133))) (Q_neg rfl) rfl rfl <| nq (Q_assign rfl) rfl rfl <| WL_nil ?_
    obtain rfl := Option.some.inj ho171
    refine x_A fun a hf => ⟨w64 (0 - x133), rfl, hf.sub ⟨rfl, rfl, rfl, trivial⟩, H⟩
   ·replace ho171 := itF hb ho171
    refine C_skip ?_
    obtain rfl := Option.some.inj ho171
    refine x_A fun a hf => ⟨x133, rfl, hf.sub ⟨rfl, rfl, rfl, trivial⟩, H⟩
  ·rintro a wd172 ⟨x170, rfl, hf, H⟩
   try dsimp only at hF
   refine XX.at hf <| x_then <| C_seq ?_
   obtain ⟨o178, ho178, hF⟩ := bnd hF
   refine C_cut (fun a w' => ∃ (x177 : Bool), x177 = o178 ∧ Fr 55 a [(6, .int .i64 x170), (52, .bool x177)] ∧ Hp C w' ρ (hs)) ?_ ?_
   ·refine R_nd <| nq (Q_move rfl) rfl rfl <| nq (v := .bool (x96.toList == ByteArray.empty.toList)) (Q_eqlStr Tryd.underlying9 rfl rfl) rfl rfl <| nq (Q_move rfl) rfl rfl ?_
    rcases Bool.eq_false_or_eq_true (x96.toList == ByteArray.empty.toList) with hb | hb
    ·rw [hb]
     replace ho178 := itT hb ho178
     refine gs rfl rfl rfl rfl <| gs rfl rfl rfl rfl <| gs rfl rfl rfl rfl <| gs rfl rfl rfl rfl <| nq (Q_pickT rfl rfl) rfl rfl <| WL_nil ?_
     obtain rfl := Option.some.inj ho178
     refine x_A fun a hf => ⟨true, rfl, hf.sub ⟨rfl, rfl, trivial⟩, H⟩
    ·rw [hb]
     replace ho178 := itF hb ho178
     refine gq (Q_move rfl) rfl rfl rfl ?_
     obtain ⟨q179, hq179, ho178⟩ := bnd ho178
     refine ge (E_call fn8 rfl (c_8 H gle   hq179)) rfl rfl rfl ?_
     rintro _ wd182 ⟨x181, rfl, rfl, H⟩
     try dsimp only at ho178
     refine gq (Q_move rfl) rfl rfl rfl <| gq (v := .bool (x181.toList != x1.toList)) (Q_neqStr Tryd.underlying9 rfl rfl) rfl rfl rfl <| nq (Q_pickF rfl rfl) rfl rfl <| WL_nil ?_
     obtain rfl := Option.some.inj ho178
     refine x_A fun a hf => ⟨x181.toList != x1.toList, rfl, hf.sub ⟨rfl, rfl, trivial⟩, H⟩
   ·rintro a wd183 ⟨x177, rfl, hf, H⟩
    try dsimp only at hF
    refine CW.at hf ?_
    refine C_cond rfl (fun hb => ?_) (fun hb => ?_)
    ·replace hF := itT hb hF
     refine C_seq <| R_dr (.take 0 (.take 1 (.take 2 .done))) (fun w' => Ok w' ρ []) (by kernel_rfl) (by kernel_rfl) (by kernel_rfl) (H.drew.okS (by simp)) ?_
     replace H := H.drew
     refine dq (v := errV errIds gV 1) rfl (fun _ hw => Q_ldV hw gle (by decide) ty25) rfl rfl <| dq rfl (fun _ _ => Q_assign rfl) rfl rfl <| dq rfl (fun _ _ => Q_assign rfl) rfl rfl <| DL_nil <| x_then <| C_ret <| x_then_ret ?_
     obtain rfl := Option.some.inj hF
     exact fn_ret (l := [.tmp 2, .tmp 3]) (vs := [.int .i64 0, errV errIds gV 1]) rfl rfl rfl ⟨0, 1, rfl, rfl, H⟩
    ·replace hF := itF hb hF
     refine C_skip <| x_then <| C_seq <| R_nd <| nq (Q_move rfl) rfl rfl <| nq (Q_assign rfl) rfl rfl <| nq (Q_assign rfl) rfl rfl <| WL_nil <| x_then <| C_ret ?_
     obtain rfl := Option.some.inj hF
     exact fn_ret (l := [.tmp 2, .tmp 3]) (vs := [.int .i64 x170, errV errIds gV 0]) rfl rfl rfl ⟨x170, 0, rfl, rfl, H⟩
theorem c_73_2 {N : Nat} {C : Cx} {w : World} {ρ : View} {hs : List Hl} {x1 : Int} (H : Hp C w ρ (hs)) {gV : Nat → Value} (_gle : GErrs ρ 137 errIds gV) {r : Unit} (hF : F_internal_stringslite_IndexByte_2 N x1 = some r) :
  Calls Tryd.prog 73 [.string (⟨#[110, 116, 114, 115]⟩ : ByteArray), .int .u8 x1].toArray w (Rets (fun v w' => (() = r ∧ .int .i64 (sfind (⟨#[110, 116, 114, 115]⟩ : ByteArray) x1) = v ∧ Hp C w' ρ (hs)))) := by
 unfold F_internal_stringslite_IndexByte_2 at hF
 have h0 : Tryd.f73.body = some _ := rfl
 refine fn_calls' Tryd.func73 h0 (n := 8) rfl (by simp) <| C_seq <| R_nd <| nq (Q_assign rfl) rfl rfl <| WL_nil <| x_then <| C_seq <| R_nd <| nq (Q_move rfl) rfl rfl <| nq (Q_move rfl) rfl rfl <| nq (v := .int .i64 (sfind (⟨#[110, 116, 114, 115]⟩ : ByteArray) x1)) (Q_idxByte ext80 rfl rfl) rfl rfl <| nq (Q_assign rfl) rfl rfl <| WL_nil <| x_then ?_
 refine C_ret ?_
 obtain rfl := Option.some.inj hF
 exact fn_ret (l := [.tmp 4]) (vs := [.int .i64 (sfind (⟨#[110, 116, 114, 115]⟩ : ByteArray) x1)]) rfl rfl rfl ⟨rfl, rfl, H⟩
theorem c_77 {N : Nat} {C : Cx} {w : World} {ρ : View} {hs : List Hl} {x1 : Int} (H : Hp C w ρ (hs)) {gV : Nat → Value} (gle : GErrs ρ 137 errIds gV) {r : Unit} (hF : F_strings_IndexByte N x1 = some r) :
  Calls Tryd.prog 77 [.string (⟨#[110, 116, 114, 115]⟩ : ByteArray), .int .u8 x1].toArray w (Rets (fun v w' => (() = r ∧ .int .i64 (sfind (⟨#[110, 116, 114, 115]⟩ : ByteArray) x1) = v ∧ Hp C w' ρ (hs)))) := by
 unfold F_strings_IndexByte at hF
 have h0 : Tryd.f77.body = some _ := rfl
 refine fn_calls' Tryd.func77 h0 (n := 8) rfl (by simp) <| C_seq <| R_nd <| nq (Q_assign rfl) rfl rfl <| WL_nil <| x_then <| C_seq <| R_nd <| nq (Q_move rfl) rfl rfl <| nq (Q_move rfl) rfl rfl ?_
 obtain ⟨q5, hq5, hF⟩ := bnd hF
 refine ne (E_call fn73 rfl (c_73_2 H gle   hq5)) rfl rfl ?_
 rintro _ wd7 ⟨rfl, rfl, H⟩
 try dsimp only at hF
 refine nq (Q_assign rfl) rfl rfl <| WL_nil <| x_then <| C_ret ?_
 obtain rfl := Option.some.inj hF
 exact fn_ret (l := [.tmp 4]) (vs := [.int .i64 (sfind (⟨#[110, 116, 114, 115]⟩ : ByteArray) x1)]) rfl rfl rfl ⟨rfl, rfl, H⟩
theorem c_73_3 {N : Nat} {C : Cx} {w : World} {ρ : View} {hs : List Hl} {x1 : Int} (H : Hp C w ρ (hs)) {gV : Nat → Value} (_gle : GErrs ρ 137 errIds gV) {r : Unit} (hF : F_internal_stringslite_IndexByte_3 N x1 = some r) :
  Calls Tryd.prog 73 [.string (⟨#[48, 49, 50, 51, 52, 53, 54, 55, 56, 57, 97, 98, 99, 100, 101, 102]⟩ : ByteArray), .int .u8 x1].toArray w (Rets (fun v w' => (() = r ∧ .int .i64 (sfind (⟨#[48, 49, 50, 51, 52, 53, 54, 55, 56, 57, 97, 98, 99, 100, 101, 102]⟩ : ByteArray) x1) = v ∧ Hp C w' ρ (hs)))) := by
 unfold F_internal_stringslite_IndexByte_3 at hF
 have h0 : Tryd.f73.body = some _ := rfl
 refine fn_calls' Tryd.func73 h0 (n := 8) rfl (by simp) <| C_seq <| R_nd <| nq (Q_assign rfl) rfl rfl <| WL_nil <| x_then <| C_seq <| R_nd <| nq (Q_move rfl) rfl rfl <| nq (Q_move rfl) rfl rfl <| nq (v := .int .i64 (sfind (⟨#[48, 49, 50, 51, 52, 53, 54, 55, 56, 57, 97, 98, 99, 100, 101, 102]⟩ : ByteArray) x1)) (Q_idxByte ext80 rfl rfl) rfl rfl <| nq (Q_assign rfl) rfl rfl <| WL_nil <| x_then ?_
 refine C_ret ?_
 obtain rfl := Option.some.inj hF
 exact fn_ret (l := [.tmp 4]) (vs := [.int .i64 (sfind (⟨#[48, 49, 50, 51, 52, 53, 54, 55, 56, 57, 97, 98, 99, 100, 101, 102]⟩ : ByteArray) x1)]) rfl rfl rfl ⟨rfl, rfl, H⟩
theorem c_77_1 {N : Nat} {C : Cx} {w : World} {ρ : View} {hs : List Hl} {x1 : Int} (H : Hp C w ρ (hs)) {gV : Nat → Value} (gle : GErrs ρ 137 errIds gV) {r : Unit} (hF : F_strings_IndexByte_1 N x1 = some r) :
  Calls Tryd.prog 77 [.string (⟨#[48, 49, 50, 51, 52, 53, 54, 55, 56, 57, 97, 98, 99, 100, 101, 102]⟩ : ByteArray), .int .u8 x1].toArray w (Rets (fun v w' => (() = r ∧ .int .i64 (sfind (⟨#[48, 49, 50, 51, 52, 53, 54, 55, 56, 57, 97, 98, 99, 100, 101, 102]⟩ : ByteArray) x1) = v ∧ Hp C w' ρ (hs)))) := by
 unfold F_strings_IndexByte_1 at hF
 have h0 : Tryd.f77.body = some _ := rfl
 refine fn_calls' Tryd.func77 h0 (n := 8) rfl (by simp) <| C_seq <| R_nd <| nq (Q_assign rfl) rfl rfl <| WL_nil <| x_then <| C_seq <| R_nd <| nq (Q_move rfl) rfl rfl <| nq (Q_move rfl) rfl rfl ?_
 obtain ⟨q5, hq5, hF⟩ := bnd hF
 refine ne (E_call fn73 rfl (c_73_3 H gle   hq5)) rfl rfl ?_
 rintro _ wd7 ⟨rfl, rfl, H⟩
 try dsimp only at hF
 refine nq (Q_assign rfl) rfl rfl <| WL_nil <| x_then <| C_ret ?_
 obtain rfl := Option.some.inj hF
 exact fn_ret (l := [.tmp 4]) (vs := [.int .i64 (sfind (⟨#[48, 49, 50, 51, 52, 53, 54, 55, 56, 57, 97, 98, 99, 100, 101, 102]⟩ : ByteArray) x1)]) rfl rfl rfl ⟨rfl, rfl, H⟩
theorem c_82 {N : Nat} {C : Cx} {w : World} {ρ : View} {hs : List Hl} {x1 : Int} (H : Hp C w ρ (hs)) {gV : Nat → Value} (gle : GErrs ρ 137 errIds gV) {r : (Int × Bool)} (hF : F_spell_figure N x1 = some r) :
  Calls Tryd.prog 82 [.int .u8 x1].toArray w (Rets (fun v w' => (∃ (x11 : Int) (x12 : Bool), (x11, x12) = r ∧ .tuple [.int .i64 x11, .bool x12].toArray = v ∧ Hp C w' ρ (hs)))) := by
 unfold F_spell_figure at hF
 have h0 : Tryd.f82.body = some _ := rfl
 refine fn_calls' Tryd.func82 h0 (n := 18) rfl (by simp) <| C_seq <| R_nd <| nq (Q_assign rfl) rfl rfl <| nq (Q_assign rfl) rfl rfl <| WL_nil <| x_then <| C_seq ?_
 obtain ⟨o14, ho14, hF⟩ := bnd hF
 refine C_cut (fun a w' => ∃ (x13 : Bool), x13 = o14 ∧ Fr 18 a [(0, .int .u8 x1), (10, .bool x13)] ∧ Hp C w' ρ (hs)) ?_ ?_
 ·refine R_nd <| nq (Q_move rfl) rfl rfl <| nq (Q_geq rfl rfl) rfl rfl <| nq (Q_move rfl) rfl rfl ?_
  rcases Bool.eq_false_or_eq_true (decide (x1 ≥ 65)) with hb | hb
  ·rw [hb]
   replace ho14 := itT hb ho14
   refine gq (Q_move rfl) rfl rfl rfl <| gq (Q_leq rfl rfl) rfl rfl rfl <| nq (Q_pickT rfl rfl) rfl rfl <| WL_nil ?_
   obtain rfl := Option.some.inj ho14
   refine x_A fun a hf => ⟨decide (x1 ≤ 70), rfl, hf.sub ⟨rfl, rfl, trivial⟩, H⟩
  ·rw [hb]
   replace ho14 := itF hb ho14
   refine gs rfl rfl rfl rfl <| gs rfl rfl rfl rfl <| nq (Q_pickF rfl rfl) rfl rfl <| WL_nil ?_
   obtain rfl := Option.some.inj ho14
   refine x_A fun a hf => ⟨false, rfl, hf.sub ⟨rfl, rfl, trivial⟩, H⟩
 ·rintro a wd15 ⟨x13, rfl, hf, H⟩
  try dsimp only at hF
  refine CW.at hf ?_
  obtain ⟨o17, ho17, hF⟩ := bnd hF
  refine C_cutQ (fun a w' => ∃ (x16 : Int), x16 = o17 ∧ Fr 18 a [(0, .int .u8 x16)] ∧ Hp C w' ρ (hs)) ?_ ?_
  ·refine C_cond rfl (fun hb => ?_) (fun hb => ?_)
   ·replace ho17 := itT hb ho17
    refine R_nd <| nq (Q_move rfl) rfl rfl <| nq (Q_add rfl rfl) rfl rfl <| nq (Q_assign rfl) rfl rfl <| WL_nil ?_
    obtain rfl := Option.some.inj ho17
    refine x_A fun a hf => ⟨IntKind.wrap .u8 (x1 + 32), rfl, hf.sub ⟨rfl, trivial⟩, H⟩
   ·replace ho17 := itF hb ho17
    refine C_skip ?_
    obtain rfl := Option.some.inj ho17
    refine x_A fun a hf => ⟨x1, rfl, hf.sub ⟨rfl, trivial⟩, H⟩
  ·rintro a wd18 ⟨x16, rfl, hf, H⟩
   try dsimp only at hF
   refine XX.at hf <| x_then <| C_seq <| R_nd <| nq (Q_move rfl) rfl rfl ?_
   obtain ⟨q19, hq19, hF⟩ := bnd hF
   refine ne (E_call fn77 rfl (c_77_1 H gle   hq19)) rfl rfl ?_
   rintro _ wd21 ⟨rfl, rfl, H⟩
   try dsimp only at hF
   refine nq (Q_assign rfl) rfl rfl <| WL_nil <| x_then <| C_seq <| R_nd <| nq (Q_move rfl) rfl rfl <| nq (Q_move rfl) rfl rfl <| nq (Q_geq rfl rfl) rfl rfl <| nq (Q_assign rfl) rfl rfl <| nq (Q_assign rfl) rfl rfl <| WL_nil <| x_then <| C_ret ?_
   obtain rfl := Option.some.inj hF
   exact fn_ret (l := [.tmp 2, .tmp 3]) (vs := [.int .i64 (sfind (⟨#[48, 49, 50, 51, 52, 53, 54, 55, 56, 57, 97, 98, 99, 100, 101, 102]⟩ : ByteArray) x16), .bool (decide ((sfind (⟨#[48, 49, 50, 51, 52, 53, 54, 55, 56, 57, 97, 98, 99, 100, 101, 102]⟩ : ByteArray) x16) ≥ 0))]) rfl rfl rfl ⟨sfind (⟨#[48, 49, 50, 51, 52, 53, 54, 55, 56, 57, 97, 98, 99, 100, 101, 102]⟩ : ByteArray) x16, decide ((sfind (⟨#[48, 49, 50, 51, 52, 53, 54, 55, 56, 57, 97, 98, 99, 100, 101, 102]⟩ : ByteArray) x16) ≥ 0), rfl, rfl, H⟩
theorem c_78 {N : Nat} {C : Cx} {w : World} {ρ : View} {hs : List Hl} {x1 : ByteArray} {x2 : Int} (H : Hp C w ρ (hs)) {gV : Nat → Value} (gle : GErrs ρ 137 errIds gV) {r : (Int × Int × Int)} (hF : F_spell_pair N x1 x2 = some r) :
  Calls Tryd.prog 78 [.string x1, .int .i64 x2].toArray w (Rets (fun v w' => (∃ (x69 : Int) (x70 : Int) (x71 : Int), (x69, x70, x71) = r ∧ .tuple [.int .u8 x69, .int .i64 x70, errV errIds gV x71].toArray = v ∧ Hp C w' ρ (hs)))) := by
 unfold F_spell_pair at hF
 have h0 : Tryd.f78.body = some _ := rfl
 refine fn_calls' Tryd.func78 h0 (n := 39) rfl (by simp) <| C_seq <| R_nd <| nq (Q_assign rfl) rfl rfl <| nq (Q_assign rfl) rfl rfl <| nq (Q_assign rfl) rfl rfl <| WL_nil <| x_then <| C_seq <| R_nd <| nq (Q_assign rfl) rfl rfl <| WL_nil <| x_then <| C_seq ?_
 refine C_seq <| R_nd <| nq (Q_move rfl) rfl rfl <| WL_nil <| x_then ?_
 obtain ⟨o105, ho105, hF⟩ := bnd hF
 refine C_cutQ (fun a w' => ∃ (x103 : Int) (x104 : Int), .inl (x103, x104) = o105 ∧ Fr 39 a [(1, .int .i64 x103), (7, .int .i64 x104)] ∧ Hp C w' ρ (hs)) ?_ ?_
 ·refine C_block ?_
  refine C_iter (f := fun s => F_spell_pair_l0 N x1 s.1 s.2.1 s.2.2) ho105 (fun s a w' => ∃ (x115 : Int) (x116 : Int) (x117 : Int), (x115, x116, x117) = s ∧ Fr 39 a [(0, .string x1), (1, .int .i64 x115), (7, .int .i64 x117), (10, .int .i64 x116)] ∧ Hp C w' ρ (hs)) ?_ ?_
  ·exact fun a hf => ⟨x2, 0, 0, rfl, hf.sub ⟨rfl, rfl, rfl, rfl, trivial⟩, H⟩
  ·rintro s o127 a wd130 ⟨x115, x116, x117, rfl, hf, H⟩ hB128 hO129
   replace hB128 : F_spell_pair_l0 N x1 x115 x116 x117 = some o127 := hB128
   unfold F_spell_pair_l0 at hB128
   refine CW.at hf <| C_seq <| R_nd <| nq (Q_lss rfl rfl) rfl rfl <| WL_nil <| x_then <| C_seq ?_
   refine C_cond rfl (fun hb => ?_) (fun hb => ?_)
   ·replace hB128 := itT hb hB128
    refine C_skip <| x_then <| C_seq <| C_block <| C_seq <| C_seq <| R_nd <| nq (Q_move rfl) rfl rfl <| nq (Q_move rfl) rfl rfl <| nq (Q_lenStr Tryd.underlying9 rfl) rfl rfl <| nq (Q_geq rfl rfl) rfl rfl <| WL_nil <| x_then ?_
    refine C_cond rfl (fun hb => ?_) (fun hb => ?_)
    ·replace hB128 := itT hb hB128
     refine C_seq <| R_dr (.take 0 (.take 1 (.take 2 (.take 3 (.take 4 .done))))) (fun w' => Ok w' ρ []) (by kernel_rfl) (by kernel_rfl) (by kernel_rfl) (H.drew.okS (by simp)) ?_
     replace H := H.drew
     refine dq rfl (fun _ _ => Q_move rfl) rfl rfl <| dq (v := errV errIds gV 3) rfl (fun _ hw => Q_ldV hw gle (by decide) ty25) rfl rfl <| dq rfl (fun _ _ => Q_assign rfl) rfl rfl <| dq rfl (fun _ _ => Q_assign rfl) rfl rfl <| dq rfl (fun _ _ => Q_assign rfl) rfl rfl <| DL_nil <| x_then <| C_ret <| x_then_ret <| x_block_ret <| x_then_ret <| x_then_ret <| x_block_ret <| x_then_ret ?_
     refine x_then_ret ?_
     obtain rfl := Option.some.inj hB128
     obtain rfl := hO129 _ rfl
     obtain rfl := Option.some.inj (show some _ = some _ from hF)
     exact fn_ret (l := [.tmp 4, .tmp 5, .tmp 6]) (vs := [.int .u8 0, .int .i64 x115, errV errIds gV 3]) rfl rfl rfl ⟨0, x115, 3, rfl, rfl, H⟩
    ·replace hB128 := itF hb hB128
     refine C_skip <| x_then <| C_seq <| R_nd <| nq (Q_move rfl) rfl rfl <| nq (Q_move rfl) rfl rfl ?_
     obtain ⟨x131, hx131, hB128⟩ := bnd hB128
     refine nq (Q_ixS hx131 Tryd.underlying9 rfl rfl) rfl rfl ?_
     obtain ⟨q132, hq132, hB128⟩ := bnd hB128
     refine ne (E_call fn82 rfl (c_82 H gle   hq132)) rfl rfl ?_
     rintro _ wd136 ⟨x134, x135, rfl, rfl, H⟩
     try dsimp only at hB128
     refine nq (Q_move rfl) rfl rfl <| nq (Q_extract rfl rfl) rfl rfl <| nq (Q_extract rfl rfl) rfl rfl <| nq (Q_assign rfl) rfl rfl <| nq (Q_assign rfl) rfl rfl <| WL_nil <| x_then <| C_seq <| C_seq <| R_nd <| nq (Q_move rfl) rfl rfl <| nq (Q_not rfl) rfl rfl <| WL_nil <| x_then ?_
     refine C_cond rfl (fun hb => ?_) (fun hb => ?_)
     ·replace hB128 := itT hb hB128
      refine C_seq <| R_dr (.take 0 (.take 1 (.take 2 (.take 3 (.take 4 .done))))) (fun w' => Ok w' ρ []) (by kernel_rfl) (by kernel_rfl) (by kernel_rfl) (H.drew.okS (by simp)) ?_
      replace H := H.drew
      refine dq rfl (fun _ _ => Q_move rfl) rfl rfl <| dq (v := errV errIds gV 1) rfl (fun _ hw => Q_ldV hw gle (by decide) ty25) rfl rfl <| dq rfl (fun _ _ => Q_assign rfl) rfl rfl <| dq rfl (fun _ _ => Q_assign rfl) rfl rfl <| dq rfl (fun _ _ => Q_assign rfl) rfl rfl <| DL_nil <| x_then <| C_ret <| x_then_ret <| x_block_ret <| x_then_ret <| x_then_ret <| x_block_ret <| x_then_ret ?_
      refine x_then_ret ?_
      obtain rfl := Option.some.inj hB128
      obtain rfl := hO129 _ rfl
      obtain rfl := Option.some.inj (show some _ = some _ from hF)
      exact fn_ret (l := [.tmp 4, .tmp 5, .tmp 6]) (vs := [.int .u8 0, .int .i64 x115, errV errIds gV 1]) rfl rfl rfl ⟨0, x115, 1, rfl, rfl, H⟩
     ·replace hB128 := itF hb hB128
      refine C_skip <| x_then <| C_seq <| R_nd <| nq (Q_move rfl) rfl rfl <| nq (Q_mul rfl rfl) rfl rfl <| nq (Q_move rfl) rfl rfl <| nq (Q_add rfl rfl) rfl rfl <| nq (Q_assign rfl) rfl rfl <| WL_nil <| x_then <| R_nd <| nq (Q_move rfl) rfl rfl <| nq (Q_add rfl rfl) rfl rfl ?_
      refine nq (Q_assign rfl) rfl rfl <| WL_nil <| x_block <| x_then <| R_nd <| nq (Q_add rfl rfl) rfl rfl <| nq (Q_move rfl) rfl rfl <| WL_nil ?_
      obtain rfl := Option.some.inj hB128
      refine x_A fun a hf => ⟨_, rfl, w64 (x115 + 1), w64 (x116 + 1), w64 ((w64 (16 * x117)) + x134), rfl, hf.sub ⟨rfl, rfl, rfl, rfl, trivial⟩, H⟩
   ·replace hB128 := itF hb hB128
    refine C_exit <| x_then_exit <| x_then_exit <| x_block_exit ?_
    obtain rfl := Option.some.inj hB128
    obtain rfl := hO129 _ rfl
    refine x_A fun a hf => ⟨x115, x117, rfl, hf.sub ⟨rfl, rfl, trivial⟩, H⟩
 ·rintro a wd137 ⟨x103, x104, rfl, hf, H⟩
  try dsimp only at hF
  refine XX.at hf <| x_then <| C_seq <| R_nd <| nq (Q_move rfl) rfl rfl <| nq (Q_cvI ⟨_, Tryd.underlying3⟩ Tryd.underlying5 rfl) rfl rfl <| nq (Q_move rfl) rfl rfl <| nq (Q_assign rfl) rfl rfl <| nq (Q_assign rfl) rfl rfl <| nq (Q_assign rfl) rfl rfl <| WL_nil <| x_then <| C_ret ?_
  obtain rfl := Option.some.inj hF
  exact fn_ret (l := [.tmp 4, .tmp 5, .tmp 6]) (vs := [.int .u8 (IntKind.wrap .u8 x104), .int .i64 x103, errV errIds gV 0]) rfl rfl rfl ⟨IntKind.wrap .u8 x104, x103, 0, rfl, rfl, H⟩
theorem c_79 {N : Nat} {C : Cx} {w : World} {ρ : View} {hs : List Hl} {x1 : Int} (H : Hp C w ρ (hs)) {gV : Nat → Value} (_gle : GErrs ρ 137 errIds gV) {r : Bool} (hF : F_spell_mark N x1 = some r) :
  Calls Tryd.prog 79 [.int .u8 x1].toArray w (Rets (fun v w' => (∃ (x8 : Bool), x8 = r ∧ .bool x8 = v ∧ Hp C w' ρ (hs)))) := by
 unfold F_spell_mark at hF
 have h0 : Tryd.f79.body = some _ := rfl
 refine fn_calls' Tryd.func79 h0 (n := 36) rfl (by simp) <| C_seq <| R_nd <| nq (Q_assign rfl) rfl rfl <| WL_nil <| x_then ?_
 obtain ⟨o10, ho10, hF⟩ := bnd hF
 refine C_cut (fun a w' => ∃ (x9 : Bool), x9 = o10 ∧ Fr 36 a [(0, .int .u8 x1), (3, .bool x9)] ∧ Hp C w' ρ (hs)) ?_ ?_
 ·refine R_nd <| nq (Q_move rfl) rfl rfl <| nq (Q_geq rfl rfl) rfl rfl <| nq (Q_move rfl) rfl rfl ?_
  rcases Bool.eq_false_or_eq_true (decide (x1 ≥ 97)) with hb | hb
  ·rw [hb]
   replace ho10 := itT hb ho10
   refine gq (Q_move rfl) rfl rfl rfl <| gq (Q_leq rfl rfl) rfl rfl rfl <| nq (Q_pickT rfl rfl) rfl rfl <| nq (Q_move rfl) rfl rfl ?_
   rcases Bool.eq_false_or_eq_true (decide (x1 ≤ 122)) with hb | hb
   ·rw [hb]
    replace ho10 := itT hb ho10
    refine gs rfl rfl rfl rfl <| gs rfl rfl rfl rfl <| gs rfl rfl rfl rfl <| gsu rfl ⟨_, _, rfl, rfl, rfl⟩ rfl <| gsu rfl ⟨_, _, rfl, rfl, rfl⟩ rfl <| gs rfl rfl rfl rfl <| nq (Q_pickT rfl rfl) rfl rfl <| nq (Q_move rfl) rfl rfl <| gs rfl rfl rfl rfl <| gs rfl rfl rfl rfl <| gs rfl rfl rfl rfl <| gsu rfl ⟨_, _, rfl, rfl, rfl⟩ rfl <| gsu rfl ⟨_, _, rfl, rfl, rfl⟩ rfl <| gs rfl rfl rfl rfl ?_
    refine nq (Q_pickT rfl rfl) rfl rfl <| nq (Q_assign rfl) rfl rfl <| WL_nil ?_
    obtain rfl := Option.some.inj ho10
    refine x_A fun a hf => ⟨true, rfl, hf.sub ⟨rfl, rfl, trivial⟩, H⟩
   ·rw [hb]
    replace ho10 := itF hb ho10
    refine gq (Q_move rfl) rfl rfl rfl <| gq (Q_geq rfl rfl) rfl rfl rfl <| gq (Q_move rfl) rfl rfl rfl ?_
    rcases Bool.eq_false_or_eq_true (decide (x1 ≥ 65)) with hb | hb
    ·rw [hb]
     replace ho10 := itT hb ho10
     refine gq (Q_move rfl) rfl rfl rfl <| gq (Q_leq rfl rfl) rfl rfl rfl <| gq (Q_pickT rfl rfl) rfl rfl rfl <| nq (Q_pickF rfl rfl) rfl rfl <| nq (Q_move rfl) rfl rfl ?_
     rcases Bool.eq_false_or_eq_true (decide (x1 ≤ 90)) with hb | hb
     ·rw [hb]
      replace ho10 := itT hb ho10
      refine gs rfl rfl rfl rfl <| gs rfl rfl rfl rfl <| gs rfl rfl rfl rfl <| gsu rfl ⟨_, _, rfl, rfl, rfl⟩ rfl <| gsu rfl ⟨_, _, rfl, rfl, rfl⟩ rfl <| gs rfl rfl rfl rfl <| nq (Q_pickT rfl rfl) rfl rfl <| nq (Q_assign rfl) rfl rfl <| WL_nil ?_
      obtain rfl := Option.some.inj ho10
      refine x_A fun a hf => ⟨true, rfl, hf.sub ⟨rfl, rfl, trivial⟩, H⟩
     ·rw [hb]
      replace ho10 := itF hb ho10
      refine gq (Q_move rfl) rfl rfl rfl <| gq (Q_geq rfl rfl) rfl rfl rfl <| gq (Q_move rfl) rfl rfl rfl ?_
      rcases Bool.eq_false_or_eq_true (decide (x1 ≥ 48)) with hb | hb
      ·rw [hb]
       replace ho10 := itT hb ho10
       refine gq (Q_move rfl) rfl rfl rfl <| gq (Q_leq rfl rfl) rfl rfl rfl <| gq (Q_pickT rfl rfl) rfl rfl rfl <| nq (Q_pickF rfl rfl) rfl rfl <| nq (Q_assign rfl) rfl rfl <| WL_nil ?_
       obtain rfl := Option.some.inj ho10
       refine x_A fun a hf => ⟨decide (x1 ≤ 57), rfl, hf.sub ⟨rfl, rfl, trivial⟩, H⟩
      ·rw [hb]
       replace ho10 := itF hb ho10
       refine gs rfl rfl rfl rfl <| gs rfl rfl rfl rfl <| gq (Q_pickF rfl rfl) rfl rfl rfl <| nq (Q_pickF rfl rfl) rfl rfl <| nq (Q_assign rfl) rfl rfl <| WL_nil ?_
       obtain rfl := Option.some.inj ho10
       refine x_A fun a hf => ⟨false, rfl, hf.sub ⟨rfl, rfl, trivial⟩, H⟩
    ·rw [hb]
     replace ho10 := itF hb ho10
     refine gs rfl rfl rfl rfl <| gs rfl rfl rfl rfl <| gq (Q_pickF rfl rfl) rfl rfl rfl <| nq (Q_pickF rfl rfl) rfl rfl <| nq (Q_move rfl) rfl rfl <| gq (Q_move rfl) rfl rfl rfl <| gq (Q_geq rfl rfl) rfl rfl rfl <| gq (Q_move rfl) rfl rfl rfl ?_
     rcases Bool.eq_false_or_eq_true (decide (x1 ≥ 48)) with hb | hb
     ·rw [hb]
      replace ho10 := itT hb ho10
      refine gq (Q_move rfl) rfl rfl rfl <| gq (Q_leq rfl rfl) rfl rfl rfl <| gq (Q_pickT rfl rfl) rfl rfl rfl <| nq (Q_pickF rfl rfl) rfl rfl <| nq (Q_assign rfl) rfl rfl <| WL_nil ?_
      obtain rfl := Option.some.inj ho10
      refine x_A fun a hf => ⟨decide (x1 ≤ 57), rfl, hf.sub ⟨rfl, rfl, trivial⟩, H⟩
     ·rw [hb]
      replace ho10 := itF hb ho10
      refine gs rfl rfl rfl rfl <| gs rfl rfl rfl rfl <| gq (Q_pickF rfl rfl) rfl rfl rfl <| nq (Q_pickF rfl rfl) rfl rfl <| nq (Q_assign rfl) rfl rfl <| WL_nil ?_
      obtain rfl := Option.some.inj ho10
      refine x_A fun a hf => ⟨false, rfl, hf.sub ⟨rfl, rfl, trivial⟩, H⟩
  ·rw [hb]
   replace ho10 := itF hb ho10
   refine gs rfl rfl rfl rfl <| gs rfl rfl rfl rfl <| nq (Q_pickF rfl rfl) rfl rfl <| nq (Q_move rfl) rfl rfl <| gq (Q_move rfl) rfl rfl rfl <| gq (Q_geq rfl rfl) rfl rfl rfl <| gq (Q_move rfl) rfl rfl rfl ?_
   rcases Bool.eq_false_or_eq_true (decide (x1 ≥ 65)) with hb | hb
   ·rw [hb]
    replace ho10 := itT hb ho10
    refine gq (Q_move rfl) rfl rfl rfl <| gq (Q_leq rfl rfl) rfl rfl rfl <| gq (Q_pickT rfl rfl) rfl rfl rfl <| nq (Q_pickF rfl rfl) rfl rfl <| nq (Q_move rfl) rfl rfl ?_
    rcases Bool.eq_false_or_eq_true (decide (x1 ≤ 90)) with hb | hb
    ·rw [hb]
     replace ho10 := itT hb ho10
     refine gs rfl rfl rfl rfl <| gs rfl rfl rfl rfl <| gs rfl rfl rfl rfl <| gsu rfl ⟨_, _, rfl, rfl, rfl⟩ rfl <| gsu rfl ⟨_, _, rfl, rfl, rfl⟩ rfl <| gs rfl rfl rfl rfl <| nq (Q_pickT rfl rfl) rfl rfl <| nq (Q_assign rfl) rfl rfl <| WL_nil ?_
     obtain rfl := Option.some.inj ho10
     refine x_A fun a hf => ⟨true, rfl, hf.sub ⟨rfl, rfl, trivial⟩, H⟩
    ·rw [hb]
     replace ho10 := itF hb ho10
     refine gq (Q_move rfl) rfl rfl rfl <| gq (Q_geq rfl rfl) rfl rfl rfl <| gq (Q_move rfl) rfl rfl rfl ?_
     rcases Bool.eq_false_or_eq_true (decide (x1 ≥ 48)) with hb | hb
     ·rw [hb]
      replace ho10 := itT hb ho10
      refine gq (Q_move rfl) rfl rfl rfl <| gq (Q_leq rfl rfl) rfl rfl rfl <| gq (Q_pickT rfl rfl) rfl rfl rfl <| nq (Q_pickF rfl rfl) rfl rfl <| nq (Q_assign rfl) rfl rfl <| WL_nil ?_
      obtain rfl := Option.some.inj ho10
      refine x_A fun a hf => ⟨decide (x1 ≤ 57), rfl, hf.sub ⟨rfl, rfl, trivial⟩, H⟩
     ·rw [hb]
      replace ho10 := itF hb ho10
      refine gs rfl rfl rfl rfl <| gs rfl rfl rfl rfl <| gq (Q_pickF rfl rfl) rfl rfl rfl <| nq (Q_pickF rfl rfl) rfl rfl <| nq (Q_assign rfl) rfl rfl <| WL_nil ?_
      obtain rfl := Option.some.inj ho10
      refine x_A fun a hf => ⟨false, rfl, hf.sub ⟨rfl, rfl, trivial⟩, H⟩
   ·rw [hb]
    replace ho10 := itF hb ho10
    refine gs rfl rfl rfl rfl <| gs rfl rfl rfl rfl <| gq (Q_pickF rfl rfl) rfl rfl rfl <| nq (Q_pickF rfl rfl) rfl rfl <| nq (Q_move rfl) rfl rfl <| gq (Q_move rfl) rfl rfl rfl <| gq (Q_geq rfl rfl) rfl rfl rfl <| gq (Q_move rfl) rfl rfl rfl ?_
    rcases Bool.eq_false_or_eq_true (decide (x1 ≥ 48)) with hb | hb
    ·rw [hb]
     replace ho10 := itT hb ho10
     refine gq (Q_move rfl) rfl rfl rfl <| gq (Q_leq rfl rfl) rfl rfl rfl <| gq (Q_pickT rfl rfl) rfl rfl rfl <| nq (Q_pickF rfl rfl) rfl rfl <| nq (Q_assign rfl) rfl rfl <| WL_nil ?_
     obtain rfl := Option.some.inj ho10
     refine x_A fun a hf => ⟨decide (x1 ≤ 57), rfl, hf.sub ⟨rfl, rfl, trivial⟩, H⟩
    ·rw [hb]
     replace ho10 := itF hb ho10
     refine gs rfl rfl rfl rfl <| gs rfl rfl rfl rfl <| gq (Q_pickF rfl rfl) rfl rfl rfl <| nq (Q_pickF rfl rfl) rfl rfl <| nq (Q_assign rfl) rfl rfl <| WL_nil ?_
     obtain rfl := Option.some.inj ho10
     refine x_A fun a hf => ⟨false, rfl, hf.sub ⟨rfl, rfl, trivial⟩, H⟩
 ·rintro a wd11 ⟨x9, rfl, hf, H⟩
  try dsimp only at hF
  refine CW.at hf ?_
  obtain ⟨o13, ho13, hF⟩ := bnd hF
  refine C_cut (fun a w' => ∃ (x12 : Bool), x12 = o13 ∧ Fr 36 a [(2, .bool x12)] ∧ Hp C w' ρ (hs)) ?_ ?_
  ·refine R_nd <| nq (Q_move rfl) rfl rfl <| nq (Q_geq rfl rfl) rfl rfl <| nq (Q_move rfl) rfl rfl ?_
   rcases Bool.eq_false_or_eq_true (decide (x1 ≥ 33)) with hb | hb
   ·rw [hb]
    replace ho13 := itT hb ho13
    refine gq (Q_move rfl) rfl rfl rfl <| gq (Q_leq rfl rfl) rfl rfl rfl <| nq (Q_pickT rfl rfl) rfl rfl <| nq (Q_move rfl) rfl rfl ?_
    rcases Bool.eq_false_or_eq_true (decide (x1 ≤ 126)) with hb | hb
    ·rw [hb]
     replace ho13 := itT hb ho13
     refine gq (Q_move rfl) rfl rfl rfl <| gq (Q_not rfl) rfl rfl rfl <| nq (Q_pickT rfl rfl) rfl rfl <| nq (Q_assign rfl) rfl rfl <| WL_nil ?_
     obtain rfl := Option.some.inj ho13
     refine x_A fun a hf => ⟨!x9, rfl, hf.sub ⟨rfl, trivial⟩, H⟩
    ·rw [hb]
     replace ho13 := itF hb ho13
     refine gs rfl rfl rfl rfl <| gs rfl rfl rfl rfl <| nq (Q_pickF rfl rfl) rfl rfl <| nq (Q_assign rfl) rfl rfl <| WL_nil ?_
     obtain rfl := Option.some.inj ho13
     refine x_A fun a hf => ⟨false, rfl, hf.sub ⟨rfl, trivial⟩, H⟩
   ·rw [hb]
    replace ho13 := itF hb ho13
    refine gs rfl rfl rfl rfl <| gs rfl rfl rfl rfl <| nq (Q_pickF rfl rfl) rfl rfl <| nq (Q_move rfl) rfl rfl <| gs rfl rfl rfl rfl <| gs rfl rfl rfl rfl <| nq (Q_pickF rfl rfl) rfl rfl <| nq (Q_assign rfl) rfl rfl <| WL_nil ?_
    obtain rfl := Option.some.inj ho13
    refine x_A fun a hf => ⟨false, rfl, hf.sub ⟨rfl, trivial⟩, H⟩
  ·rintro a wd14 ⟨x12, rfl, hf, H⟩
   try dsimp only at hF
   refine CW.at hf <| C_ret ?_
   obtain rfl := Option.some.inj hF
   exact fn_ret (l := [.tmp 2]) (vs := [.bool x12]) rfl rfl rfl ⟨x12, rfl, rfl, H⟩
theorem c_67_1 {N : Nat} {C : Cx} {w : World} {ρ : View} {hs : List Hl} {x1 : ByteArray} {x2 : Int} (H : Hp C w ρ (hs)) {gV : Nat → Value} (gle : GErrs ρ 137 errIds gV) {r : (Int × Int × Int)} (hF : F_spell_Read_1 N x1 x2 = some r) :
  Calls Tryd.prog 67 [.string x1, .int .i64 x2].toArray w (Rets (fun v w' => (∃ (x23 : Int) (x24 : Int) (x25 : Int), (x23, x24, x25) = r ∧ .tuple [.int .u8 x23, .int .i64 x24, errV errIds gV x25].toArray = v ∧ Hp C w' ρ (hs)))) := by
 unfold F_spell_Read_1 at hF
 have h0 : Tryd.f67.body = some _ := rfl
 refine fn_calls' Tryd.func67 h0 (n := 71) rfl (by simp) <| C_seq <| R_nd <| nq (Q_assign rfl) rfl rfl <| nq (Q_assign rfl) rfl rfl <| nq (Q_assign rfl) rfl rfl <| WL_nil <| x_then <| C_seq <| C_block ?_
 obtain ⟨o27, ho27, hF⟩ := bnd hF
 refine C_cut (fun a w' => ∃ (x26 : Bool), x26 = o27 ∧ Fr 71 a [(0, .string x1), (1, .int .i64 x2), (9, .bool x26)] ∧ Hp C w' ρ (hs)) ?_ ?_
 ·refine R_nd <| nq (Q_move rfl) rfl rfl <| nq (Q_lss rfl rfl) rfl rfl <| nq (Q_move rfl) rfl rfl ?_
  rcases Bool.eq_false_or_eq_true (decide (x2 < 0)) with hb | hb
  ·rw [hb]
   replace ho27 := itT hb ho27
   refine gs rfl rfl rfl rfl <| gs rfl rfl rfl rfl <| gs rfl rfl rfl rfl <| gs rfl rfl rfl rfl <| nq (Q_pickT rfl rfl) rfl rfl <| nq (Q_assign rfl) rfl rfl <| WL_nil ?_
   obtain rfl := Option.some.inj ho27
   refine x_A fun a hf => ⟨true, rfl, hf.sub ⟨rfl, rfl, rfl, trivial⟩, H⟩
  ·rw [hb]
   replace ho27 := itF hb ho27
   refine gq (Q_move rfl) rfl rfl rfl <| gq (Q_move rfl) rfl rfl rfl <| gq (Q_lenStr Tryd.underlying9 rfl) rfl rfl rfl <| gq (Q_geq rfl rfl) rfl rfl rfl <| nq (Q_pickF rfl rfl) rfl rfl <| nq (Q_assign rfl) rfl rfl <| WL_nil ?_
   obtain rfl := Option.some.inj ho27
   refine x_A fun a hf => ⟨decide (x2 ≥ (x1.size : Int)), rfl, hf.sub ⟨rfl, rfl, rfl, trivial⟩, H⟩
 ·rintro a wd28 ⟨x26, rfl, hf, H⟩
  try dsimp only at hF
  refine CW.at hf ?_
  refine C_cond rfl (fun hb => ?_) (fun hb => ?_)
  ·replace hF := itT hb hF
   refine C_seq <| R_dr (.take 0 (.take 1 (.take 2 (.take 3 (.take 4 (.take 5 .done)))))) (fun w' => Ok w' ρ []) (by kernel_rfl) (by kernel_rfl) (by kernel_rfl) (H.drew.okS (by simp)) ?_
   replace H := H.drew
   refine dq rfl (fun _ _ => Q_move rfl) rfl rfl <| dq rfl (fun _ _ => Q_lenStr Tryd.underlying9 rfl) rfl rfl <| dq (v := errV errIds gV 3) rfl (fun _ hw => Q_ldV hw gle (by decide) ty25) rfl rfl <| dq rfl (fun _ _ => Q_assign rfl) rfl rfl <| dq rfl (fun _ _ => Q_assign rfl) rfl rfl <| dq rfl (fun _ _ => Q_assign rfl) rfl rfl <| DL_nil <| x_then <| C_ret <| x_block_ret <| x_then_ret ?_
   obtain rfl := Option.some.inj hF
   exact fn_ret (l := [.tmp 4, .tmp 5, .tmp 6]) (vs := [.int .u8 0, .int .i64 (x1.size : Int), errV errIds gV 3]) rfl rfl rfl ⟨0, (x1.size : Int), 3, rfl, rfl, H⟩
  ·replace hF := itF hb hF
   refine C_seq <| R_nd <| nq (Q_move rfl) rfl rfl <| nq (Q_move rfl) rfl rfl ?_
   obtain ⟨x29, hx29, hF⟩ := bnd hF
   refine nq (Q_ixS hx29 Tryd.underlying9 rfl rfl) rfl rfl <| nq (Q_neq rfl rfl) rfl rfl <| nq (Q_assign rfl) rfl rfl <| WL_nil <| x_then ?_
   refine C_cond rfl (fun hb => ?_) (fun hb => ?_)
   ·replace hF := itT hb hF
    refine C_seq <| R_nd <| nq (Q_move rfl) rfl rfl <| nq (Q_move rfl) rfl rfl ?_
    obtain ⟨x30, hx30, hF⟩ := bnd hF
    refine nq (Q_ixS hx30 Tryd.underlying9 rfl rfl) rfl rfl <| nq (Q_move rfl) rfl rfl <| nq (Q_add rfl rfl) rfl rfl <| nq (Q_assign rfl) rfl rfl <| nq (Q_assign rfl) rfl rfl <| nq (Q_assign rfl) rfl rfl <| WL_nil <| x_then <| C_ret <| x_block_ret <| x_then_ret ?_
    obtain rfl := Option.some.inj hF
    exact fn_ret (l := [.tmp 4, .tmp 5, .tmp 6]) (vs := [.int .u8 x30, .int .i64 (w64 (x2 + 1)), errV errIds gV 0]) rfl rfl rfl ⟨x30, w64 (x2 + 1), 0, rfl, rfl, H⟩
   ·replace hF := itF hb hF
    refine C_seq <| R_nd <| nq (Q_move rfl) rfl rfl <| nq (Q_add rfl rfl) rfl rfl <| nq (Q_move rfl) rfl rfl <| nq (Q_lenStr Tryd.underlying9 rfl) rfl rfl <| nq (Q_geq rfl rfl) rfl rfl <| nq (Q_assign rfl) rfl rfl <| WL_nil <| x_then ?_
    refine C_cond rfl (fun hb => ?_) (fun hb => ?_)
    ·replace hF := itT hb hF
     refine C_seq <| R_dr (.take 0 (.take 1 (.take 2 (.take 3 (.take 4 (.take 5 .done)))))) (fun w' => Ok w' ρ []) (by kernel_rfl) (by kernel_rfl) (by kernel_rfl) (H.drew.okS (by simp)) ?_
     replace H := H.drew
     refine dq rfl (fun _ _ => Q_move rfl) rfl rfl <| dq rfl (fun _ _ => Q_lenStr Tryd.underlying9 rfl) rfl rfl <| dq (v := errV errIds gV 3) rfl (fun _ hw => Q_ldV hw gle (by decide) ty25) rfl rfl <| dq rfl (fun _ _ => Q_assign rfl) rfl rfl <| dq rfl (fun _ _ => Q_assign rfl) rfl rfl <| dq rfl (fun _ _ => Q_assign rfl) rfl rfl <| DL_nil <| x_then <| C_ret <| x_block_ret <| x_then_ret ?_
     obtain rfl := Option.some.inj hF
     exact fn_ret (l := [.tmp 4, .tmp 5, .tmp 6]) (vs := [.int .u8 0, .int .i64 (x1.size : Int), errV errIds gV 3]) rfl rfl rfl ⟨0, (x1.size : Int), 3, rfl, rfl, H⟩
    ·replace hF := itF hb hF
     refine C_skip <| x_block <| x_then <| C_seq <| R_nd <| nq (Q_move rfl) rfl rfl <| nq (Q_move rfl) rfl rfl <| nq (Q_add rfl rfl) rfl rfl ?_
     obtain ⟨x31, hx31, hF⟩ := bnd hF
     refine nq (Q_ixS hx31 Tryd.underlying9 rfl rfl) rfl rfl <| nq (Q_assign rfl) rfl rfl <| WL_nil <| x_then <| C_seq <| C_seq <| R_nd <| nq (Q_move rfl) rfl rfl ?_
     obtain ⟨q32, hq32, hF⟩ := bnd hF
     refine ne (E_call fn77 rfl (c_77 H gle   hq32)) rfl rfl ?_
     rintro _ wd34 ⟨rfl, rfl, H⟩
     try dsimp only at hF
     refine nq (Q_assign rfl) rfl rfl <| WL_nil <| x_then <| C_seq <| R_nd <| nq (Q_move rfl) rfl rfl <| nq (Q_geq rfl rfl) rfl rfl <| WL_nil <| x_then ?_
     refine C_cond rfl (fun hb => ?_) (fun hb => ?_)
     ·replace hF := itT hb hF
      refine C_seq <| R_nd <| nq (Q_move rfl) rfl rfl ?_
      obtain ⟨x35, hx35, hF⟩ := bnd hF
      refine nq (Q_ixS hx35 Tryd.underlying9 rfl rfl) rfl rfl <| nq (Q_move rfl) rfl rfl <| nq (Q_add rfl rfl) rfl rfl <| nq (Q_assign rfl) rfl rfl <| nq (Q_assign rfl) rfl rfl <| nq (Q_assign rfl) rfl rfl <| WL_nil <| x_then <| C_ret <| x_then_ret ?_
      obtain rfl := Option.some.inj hF
      exact fn_ret (l := [.tmp 4, .tmp 5, .tmp 6]) (vs := [.int .u8 x35, .int .i64 (w64 (x2 + 2)), errV errIds gV 0]) rfl rfl rfl ⟨x35, w64 (x2 + 2), 0, rfl, rfl, H⟩
     ·replace hF := itF hb hF
      refine C_skip <| x_then <| C_seq <| C_block <| C_seq <| R_nd <| nq (Q_move rfl) rfl rfl <| nq (Q_eql rfl rfl) rfl rfl <| nq (Q_assign rfl) rfl rfl <| WL_nil <| x_then ?_
      refine C_cond rfl (fun hb => ?_) (fun hb => ?_)
      ·replace hF := itT hb hF
       refine C_seq <| R_nd <| nq (Q_move rfl) rfl rfl <| nq (Q_move rfl) rfl rfl <| nq (Q_add rfl rfl) rfl rfl ?_
       obtain ⟨q36, hq36, hF⟩ := bnd hF
       refine ne (E_call fn78 rfl (c_78 H gle   hq36)) rfl rfl ?_
       rintro _ wd41 ⟨x38, x39, x40, rfl, rfl, H⟩
       try dsimp only at hF
       refine nq (Q_extract rfl rfl) rfl rfl <| nq (Q_extract rfl rfl) rfl rfl <| nq (Q_extract rfl rfl) rfl rfl <| nq (Q_assign rfl) rfl rfl <| nq (Q_assign rfl) rfl rfl <| nq (Q_assign rfl) rfl rfl <| WL_nil <| x_then <| C_ret <| x_block_ret <| x_then_ret ?_
       obtain rfl := Option.some.inj hF
       exact fn_ret (l := [.tmp 4, .tmp 5, .tmp 6]) (vs := [.int .u8 x38, .int .i64 x39, errV errIds gV x40]) rfl rfl rfl ⟨x38, x39, x40, rfl, rfl, H⟩
      ·replace hF := itF hb hF
       refine C_seq <| R_nd <| nq (Q_move rfl) rfl rfl ?_
       obtain ⟨q42, hq42, hF⟩ := bnd hF
       refine ne (E_call fn79 rfl (c_79 H gle   hq42)) rfl rfl ?_
       rintro _ wd45 ⟨x44, rfl, rfl, H⟩
       try dsimp only at hF
       refine nq (Q_assign rfl) rfl rfl <| WL_nil <| x_then ?_
       refine C_cond rfl (fun hb => ?_) (fun hb => ?_)
       ·replace hF := itT hb hF
        refine C_seq <| R_nd <| nq (Q_move rfl) rfl rfl <| nq (Q_move rfl) rfl rfl <| nq (Q_add rfl rfl) rfl rfl <| nq (Q_assign rfl) rfl rfl <| nq (Q_assign rfl) rfl rfl <| nq (Q_assign rfl) rfl rfl <| WL_nil <| x_then <| C_ret <| x_block_ret <| x_then_ret ?_
        obtain rfl := Option.some.inj hF
        exact fn_ret (l := [.tmp 4, .tmp 5, .tmp 6]) (vs := [.int .u8 x31, .int .i64 (w64 (x2 + 2)), errV errIds gV 0]) rfl rfl rfl ⟨x31, w64 (x2 + 2), 0, rfl, rfl, H⟩
       ·replace hF := itF hb hF
        refine C_skip <| x_block <| x_then <| C_seq <| R_dr (.take 0 (.take 1 (.take 2 (.take 3 (.take 4 (.take 5 .done)))))) (fun w' => Ok w' ρ []) (by kernel_rfl) (by kernel_rfl) (by kernel_rfl) (H.drew.okS (by simp)) ?_
        replace H := H.drew
        refine dq rfl (fun _ _ => Q_move rfl) rfl rfl <| dq rfl (fun _ _ => Q_add rfl rfl) rfl rfl <| dq (v := errV errIds gV 1) rfl (fun _ hw => Q_ldV hw gle (by decide) ty25) rfl rfl <| dq rfl (fun _ _ => Q_assign rfl) rfl rfl <| dq rfl (fun _ _ => Q_assign rfl) rfl rfl <| dq rfl (fun _ _ => Q_assign rfl) rfl rfl <| DL_nil <| x_then <| C_ret ?_
        obtain rfl := Option.some.inj hF
        exact fn_ret (l := [.tmp 4, .tmp 5, .tmp 6]) (vs := [.int .u8 0, .int .i64 (w64 (x2 + 1)), errV errIds gV 1]) rfl rfl rfl ⟨0, w64 (x2 + 1), 1, rfl, rfl, H⟩
theorem c_58 {N : Nat} {C : Cx} {w : World} {ρ : View} {hs : List Hl} {x1 : ByteArray} (H : Hp C w ρ (hs)) {gV : Nat → Value} (gle : GErrs ρ 137 errIds gV) {r : ((List Int) × Int × Int)} (hF : F_spell_Bytes N x1 = some r) :
  Calls Tryd.prog 58 [.string x1].toArray w (Rets (fun v w' => (∃ (v130 : Value) (c131 : (List Value)) (x132 : (List Int)) (x134 : Int) (x135 : Int), (x132, x134, x135) = r ∧ .tuple [v130, .int .i64 x134, errV errIds gV x135].toArray = v ∧ rdL (eI .u8) ρ x132 c131 ∧ Hp C w' ρ (Arr v130 1 c131 :: hs)))) := by
 unfold F_spell_Bytes at hF
 have h0 : Tryd.f58.body = some _ := rfl
 refine fn_calls' Tryd.func58 h0 (n := 33) rfl (by simp) <| C_seq <| R_nd <| nq (Q_assign rfl) rfl rfl <| nq (Q_assign rfl) rfl rfl <| nq (Q_assign rfl) rfl rfl <| WL_nil <| x_then <| C_seq <| R_nd <| nq (Q_assign rfl) rfl rfl <| WL_nil <| x_then <| C_seq ?_
 refine C_seq <| R_nd <| nq (Q_assign rfl) rfl rfl <| WL_nil <| x_then ?_
 obtain ⟨o201, ho201, hF⟩ := bnd hF
 refine C_cutQ (fun a w' => ∃ (v197 : Value) (c198 : (List Value)) (x199 : (List Int)), .inl x199 = o201 ∧ rdL (eI .u8) ρ x199 c198 ∧ Fr 33 a [(0, .string x1), (5, v197)] ∧ Hp C w' ρ (Arr v197 1 c198 :: hs)) ?_ ?_
 ·refine C_block ?_
  have H := H.nilArr 1
  refine C_iter (f := fun s => F_spell_Bytes_l0 N x1 s.1 s.2) ho201 (fun s a w' => ∃ (v221 : Value) (c222 : (List Value)) (x223 : (List Int)) (x225 : Int), (x223, x225) = s ∧ rdL (eI .u8) ρ x223 c222 ∧ Fr 33 a [(0, .string x1), (5, v221), (6, .int .i64 x225)] ∧ Hp C w' ρ (Arr v221 1 c222 :: hs)) ?_ ?_
  ·exact fun a hf => ⟨(.slice none 0 0), [], [], 0, rfl, rdL.nil, hf.sub ⟨rfl, rfl, rfl, trivial⟩, H⟩
  ·rintro s o245 a wd248 ⟨v221, c222, x223, x225, rfl, r224, hf, H⟩ hB246 hO247
   replace hB246 : F_spell_Bytes_l0 N x1 x223 x225 = some o245 := hB246
   unfold F_spell_Bytes_l0 at hB246
   refine CW.at hf <| C_seq <| C_seq <| R_nd <| nq (Q_move rfl) rfl rfl <| nq (Q_move rfl) rfl rfl <| nq (Q_lenStr Tryd.underlying9 rfl) rfl rfl <| nq (Q_lss rfl rfl) rfl rfl <| WL_nil <| x_then ?_
   refine C_cond rfl (fun hb => ?_) (fun hb => ?_)
   ·replace hB246 := itT hb hB246
    refine C_skip <| x_then <| C_block <| C_seq <| R_nd <| nq (Q_move rfl) rfl rfl <| nq (Q_move rfl) rfl rfl ?_
    obtain ⟨q249, hq249, hB246⟩ := bnd hB246
    refine ne (E_call fn67 rfl (c_67_1 H gle   hq249)) rfl rfl ?_
    rintro _ wd254 ⟨x251, x252, x253, rfl, rfl, H⟩
    try dsimp only at hB246
    refine nq (Q_move rfl) rfl rfl <| nq (Q_extract rfl rfl) rfl rfl <| nq (Q_extract rfl rfl) rfl rfl <| nq (Q_extract rfl rfl) rfl rfl <| nq (Q_assign rfl) rfl rfl <| nq (Q_assign rfl) rfl rfl <| nq (Q_assign rfl) rfl rfl <| WL_nil <| x_then <| C_seq <| C_seq <| R_nd <| nq (Q_move rfl) rfl rfl <| nq (v := .bool (eOk errIds x253)) (Q_neqV Tryd.underlying25 gle rfl) rfl rfl ?_
    refine WL_nil <| x_then ?_
    refine C_cond rfl (fun hb => ?_) (fun hb => ?_)
    ·replace hB246 := itT hb hB246
     refine C_seq <| R_nd <| nq (Q_move rfl) rfl rfl <| nq (Q_move rfl) rfl rfl <| nq (Q_assign rfl) rfl rfl <| nq (Q_assign rfl) rfl rfl <| nq (Q_assign rfl) rfl rfl <| WL_nil <| x_then <| C_ret <| x_then_ret <| x_block_ret <| x_then_ret <| x_block_ret ?_
     refine x_then_ret <| x_then_ret ?_
     have H := H.nilArr 1
     replace H := H.drop 1 rfl
     dsimp only [List.eraseIdx] at H
     obtain rfl := Option.some.inj hB246
     obtain rfl := hO247 _ rfl
     obtain rfl := Option.some.inj (show some _ = some _ from hF)
     exact fn_ret (l := [.tmp 2, .tmp 3, .tmp 4]) (vs := [(.slice none 0 0), .int .i64 x252, errV errIds gV x253]) rfl rfl rfl ⟨(.slice none 0 0), [], [], x252, x253, rfl, rfl, rdL.nil, H⟩
    ·replace hB246 := itF hb hB246
     refine C_skip <| x_then <| C_seq <| R_nd <| nq (Q_move rfl) rfl rfl <| nq (Q_move rfl) rfl rfl <| ne (E_bslice (xs := [.tmp 26]) (vs := [.int .u8 x251]) H Tryd.underlying34 ty5 (by decide) (cs := [.int .u8 x251]) rfl (sz_cons rfl sz_nil) rfl (by simp) (by simp) rfl rfl) rfl rfl ?_
     rintro _ wd256 ⟨b255, rfl, H⟩
     obtain ⟨x257, hx257, hB246⟩ := bnd hB246
     obtain ⟨ha258a, ha258b⟩ := app_some hx257
     have r260 : rdL (eI .u8) ρ x257 (c222 ++ ([.int .u8 x251])) := ha258b ▸ rdL.app r224 (show rdL (eI .u8) ρ ([x251]) ([.int .u8 x251]) from ⟨([.int .u8 x251]), _, rfl, rfl, rdL.nil⟩)
     refine ne (E_append (k := 1) H rfl Tryd.underlying34 ty5 rfl (by decide) (by decide) rfl rfl (Src.ofArr (k := 0) H.ok rfl) (rdL.one (show rdL (eI .u8) ρ ([x251]) ([.int .u8 x251]) from ⟨([.int .u8 x251]), _, rfl, rfl, rdL.nil⟩)) (app_fit r224 (show rdL (eI .u8) ρ ([x251]) ([.int .u8 x251]) from ⟨([.int .u8 x251]), _, rfl, rfl, rdL.nil⟩) ha258a)) rfl rfl ?_
     rintro v259 wd262 ⟨H, hc261⟩
     dsimp only [List.set] at H
     refine nq (Q_assign rfl) rfl rfl <| WL_nil <| x_then <| R_nd <| nq (Q_move rfl) rfl rfl <| nq (Q_assign rfl) rfl rfl <| WL_nil <| x_block ?_
     replace H := H.f1
     replace H := H.drop 1 rfl
     dsimp only [List.eraseIdx] at H
     obtain rfl := Option.some.inj hB246
     refine x_A fun a hf => ⟨_, rfl, v259, (c222 ++ ([.int .u8 x251])), x257, x252, rfl, r260, hf.sub ⟨rfl, rfl, rfl, trivial⟩, H⟩
   ·replace hB246 := itF hb hB246
    refine C_exit <| x_then_exit <| x_then_exit <| x_block_exit ?_
    obtain rfl := Option.some.inj hB246
    obtain rfl := hO247 _ rfl
    refine x_A fun a hf => ⟨v221, c222, x223, rfl, r224, hf.sub ⟨rfl, rfl, trivial⟩, H⟩
 ·rintro a wd263 ⟨v197, c198, x199, rfl, r200, hf, H⟩
  try dsimp only at hF
  refine XX.at hf <| x_then <| C_seq <| R_nd <| nq (Q_move rfl) rfl rfl <| nq (Q_move rfl) rfl rfl <| nq (Q_lenStr Tryd.underlying9 rfl) rfl rfl <| nq (Q_assign rfl) rfl rfl <| nq (Q_assign rfl) rfl rfl <| nq (Q_assign rfl) rfl rfl <| WL_nil <| x_then <| C_ret ?_
  obtain rfl := Option.some.inj hF
  exact fn_ret (l := [.tmp 2, .tmp 3, .tmp 4]) (vs := [v197, .int .i64 (x1.size : Int), errV errIds gV 0]) rfl rfl rfl ⟨v197, c198, x199, (x1.size : Int), 0, rfl, rfl, r200, H⟩
theorem c_45 {N : Nat} {C : Cx} {w : World} {ρ : View} {hs : List Hl} {x1 : ByteArray} (H : Hp C w ρ (hs)) {gV : Nat → Value} (gle : GErrs ρ 137 errIds gV) {r : ((List Int) × Int)} (hF : F_script_read N x1 = some r) :
  Calls Tryd.prog 45 [.string x1].toArray w (Rets (fun v w' => (∃ (v11 : Value) (c12 : (List Value)) (x13 : (List Int)) (x15 : Int), (x13, x15) = r ∧ .tuple [v11, errV errIds gV x15].toArray = v ∧ rdL (eI .u8) ρ x13 c12 ∧ Hp C w' ρ (Arr v11 1 c12 :: hs)))) := by
 unfold F_script_read at hF
 have h0 : Tryd.f45.body = some _ := rfl
 refine fn_calls' Tryd.func45 h0 (n := 21) rfl (by simp) <| C_seq <| R_nd <| nq (Q_assign rfl) rfl rfl <| nq (Q_assign rfl) rfl rfl <| WL_nil <| x_then <| C_seq <| C_seq <| R_nd <| nq (Q_move rfl) rfl rfl <| WL_nil <| x_then <| C_block ?_
 refine C_seq <| R_nd <| nq (v := .bool (x1.toList == (⟨#[46]⟩ : ByteArray).toList)) (Q_eqlStr Tryd.underlying9 rfl rfl) rfl rfl <| nq (Q_assign rfl) rfl rfl <| WL_nil <| x_then ?_
 refine C_cond rfl (fun hb => ?_) (fun hb => ?_)
 ·replace hF := itT hb hF
  refine C_seq <| R_nd <| nq (Q_assign rfl) rfl rfl <| nq (Q_assign rfl) rfl rfl <| WL_nil <| x_then <| C_ret <| x_block_ret <| x_then_ret ?_
  have H := H.nilArr 1
  obtain rfl := Option.some.inj hF
  exact fn_ret (l := [.tmp 2, .tmp 3]) (vs := [(.slice none 0 0), errV errIds gV 0]) rfl rfl rfl ⟨(.slice none 0 0), [], [], 0, rfl, rfl, rdL.nil, H⟩
 ·replace hF := itF hb hF
  refine C_seq <| R_nd <| nq (v := .bool (x1.toList == ByteArray.empty.toList)) (Q_eqlStr Tryd.underlying9 rfl rfl) rfl rfl <| nq (Q_assign rfl) rfl rfl <| WL_nil <| x_then ?_
  refine C_cond rfl (fun hb => ?_) (fun hb => ?_)
  ·replace hF := itT hb hF
   refine C_seq <| R_dr (.take 0 (.take 1 (.take 2 .done))) (fun w' => Ok w' ρ []) (by kernel_rfl) (by kernel_rfl) (by kernel_rfl) (H.drew.okS (by simp)) ?_
   replace H := H.drew
   refine dq (v := errV errIds gV 3) rfl (fun _ hw => Q_ldV hw gle (by decide) ty25) rfl rfl <| dq rfl (fun _ _ => Q_assign rfl) rfl rfl <| dq rfl (fun _ _ => Q_assign rfl) rfl rfl <| DL_nil <| x_then <| C_ret <| x_block_ret <| x_then_ret ?_
   have H := H.nilArr 1
   obtain rfl := Option.some.inj hF
   exact fn_ret (l := [.tmp 2, .tmp 3]) (vs := [(.slice none 0 0), errV errIds gV 3]) rfl rfl rfl ⟨(.slice none 0 0), [], [], 3, rfl, rfl, rdL.nil, H⟩
  ·replace hF := itF hb hF
   refine C_skip <| x_block <| x_then <| C_seq <| R_nd <| nq (Q_move rfl) rfl rfl ?_
   obtain ⟨q16, hq16, hF⟩ := bnd hF
   refine ne (E_call fn58 rfl (c_58 H gle   hq16)) rfl rfl ?_
   rintro _ wd24 ⟨v18, c19, x20, x21, x22, rfl, rfl, r23, H⟩
   try dsimp only at hF
   refine nq (Q_move rfl) rfl rfl <| nq (Q_extract rfl rfl) rfl rfl <| nq (Q_extract rfl rfl) rfl rfl <| nq (Q_extract rfl rfl) rfl rfl <| nq (Q_assign rfl) rfl rfl <| nq (Q_assign rfl) rfl rfl <| nq (Q_assign rfl) rfl rfl <| WL_nil <| x_then <| C_seq <| R_nd <| nq (Q_move rfl) rfl rfl <| nq (Q_move rfl) rfl rfl <| nq (Q_assign rfl) rfl rfl ?_
   refine nq (Q_assign rfl) rfl rfl <| WL_nil <| x_then <| C_ret ?_
   obtain rfl := Option.some.inj hF
   exact fn_ret (l := [.tmp 2, .tmp 3]) (vs := [v18, errV errIds gV x22]) rfl rfl rfl ⟨v18, c19, x20, x22, rfl, rfl, r23, H⟩
theorem c_33_1 {N : Nat} {C : Cx} {w : World} {ρ : View} {hs : List Hl} {b1 : Nat} {c5 : List Value} {v8 : Value} {x2 : Int} {x3 : Int} {x4 : Int} {x6 : (List Int)} {x9 : Int} {x10 : ByteArray} (H : Hp C w ρ (Box b1 [.int .i64 x2, .int .i64 x3, .int .i64 x4, v8] :: Arr v8 1 c5 :: hs)) {gV : Nat → Value} (gle : GErrs ρ 137 errIds gV) (r7 : rdL (eI .u8) ρ x6 c5) {r : (Int × Int × (List Int) × Int)} (hF : F_script_field_1 N x2 x3 x4 x6 x9 x10 = some r) :
  Calls Tryd.prog 33 [.pointer (some ⟨b1, 0, none⟩), .int .u8 x9, .string x10].toArray w (Rets (fun v w' => (∃ (v240 : Value) (c241 : (List Value)) (x238 : Int) (x239 : Int) (x242 : (List Int)) (x244 : Int), (x238, x239, x242, x244) = r ∧ errV errIds gV x244 = v ∧ rdL (eI .u8) ρ x242 c241 ∧ Hp C w' ρ (Box b1 [.int .i64 x2, .int .i64 x238, .int .i64 x239, v240] :: Arr v240 1 c241 :: hs)))) := by
 unfold F_script_field_1 at hF
 have h0 : Tryd.f33.body = some _ := rfl
 refine fn_calls' Tryd.func33 h0 (n := 38) rfl (by simp) <| C_seq <| R_nd <| nq (Q_assign rfl) rfl rfl <| WL_nil <| x_then <| C_seq <| R_nd <| nq (Q_assign rfl) rfl rfl <| WL_nil <| x_then <| C_seq <| C_seq <| R_nd ?_
 refine nq (Q_move rfl) rfl rfl <| WL_nil <| x_then ?_
 obtain ⟨o361, ho361, hF⟩ := bnd hF
 refine C_cutQ (fun a w' => ∃ (v356 : Value) (c357 : (List Value)) (x354 : Int) (x355 : Int) (x358 : (List Int)) (x360 : Int), (x354, x355, x358, x360) = o361 ∧ rdL (eI .u8) ρ x358 c357 ∧ Fr 38 a [(7, errV errIds gV x360)] ∧ Hp C w' ρ (Box b1 [.int .i64 x2, .int .i64 x354, .int .i64 x355, v356] :: Arr v356 1 c357 :: hs)) ?_ ?_
 ·refine C_block <| C_seq <| R_nd <| nq (Q_eql rfl rfl) rfl rfl <| nq (Q_assign rfl) rfl rfl <| WL_nil <| x_then ?_
  obtain ⟨o419, ho419, ho361⟩ := bnd ho361
  refine C_cutQ (fun a w' => ∃ (v414 : Value) (c415 : (List Value)) (x412 : Int) (x413 : Int) (x416 : (List Int)) (x418 : Int), (x412, x413, x416, x418) = o419 ∧ rdL (eI .u8) ρ x416 c415 ∧ Fr 38 a [(7, errV errIds gV x418)] ∧ Hp C w' ρ (Box b1 [.int .i64 x2, .int .i64 x412, .int .i64 x413, v414] :: Arr v414 1 c415 :: hs)) ?_ ?_
  ·refine C_cond rfl (fun hb => ?_) (fun hb => ?_)
   ·replace ho419 := itT hb ho419
    refine R_nd <| nq (Q_move rfl) rfl rfl <| nq (Q_move rfl) rfl rfl ?_
    obtain ⟨q420, hq420, ho419⟩ := bnd ho419
    refine ne (E_call fn9 rfl (c_9 H gle   hq420)) rfl rfl ?_
    rintro _ wd424 ⟨x422, x423, rfl, rfl, H⟩
    try dsimp only at ho419
    refine nq (Q_move rfl) rfl rfl <| nq (Q_extract rfl rfl) rfl rfl <| nq (Q_extract rfl rfl) rfl rfl <| nq (Q_nilP rfl) rfl rfl <| nq (v := .pointer (some ⟨b1, 1, none⟩)) (Q_fld Tryd.underlying43 rfl ty3 (by decide) rfl rfl) rfl rfl <| ne (E_stB (k := 0) (cs := [.int .i64 x422]) (vs' := [.int .i64 x2, .int .i64 x422, .int .i64 x4, v8]) H rfl ty3 rfl rfl rfl rfl (one_cons rfl one_nil) (by simp) rfl) rfl rfl ?_
    rintro _ wd425 H
    dsimp only [List.set] at H
    refine nq (Q_assign rfl) rfl rfl <| WL_nil ?_
    replace H := H.f1
    replace H := H.f1
    obtain rfl := Option.some.inj ho419
    refine x_A fun a hf => ⟨v8, c5, x422, x4, x6, x423, rfl, r7, hf.sub ⟨rfl, trivial⟩, H⟩
   ·replace ho419 := itF hb ho419
    refine C_seq <| R_nd <| nq (Q_eql rfl rfl) rfl rfl <| nq (Q_assign rfl) rfl rfl <| WL_nil <| x_then ?_
    obtain ⟨o453, ho453, ho419⟩ := bnd ho419
    refine C_cutQ (fun a w' => ∃ (v448 : Value) (c449 : (List Value)) (x447 : Int) (x450 : (List Int)) (x452 : Int), (x447, x450, x452) = o453 ∧ rdL (eI .u8) ρ x450 c449 ∧ Fr 38 a [(7, errV errIds gV x452)] ∧ Hp C w' ρ (Box b1 [.int .i64 x2, .int .i64 x3, .int .i64 x447, v448] :: Arr v448 1 c449 :: hs)) ?_ ?_
    ·refine C_cond rfl (fun hb => ?_) (fun hb => ?_)
     ·replace ho453 := itT hb ho453
      refine R_nd <| nq (Q_move rfl) rfl rfl <| nq (Q_move rfl) rfl rfl ?_
      obtain ⟨q454, hq454, ho453⟩ := bnd ho453
      refine ne (E_call fn9 rfl (c_9 H gle   hq454)) rfl rfl ?_
      rintro _ wd458 ⟨x456, x457, rfl, rfl, H⟩
      try dsimp only at ho453
      refine nq (Q_move rfl) rfl rfl <| nq (Q_extract rfl rfl) rfl rfl <| nq (Q_extract rfl rfl) rfl rfl <| nq (Q_nilP rfl) rfl rfl <| nq (v := .pointer (some ⟨b1, 2, none⟩)) (Q_fld Tryd.underlying43 rfl ty3 (by decide) rfl rfl) rfl rfl <| ne (E_stB (k := 0) (cs := [.int .i64 x456]) (vs' := [.int .i64 x2, .int .i64 x3, .int .i64 x456, v8]) H rfl ty3 rfl rfl rfl rfl (one_cons rfl one_nil) (by simp) rfl) rfl rfl ?_
      rintro _ wd459 H
      dsimp only [List.set] at H
      refine nq (Q_assign rfl) rfl rfl <| WL_nil ?_
      replace H := H.f1
      replace H := H.f1
      obtain rfl := Option.some.inj ho453
      refine x_A fun a hf => ⟨v8, c5, x456, x6, x457, rfl, r7, hf.sub ⟨rfl, trivial⟩, H⟩
     ·replace ho453 := itF hb ho453
      refine R_nd <| nq (Q_move rfl) rfl rfl <| nq (Q_move rfl) rfl rfl ?_
      obtain ⟨q460, hq460, ho453⟩ := bnd ho453
      refine ne (E_call fn45 rfl (c_45 H gle   hq460)) rfl rfl ?_
      rintro _ wd467 ⟨v462, c463, x464, x465, rfl, rfl, r466, H⟩
      try dsimp only at ho453
      refine nq (Q_move rfl) rfl rfl <| nq (Q_extract rfl rfl) rfl rfl <| nq (Q_extract rfl rfl) rfl rfl <| nq (Q_nilP rfl) rfl rfl <| nq (v := .pointer (some ⟨b1, 3, none⟩)) (Q_fld Tryd.underlying43 rfl ty34 (by decide) rfl rfl) rfl rfl <| ne (E_stB (k := 1) (cs := [v462]) (vs' := [.int .i64 x2, .int .i64 x3, .int .i64 x4, v462]) H rfl ty34 rfl rfl (arr_cells (H.ok.get (k := 0) rfl)).1 rfl (one_cons (arr_cells (H.ok.get (k := 0) rfl)).2 one_nil) (by simp) rfl) rfl rfl ?_
      rintro _ wd468 H
      dsimp only [List.set] at H
      refine nq (Q_assign rfl) rfl rfl <| WL_nil ?_
      replace H := H.f1
      replace H := H.drop 2 rfl
      dsimp only [List.eraseIdx] at H
      obtain rfl := Option.some.inj ho453
      refine x_A fun a hf => ⟨v462, c463, x4, x464, x465, rfl, r466, hf.sub ⟨rfl, trivial⟩, H⟩
    ·rintro a wd469 ⟨v448, c449, x447, x450, x452, rfl, r451, hf, H⟩
     try dsimp only at ho419
     refine XX.at hf ?_
     replace H := H.f1
     replace H := H.f1
     obtain rfl := Option.some.inj ho419
     refine x_A fun a hf => ⟨v448, c449, x3, x447, x450, x452, rfl, r451, hf.sub ⟨rfl, trivial⟩, H⟩
  ·rintro a wd470 ⟨v414, c415, x412, x413, x416, x418, rfl, r417, hf, H⟩
   try dsimp only at ho361
   refine XX.at hf <| x_block ?_
   replace H := H.f1
   replace H := H.f1
   obtain rfl := Option.some.inj ho361
   refine x_A fun a hf => ⟨v414, c415, x412, x413, x416, x418, rfl, r417, hf.sub ⟨rfl, trivial⟩, H⟩
 ·rintro a wd471 ⟨v356, c357, x354, x355, x358, x360, rfl, r359, hf, H⟩
  try dsimp only at hF
  refine XX.at hf <| x_then <| C_seq <| R_nd <| nq (Q_move rfl) rfl rfl <| nq (Q_assign rfl) rfl rfl <| WL_nil <| x_then <| C_ret ?_
  replace H := H.f1
  replace H := H.f1
  obtain rfl := Option.some.inj hF
  exact fn_ret (l := [.tmp 6]) (vs := [errV errIds gV x360]) rfl rfl rfl ⟨v356, c357, x354, x355, x358, x360, rfl, rfl, r359, H⟩
theorem c_16 {N : Nat} {C : Cx} {w : World} {ρ : View} {hs : List Hl} (H : Hp C w ρ (hs)) {gV : Nat → Value} (gle : GErrs ρ 137 errIds gV) {r : (Int × Int × Int × (List Int) × Int)} (hF : F_script_Parse N = some r) :
  Calls Tryd.prog 16 [.string (⟨#[102, 101, 101, 100, 32, 48, 32, 97, 97, 98]⟩ : ByteArray)].toArray w (Rets (fun v w' => (∃ (ρ' : View) (v306 : Value) (c307 : (List Value)) (x303 : Int) (x304 : Int) (x305 : Int) (x308 : (List Int)) (x310 : Int), (x303, x304, x305, x308, x310) = r ∧ .tuple [.agg #[.int .i64 x303, .int .i64 x304, .int .i64 x305, v306], errV errIds gV x310].toArray = v ∧ View.le ρ ρ' ∧ rdL (eI .u8) ρ' x308 c307 ∧ Hp C w' ρ' (Arr v306 1 c307 :: hs)))) := by
 unfold F_script_Parse at hF
 have h0 : Tryd.f16.body = some _ := rfl
 refine fn_calls' Tryd.func16 h0 (n := 79) rfl (by simp) <| C_seq <| R_nd <| ne (E_alloc H ty43 (zs := [.int .i64 0, .int .i64 0, .int .i64 0, .slice none 0 0]) rfl) rfl rfl ?_
 rintro _ wd312 ⟨b311, rfl, H⟩
 refine nq (Q_assign rfl) rfl rfl <| WL_nil <| x_then <| C_seq <| R_nd <| nq (Q_move rfl) rfl rfl ?_
 obtain ⟨q313, hq313, hF⟩ := bnd hF
 refine ne (E_call fn29 rfl (c_29 H gle   hq313)) rfl rfl ?_
 rintro _ wd319 ⟨v315, c316, x317, rfl, rfl, r318, H⟩
 try dsimp only at hF
 refine ne (E_alloc H ty32 (zs := [.slice none 0 0]) rfl) rfl rfl ?_
 rintro _ wd321 ⟨b320, rfl, H⟩
 refine ne (E_stB (k := 0) (cs := [v315]) (vs' := [v315]) H rfl ty32 rfl rfl (arr_cells (H.ok.get (k := 1) rfl)).1 rfl (one_cons (arr_cells (H.ok.get (k := 1) rfl)).2 one_nil) (by simp) rfl) rfl rfl ?_
 rintro _ wd322 H
 dsimp only [List.set] at H
 refine WL_nil <| x_then <| C_seq <| R_nd ?_
 obtain ⟨q323, hq323, hF⟩ := bnd hF
 refine ne (E_call fn30 rfl (c_30 H gle   hq323)) rfl rfl ?_
 rintro _ wd328 ⟨v325, c326, rfl, rfl, r327, H⟩
 try dsimp only at hF
 refine nq (Q_assign rfl) rfl rfl <| WL_nil <| x_then <| C_seq <| R_nd <| nq (Q_move rfl) rfl rfl <| nq (v := .func (.func 32) #[] [.pointer (some ⟨b320, 0, none⟩)].toArray) (Q_func rfl) rfl rfl ?_
 replace H := H.f2
 replace H := H.f2
 obtain ⟨q329, hq329, hF⟩ := bnd hF
 obtain ⟨C', ρ', hl330, HA, hL, hback⟩ := Hp.lend (A := [Box b320 [v315], Arr v315 1 c316]) (L := [Arr v325 3 c326]) (F := Box b311 [.int .i64 0, .int .i64 0, .int .i64 0, .slice none 0 0] :: hs) H
 refine ne (E_call fn31 rfl (c_31 HA (gle.up hl330)  (arr_rd (by decide) hl330 (hL (Arr v325 3 c326) (by simp)) r327) (r318.up hl330) hq329)) rfl rfl ?_
 rintro _ wd332 ⟨x331, rfl, rfl, H⟩
 try dsimp only at hF
 replace H := hback H
 dsimp only [List.cons_append, List.nil_append] at H
 refine nq (Q_assign rfl) rfl rfl <| WL_nil <| x_then <| C_seq <| C_block <| C_seq <| R_nd <| nq (Q_move rfl) rfl rfl <| nq (Q_lss rfl rfl) rfl rfl <| nq (Q_assign rfl) rfl rfl <| WL_nil <| x_then ?_
 refine C_cond rfl (fun hb => ?_) (fun hb => ?_)
 ·replace hF := itT hb hF
  obtain ⟨o334, ho334, hF⟩ := bnd hF
  refine C_cut (fun a w' => Fr 79 a [(2, .pointer (some ⟨b311, 0, none⟩)), (3, errV errIds gV 5)] ∧ Hp C w' ρ (Box b311 [.int .i64 0, .int .i64 0, .int .i64 0, .slice none 0 0] :: hs)) ?_ ?_
  ·refine R_dr (.take 0 (.take 1 (.one 2 (.take 3 .done)))) (fun w' => Ok w' ρ [Box b320 [v315], Arr v315 1 c316, Arr v325 3 c326, Box b311 [.int .i64 0, .int .i64 0, .int .i64 0, .slice none 0 0]]) (by kernel_rfl) (by kernel_rfl) (by kernel_rfl) (H.drew.okS (by simp)) ?_
   replace H := H.drew
   refine dq (v := .agg #[.int .i64 0, .int .i64 0, .int .i64 0, .slice none 0 0]) rfl (fun _ _ => Q_buildS st43.choose_spec (ps := []) rfl trivial rfl) rfl rfl <| dq (v := errV errIds gV 5) rfl (fun _ hw => Q_ldV hw gle (by decide) ty25) rfl rfl ?_
   refine d1 (de rfl (E_stB (k := 3) (cs := [.int .i64 0, .int .i64 0, .int .i64 0, .slice none 0 0]) (vs' := [.int .i64 0, .int .i64 0, .int .i64 0, .slice none 0 0]) H rfl ty43 rfl rfl rfl rfl (one_cons rfl (one_cons rfl (one_cons rfl (one_cons rfl one_nil)))) (by simp) rfl) rfl rfl ?_)
   rintro _ wd335 H
   dsimp only [List.set] at H
   refine ⟨H.okS (by simp), ?_⟩
   refine dq rfl (fun _ _ => Q_assign rfl) rfl rfl <| DL_nil ?_
   replace H := H.f3
   replace H := H.drop 1 rfl
   dsimp only [List.eraseIdx] at H
   replace H := H.drop 1 rfl
   dsimp only [List.eraseIdx] at H
   replace H := H.drop 1 rfl
   dsimp only [List.eraseIdx] at H
   obtain rfl := Option.some.inj ho334
   refine x_A fun a hf => ⟨hf.sub ⟨rfl, rfl, trivial⟩, H⟩
  ·rintro a wd336 ⟨hf, H⟩
   try dsimp only at hF
   refine CW.at hf <| C_ret <| x_block_ret <| x_then_ret ?_
   have H := H.nilArr 1
   have hRV : RV Tryd.prog wd336 [(2, .pointer (some ⟨b311, 0, none⟩)), (3, errV errIds gV 5)] [.cell 2 43, .tmp 3] [.agg #[.int .i64 0, .int .i64 0, .int .i64 0, (.slice none 0 0)], errV errIds gV 5] := ⟨⟨_, rfl, run_ldv ty43 rfl (fun h => nomatch h) (box_at (H.ok.get (k := 1) rfl) 0 4)⟩, rfl, trivial⟩
   replace H := H.drop 1 rfl
   dsimp only [List.eraseIdx] at H
   obtain rfl := Option.some.inj hF
   exact fn_retV (rs := [.cell 2 43, .tmp 3]) (vs := [.agg #[.int .i64 0, .int .i64 0, .int .i64 0, (.slice none 0 0)], errV errIds gV 5]) rfl hRV ⟨ρ, (.slice none 0 0), [], 0, 0, 0, [], 5, rfl, rfl, (View.le_refl _), rdL.nil, H⟩
 ·replace hF := itF hb hF
  refine C_seq <| R_dr (.take 0 (.take 1 (.take 2 (.take 3 (.take 4 (.take 5 (.take 6 (.take 7 (.take 8 (.take 9 (.take 10 .done))))))))))) (fun w' => Ok w' ρ [Box b320 [v315], Arr v315 1 c316, Arr v325 3 c326, Box b311 [.int .i64 0, .int .i64 0, .int .i64 0, .slice none 0 0]]) (by kernel_rfl) (by kernel_rfl) (by kernel_rfl) (H.drew.okS (by simp)) ?_
  replace H := H.drew
  refine dq (v := v315) rfl (fun _ hw => Q_ldB (k := 0) (cs := [v315]) hw rfl ty32 rfl rfl rfl (fun _ => rfl) rfl) rfl rfl <| dq rfl (fun _ hw => Q_lenA (k := 1) hw rfl r318 (by decide) Tryd.underlying32 rfl) rfl rfl <| dq rfl (fun _ _ => Q_sub rfl rfl) rfl rfl <| dq rfl (fun _ _ => Q_move rfl) rfl rfl <| dq rfl (fun _ _ => Q_move rfl) rfl rfl ?_
  obtain ⟨x337, hx337, hF⟩ := bnd hF
  obtain ⟨b338, o339, hi343, hc341, ha342⟩ := arr_at (hs := [Arr v325 3 c326]) (k := 0) (by decide) (H.okS (by simp)) rfl r327 hx337
  refine dq rfl (fun _ _ => Q_idx hi343 Tryd.underlying71 ty75 rfl rfl) rfl rfl <| dq (v := .pointer (some ⟨b338, o339 + 2, none⟩)) rfl (fun _ _ => Q_fld Tryd.underlying75 rfl ty9 (by decide) rfl (Addr.add_none _ _ _)) rfl rfl ?_
  obtain ⟨c344, hc345, ha346⟩ := sndO hc341 ha342
  obtain ⟨c347, hc348, ha349⟩ := sndO hc345 ha346
  refine dq (v := .string x337.2.2) rfl (fun _ hw => Q_ld (show cellsAt _ _ _ [.string x337.2.2] from (show _ = [_] from hc348) ▸ (ha349 _ (Ok.subS (by simp) hw))) ty9 rfl (fun _ => rfl) rfl rfl) rfl rfl <| dq rfl (fun _ _ => Q_lenStr Tryd.underlying9 rfl) rfl rfl <| dq rfl (fun _ _ => Q_lss rfl rfl) rfl rfl <| dq rfl (fun _ _ => Q_assign rfl) rfl rfl <| DL_nil <| x_then ?_
  refine C_cond rfl (fun hb => ?_) (fun hb => ?_)
  ·replace hF := itT hb hF
   obtain ⟨o351, ho351, hF⟩ := bnd hF
   refine C_cut (fun a w' => Fr 79 a [(2, .pointer (some ⟨b311, 0, none⟩)), (3, errV errIds gV 3)] ∧ Hp C w' ρ (Box b311 [.int .i64 0, .int .i64 0, .int .i64 0, .slice none 0 0] :: hs)) ?_ ?_
   ·refine R_dr (.take 0 (.take 1 (.one 2 (.take 3 .done)))) (fun w' => Ok w' ρ [Box b320 [v315], Arr v315 1 c316, Arr v325 3 c326, Box b311 [.int .i64 0, .int .i64 0, .int .i64 0, .slice none 0 0]]) (by kernel_rfl) (by kernel_rfl) (by kernel_rfl) (H.drew.okS (by simp)) ?_
    replace H := H.drew
    refine dq (v := .agg #[.int .i64 0, .int .i64 0, .int .i64 0, .slice none 0 0]) rfl (fun _ _ => Q_buildS st43.choose_spec (ps := []) rfl trivial rfl) rfl rfl <| dq (v := errV errIds gV 3) rfl (fun _ hw => Q_ldV hw gle (by decide) ty25) rfl rfl ?_
    refine d1 (de rfl (E_stB (k := 3) (cs := [.int .i64 0, .int .i64 0, .int .i64 0, .slice none 0 0]) (vs' := [.int .i64 0, .int .i64 0, .int .i64 0, .slice none 0 0]) H rfl ty43 rfl rfl rfl rfl (one_cons rfl (one_cons rfl (one_cons rfl (one_cons rfl one_nil)))) (by simp) rfl) rfl rfl ?_)
    rintro _ wd352 H
    dsimp only [List.set] at H
    refine ⟨H.okS (by simp), ?_⟩
    refine dq rfl (fun _ _ => Q_assign rfl) rfl rfl <| DL_nil ?_
    replace H := H.f3
    replace H := H.drop 1 rfl
    dsimp only [List.eraseIdx] at H
    replace H := H.drop 1 rfl
    dsimp only [List.eraseIdx] at H
    replace H := H.drop 1 rfl
    dsimp only [List.eraseIdx] at H
    obtain rfl := Option.some.inj ho351
    refine x_A fun a hf => ⟨hf.sub ⟨rfl, rfl, trivial⟩, H⟩
   ·rintro a wd353 ⟨hf, H⟩
    try dsimp only at hF
    refine CW.at hf <| C_ret <| x_block_ret <| x_then_ret ?_
    have H := H.nilArr 1
    have hRV : RV Tryd.prog wd353 [(2, .pointer (some ⟨b311, 0, none⟩)), (3, errV errIds gV 3)] [.cell 2 43, .tmp 3] [.agg #[.int .i64 0, .int .i64 0, .int .i64 0, (.slice none 0 0)], errV errIds gV 3] := ⟨⟨_, rfl, run_ldv ty43 rfl (fun h => nomatch h) (box_at (H.ok.get (k := 1) rfl) 0 4)⟩, rfl, trivial⟩
    replace H := H.drop 1 rfl
    dsimp only [List.eraseIdx] at H
    obtain rfl := Option.some.inj hF
    exact fn_retV (rs := [.cell 2 43, .tmp 3]) (vs := [.agg #[.int .i64 0, .int .i64 0, .int .i64 0, (.slice none 0 0)], errV errIds gV 3]) rfl hRV ⟨ρ, (.slice none 0 0), [], 0, 0, 0, [], 3, rfl, rfl, (View.le_refl _), rdL.nil, H⟩
  ·replace hF := itF hb hF
   refine C_seq <| R_dr (.take 0 (.take 1 (.take 2 (.take 3 (.take 4 (.take 5 (.take 6 (.take 7 (.take 8 (.take 9 (.take 10 .done))))))))))) (fun w' => Ok w' ρ [Box b320 [v315], Arr v315 1 c316, Arr v325 3 c326, Box b311 [.int .i64 0, .int .i64 0, .int .i64 0, .slice none 0 0]]) (by kernel_rfl) (by kernel_rfl) (by kernel_rfl) (H.drew.okS (by simp)) ?_
   replace H := H.drew
   refine dq (v := v315) rfl (fun _ hw => Q_ldB (k := 0) (cs := [v315]) hw rfl ty32 rfl rfl rfl (fun _ => rfl) rfl) rfl rfl <| dq rfl (fun _ hw => Q_lenA (k := 1) hw rfl r318 (by decide) Tryd.underlying32 rfl) rfl rfl <| dq rfl (fun _ _ => Q_sub rfl rfl) rfl rfl <| dq rfl (fun _ _ => Q_move rfl) rfl rfl <| dq rfl (fun _ _ => Q_move rfl) rfl rfl ?_
   obtain ⟨x354, hx354, hF⟩ := bnd hF
   obtain ⟨b355, o356, hi360, hc358, ha359⟩ := arr_at (hs := [Arr v325 3 c326]) (k := 0) (by decide) (H.okS (by simp)) rfl r327 hx354
   refine dq rfl (fun _ _ => Q_idx hi360 Tryd.underlying71 ty75 rfl rfl) rfl rfl <| dq (v := .pointer (some ⟨b355, o356 + 2, none⟩)) rfl (fun _ _ => Q_fld Tryd.underlying75 rfl ty9 (by decide) rfl (Addr.add_none _ _ _)) rfl rfl ?_
   obtain ⟨c361, hc362, ha363⟩ := sndO hc358 ha359
   obtain ⟨c364, hc365, ha366⟩ := sndO hc362 ha363
   refine dq (v := .string x354.2.2) rfl (fun _ hw => Q_ld (show cellsAt _ _ _ [.string x354.2.2] from (show _ = [_] from hc365) ▸ (ha366 _ (Ok.subS (by simp) hw))) ty9 rfl (fun _ => rfl) rfl rfl) rfl rfl <| dq rfl (fun _ _ => Q_lenStr Tryd.underlying9 rfl) rfl rfl <| dq rfl (fun _ _ => Q_gtr rfl rfl) rfl rfl <| dq rfl (fun _ _ => Q_assign rfl) rfl rfl <| DL_nil <| x_then ?_
   refine C_cond rfl (fun hb => ?_) (fun hb => ?_)
   ·replace hF := itT hb hF
    obtain ⟨o368, ho368, hF⟩ := bnd hF
    refine C_cut (fun a w' => Fr 79 a [(2, .pointer (some ⟨b311, 0, none⟩)), (3, errV errIds gV 4)] ∧ Hp C w' ρ (Box b311 [.int .i64 0, .int .i64 0, .int .i64 0, .slice none 0 0] :: hs)) ?_ ?_
    ·refine R_dr (.take 0 (.take 1 (.one 2 (.take 3 .done)))) (fun w' => Ok w' ρ [Box b320 [v315], Arr v315 1 c316, Arr v325 3 c326, Box b311 [.int .i64 0, .int .i64 0, .int .i64 0, .slice none 0 0]]) (by kernel_rfl) (by kernel_rfl) (by kernel_rfl) (H.drew.okS (by simp)) ?_
     replace H := H.drew
     refine dq (v := .agg #[.int .i64 0, .int .i64 0, .int .i64 0, .slice none 0 0]) rfl (fun _ _ => Q_buildS st43.choose_spec (ps := []) rfl trivial rfl) rfl rfl <| dq (v := errV errIds gV 4) rfl (fun _ hw => Q_ldV hw gle (by decide) ty25) rfl rfl ?_
     refine d1 (de rfl (E_stB (k := 3) (cs := [.int .i64 0, .int .i64 0, .int .i64 0, .slice none 0 0]) (vs' := [.int .i64 0, .int .i64 0, .int .i64 0, .slice none 0 0]) H rfl ty43 rfl rfl rfl rfl (one_cons rfl (one_cons rfl (one_cons rfl (one_cons rfl one_nil)))) (by simp) rfl) rfl rfl ?_)
     rintro _ wd369 H
     dsimp only [List.set] at H
     refine ⟨H.okS (by simp), ?_⟩
     refine dq rfl (fun _ _ => Q_assign rfl) rfl rfl <| DL_nil ?_
     replace H := H.f3
     replace H := H.drop 1 rfl
     dsimp only [List.eraseIdx] at H
     replace H := H.drop 1 rfl
     dsimp only [List.eraseIdx] at H
     replace H := H.drop 1 rfl
     dsimp only [List.eraseIdx] at H
     obtain rfl := Option.some.inj ho368
     refine x_A fun a hf => ⟨hf.sub ⟨rfl, rfl, trivial⟩, H⟩
    ·rintro a wd370 ⟨hf, H⟩
     try dsimp only at hF
     refine CW.at hf <| C_ret <| x_block_ret <| x_then_ret ?_
     have H := H.nilArr 1
     have hRV : RV Tryd.prog wd370 [(2, .pointer (some ⟨b311, 0, none⟩)), (3, errV errIds gV 4)] [.cell 2 43, .tmp 3] [.agg #[.int .i64 0, .int .i64 0, .int .i64 0, (.slice none 0 0)], errV errIds gV 4] := ⟨⟨_, rfl, run_ldv ty43 rfl (fun h => nomatch h) (box_at (H.ok.get (k := 1) rfl) 0 4)⟩, rfl, trivial⟩
     replace H := H.drop 1 rfl
     dsimp only [List.eraseIdx] at H
     obtain rfl := Option.some.inj hF
     exact fn_retV (rs := [.cell 2 43, .tmp 3]) (vs := [.agg #[.int .i64 0, .int .i64 0, .int .i64 0, (.slice none 0 0)], errV errIds gV 4]) rfl hRV ⟨ρ, (.slice none 0 0), [], 0, 0, 0, [], 4, rfl, rfl, (View.le_refl _), rdL.nil, H⟩
   ·replace hF := itF hb hF
    refine C_skip <| x_block <| x_then <| C_seq <| R_nd <| nq (Q_move rfl) rfl rfl <| nq (Q_move rfl) rfl rfl ?_
    obtain ⟨x371, hx371, hF⟩ := bnd hF
    obtain ⟨b372, o373, hi377, hc375, ha376⟩ := arr_at (hs := [Arr v325 3 c326]) (k := 0) (by decide) (H.okS (by simp)) rfl r327 hx371
    refine nq (Q_idx hi377 Tryd.underlying71 ty75 rfl rfl) rfl rfl <| nq (v := .pointer (some ⟨b372, o373 + 1, none⟩)) (Q_fld Tryd.underlying75 rfl ty3 (by decide) rfl (Addr.add_none _ _ _)) rfl rfl ?_
    obtain ⟨c378, hc379, ha380⟩ := sndO hc375 ha376
    obtain ⟨c381, hc382, ha383⟩ := fstO hc379 ha380
    refine nq (v := .int .i64 x371.2.1) (Q_ld (show cellsAt _ _ _ [.int .i64 x371.2.1] from (show _ = [_] from hc382) ▸ (ha383 _ (Ok.subS (by simp) H.ok))) ty3 rfl (fun _ => rfl) rfl rfl) rfl rfl <| nq (v := .agg #[.int .i64 x371.2.1, .int .i64 0, .int .i64 0, .slice none 0 0]) (Q_buildS st43.choose_spec (ps := [(0, [.int .i64 x371.2.1])]) rfl ⟨rfl, rfl, by simp, trivial⟩ rfl) rfl rfl <| ne (E_alloc H ty43 (zs := [.int .i64 0, .int .i64 0, .int .i64 0, .slice none 0 0]) rfl) rfl rfl ?_
    rintro _ wd385 ⟨b384, rfl, H⟩
    refine ne (E_stB (k := 0) (cs := [.int .i64 x371.2.1, .int .i64 0, .int .i64 0, .slice none 0 0]) (vs' := [.int .i64 x371.2.1, .int .i64 0, .int .i64 0, .slice none 0 0]) H rfl ty43 rfl rfl rfl rfl (one_cons rfl (one_cons rfl (one_cons rfl (one_cons rfl one_nil)))) (by simp) rfl) rfl rfl ?_
    rintro _ wd386 H
    dsimp only [List.set] at H
    refine WL_nil <| x_then <| C_seq <| C_seq <| R_nd <| nq (Q_move rfl) rfl rfl <| nq (Q_move rfl) rfl rfl ?_
    obtain ⟨x387, hx387, hF⟩ := bnd hF
    obtain ⟨b388, o389, hi393, hc391, ha392⟩ := arr_at (hs := [Arr v325 3 c326]) (k := 0) (by decide) (H.okS (by simp)) rfl r327 hx387
    refine nq (Q_idx hi393 Tryd.underlying71 ty75 rfl rfl) rfl rfl <| nq (v := .pointer (some ⟨b388, o389 + 2, none⟩)) (Q_fld Tryd.underlying75 rfl ty9 (by decide) rfl (Addr.add_none _ _ _)) rfl rfl ?_
    obtain ⟨c394, hc395, ha396⟩ := sndO hc391 ha392
    obtain ⟨c397, hc398, ha399⟩ := sndO hc395 ha396
    refine nq (v := .string x387.2.2) (Q_ld (show cellsAt _ _ _ [.string x387.2.2] from (show _ = [_] from hc398) ▸ (ha399 _ (Ok.subS (by simp) H.ok))) ty9 rfl (fun _ => rfl) rfl rfl) rfl rfl <| ne (E_sbytes H Tryd.underlying9 Tryd.underlying34 Tryd.underlying5 rfl) rfl rfl ?_
    rintro v402 wd403 ⟨ρ, lw400, r401, H⟩
    replace r318 := rdL.up lw400 r318
    replace r327 := rdL.up lw400 r327
    replace hc391 := Enc.up _ lw400 hc391
    replace ha392 := fun w ok => ha392 w (Ok.low lw400 ok)
    replace gle := GErrs.up lw400 gle
    refine nq (Q_len Tryd.underlying34 rfl r401) rfl rfl <| nq (Q_move rfl) rfl rfl <| WL_nil <| x_then ?_
    obtain ⟨o510, ho510, hF⟩ := bnd hF
    refine C_cutQ (fun a w' => ∃ (v506 : Value) (c507 : (List Value)) (x504 : Int) (x505 : Int) (x508 : (List Int)), .inl (x504, x505, x508) = o510 ∧ rdL (eI .u8) ρ x508 c507 ∧ Fr 79 a [(2, .pointer (some ⟨b311, 0, none⟩)), (7, .pointer (some ⟨b384, 0, none⟩))] ∧ Hp C w' ρ (Box b311 [.int .i64 0, .int .i64 0, .int .i64 0, .slice none 0 0] :: Box b384 [.int .i64 x371.2.1, .int .i64 x504, .int .i64 x505, v506] :: Arr v506 1 c507 :: hs)) ?_ ?_
    ·refine C_block ?_
     have H := H.nilArr 1
     replace H := H.f1
     replace H := H.f3
     replace H := H.f3
     replace H := H.f5
     replace H := H.drop 5 rfl
     dsimp only [List.eraseIdx] at H
     refine C_iter (f := fun s => F_script_Parse_l0 N x317 x371 x387 s.1 s.2.1 s.2.2.1 s.2.2.2) ho510 (fun s a w' => ∃ (v546 : Value) (c547 : (List Value)) (x543 : Int) (x544 : Int) (x545 : Int) (x548 : (List Int)), (x543, x544, x545, x548) = s ∧ rdL (eI .u8) ρ x548 c547 ∧ Fr 79 a [(2, .pointer (some ⟨b311, 0, none⟩)), (4, .pointer (some ⟨b320, 0, none⟩)), (7, .pointer (some ⟨b384, 0, none⟩)), (59, v402), (60, .int .i64 ((sby x387.2.2).length : Int)), (61, .int .i64 x543)] ∧ Hp C w' ρ (Box b311 [.int .i64 0, .int .i64 0, .int .i64 0, .slice none 0 0] :: Box b320 [v315] :: Arr v315 1 c316 :: Box b384 [.int .i64 x371.2.1, .int .i64 x544, .int .i64 x545, v546] :: Arr v546 1 c547 :: hs)) ?_ ?_
     ·exact fun a hf => ⟨(.slice none 0 0), [], 0, 0, 0, [], rfl, rdL.nil, hf.sub ⟨rfl, rfl, rfl, rfl, rfl, rfl, trivial⟩, H⟩
     ·rintro s o582 a wd585 ⟨v546, c547, x543, x544, x545, x548, rfl, r549, hf, H⟩ hB583 hO584
      replace hB583 : F_script_Parse_l0 N x317 x371 x387 x543 x544 x545 x548 = some o582 := hB583
      unfold F_script_Parse_l0 at hB583
      refine CW.at hf <| C_seq <| R_nd <| nq (Q_lss rfl rfl) rfl rfl <| WL_nil <| x_then <| C_seq ?_
      refine C_cond rfl (fun hb => ?_) (fun hb => ?_)
      ·replace hB583 := itT hb hB583
       refine C_skip <| x_then <| C_seq <| C_block <| C_seq <| R_nd <| nq (Q_move rfl) rfl rfl ?_
       obtain ⟨x586, hx586, hB583⟩ := bnd hB583
       obtain ⟨b587, o588, c589, hc590, ha591, hi592⟩ := idxR r401 hx586
       refine nq (Q_idx hi592 Tryd.underlying34 ty5 rfl rfl) rfl rfl <| nq (v := .int .u8 x586) (Q_ld (show cellsAt _ _ _ [.int .u8 x586] from (show _ = [_] from hc590) ▸ (ha591.up H.ok.view)) ty5 rfl (fun _ => rfl) rfl rfl) rfl rfl <| nq (Q_assign rfl) rfl rfl <| nq (Q_assign rfl) rfl rfl <| WL_nil <| x_then <| C_seq <| R_nd <| nq (Q_move rfl) rfl rfl <| nq (v := v315) (Q_ldB (k := 1) (cs := [v315]) H.ok rfl ty32 rfl rfl rfl (fun _ => rfl) rfl) rfl rfl <| nq (Q_move rfl) rfl rfl <| nq (Q_add rfl rfl) rfl rfl ?_
       obtain ⟨x593, hx593, hB583⟩ := bnd hB583
       obtain ⟨b594, o595, hi599, hc597, ha598⟩ := arr_at (hs := [Arr v315 1 c316]) (k := 0) (by decide) (H.okS (by simp)) rfl r318 hx593
       refine nq (Q_idx hi599 Tryd.underlying32 ty9 rfl rfl) rfl rfl <| nq (v := .string x593) (Q_ld (show cellsAt _ _ _ [.string x593] from (show _ = [_] from hc597) ▸ (ha598 _ (Ok.subS (by simp) H.ok))) ty9 rfl (fun _ => rfl) rfl rfl) rfl rfl ?_
       replace H := H.f4
       replace H := H.f4
       obtain ⟨q600, hq600, hB583⟩ := bnd hB583
       refine ne (E_call fn33 rfl (c_33_1 H gle  r549 hq600)) rfl rfl ?_
       rintro _ wd609 ⟨v602, c603, x604, x605, x606, x607, rfl, rfl, r608, H⟩
       try dsimp only at hB583
       refine nq (Q_assign rfl) rfl rfl <| WL_nil <| x_then <| C_seq <| R_nd <| nq (Q_move rfl) rfl rfl <| nq (v := .bool (eOk errIds x607)) (Q_neqV Tryd.underlying25 gle rfl) rfl rfl <| WL_nil <| x_then ?_
       refine C_cond rfl (fun hb => ?_) (fun hb => ?_)
       ·replace hB583 := itT hb hB583
        refine C_seq <| R_nd <| nq (v := .agg #[.int .i64 0, .int .i64 0, .int .i64 0, .slice none 0 0]) (Q_buildS st43.choose_spec (ps := []) rfl trivial rfl) rfl rfl <| nq (Q_move rfl) rfl rfl <| ne (E_stB (k := 2) (cs := [.int .i64 0, .int .i64 0, .int .i64 0, .slice none 0 0]) (vs' := [.int .i64 0, .int .i64 0, .int .i64 0, .slice none 0 0]) H rfl ty43 rfl rfl rfl rfl (one_cons rfl (one_cons rfl (one_cons rfl (one_cons rfl one_nil)))) (by simp) rfl) rfl rfl ?_
        rintro _ wd610 H
        dsimp only [List.set] at H
        refine nq (Q_assign rfl) rfl rfl <| WL_nil <| x_then <| C_ret <| x_block_ret <| x_then_ret <| x_then_ret <| x_block_ret <| x_then_ret <| x_then_ret ?_
        have H := H.nilArr 1
        have hRV : RV Tryd.prog wd610 [(2, .pointer (some ⟨b311, 0, none⟩)), (3, errV errIds gV x607)] [.cell 2 43, .tmp 3] [.agg #[.int .i64 0, .int .i64 0, .int .i64 0, (.slice none 0 0)], errV errIds gV x607] := ⟨⟨_, rfl, run_ldv ty43 rfl (fun h => nomatch h) (box_at (H.ok.get (k := 3) rfl) 0 4)⟩, rfl, trivial⟩
        replace H := H.drop 1 rfl
        dsimp only [List.eraseIdx] at H
        replace H := H.drop 1 rfl
        dsimp only [List.eraseIdx] at H
        replace H := H.drop 1 rfl
        dsimp only [List.eraseIdx] at H
        replace H := H.drop 1 rfl
        dsimp only [List.eraseIdx] at H
        replace H := H.drop 1 rfl
        dsimp only [List.eraseIdx] at H
        obtain rfl := Option.some.inj hB583
        obtain rfl := hO584 _ rfl
        obtain rfl := Option.some.inj (show some _ = some _ from hF)
        exact fn_retV (rs := [.cell 2 43, .tmp 3]) (vs := [.agg #[.int .i64 0, .int .i64 0, .int .i64 0, (.slice none 0 0)], errV errIds gV x607]) rfl hRV ⟨ρ, (.slice none 0 0), [], 0, 0, 0, [], x607, rfl, rfl, lw400, rdL.nil, H⟩
       ·replace hB583 := itF hb hB583
        refine C_skip <| x_block <| x_then <| R_nd <| nq (Q_add rfl rfl) rfl rfl <| nq (Q_move rfl) rfl rfl <| WL_nil ?_
        replace H := H.f1
        replace H := H.f1
        replace H := H.f4
        replace H := H.f4
        replace H := H.f4
        obtain rfl := Option.some.inj hB583
        refine x_A fun a hf => ⟨_, rfl, v602, c603, w64 (x543 + 1), x604, x605, x606, rfl, r608, hf.sub ⟨rfl, rfl, rfl, rfl, rfl, rfl, trivial⟩, H⟩
      ·replace hB583 := itF hb hB583
       refine C_exit <| x_then_exit <| x_then_exit <| x_block_exit ?_
       replace H := H.f4
       replace H := H.f4
       replace H := H.f2
       replace H := H.drop 3 rfl
       dsimp only [List.eraseIdx] at H
       replace H := H.drop 3 rfl
       dsimp only [List.eraseIdx] at H
       obtain rfl := Option.some.inj hB583
       obtain rfl := hO584 _ rfl
       refine x_A fun a hf => ⟨v546, c547, x544, x545, x548, rfl, r549, hf.sub ⟨rfl, rfl, trivial⟩, H⟩
    ·rintro a wd611 ⟨v506, c507, x504, x505, x508, rfl, r509, hf, H⟩
     try dsimp only at hF
     refine XX.at hf <| x_then <| C_seq <| R_nd <| nq (v := .agg #[.int .i64 x371.2.1, .int .i64 x504, .int .i64 x505, v506]) (Q_ldB (k := 1) (cs := [.int .i64 x371.2.1, .int .i64 x504, .int .i64 x505, v506]) H.ok rfl ty43 rfl rfl rfl (fun h => nomatch h) rfl) rfl rfl <| ne (E_stB (k := 0) (cs := [.int .i64 x371.2.1, .int .i64 x504, .int .i64 x505, v506]) (vs' := [.int .i64 x371.2.1, .int .i64 x504, .int .i64 x505, v506]) H rfl ty43 rfl rfl rfl rfl (one_cons rfl (one_cons rfl (one_cons rfl (one_cons (arr_cells (H.ok.get (k := 2) rfl)).2 one_nil)))) (by simp) rfl) rfl rfl ?_
     rintro _ wd612 H
     dsimp only [List.set] at H
     refine nq (Q_assign rfl) rfl rfl <| WL_nil <| x_then <| C_ret ?_
     have hRV : RV Tryd.prog wd612 [(2, .pointer (some ⟨b311, 0, none⟩)), (3, .nilIface)] [.cell 2 43, .tmp 3] [.agg #[.int .i64 x371.2.1, .int .i64 x504, .int .i64 x505, v506], errV errIds gV 0] := ⟨⟨_, rfl, run_ldv ty43 rfl (fun h => nomatch h) (box_at (H.ok.get (k := 0) rfl) 0 4)⟩, rfl, trivial⟩
     replace H := H.f2
     replace H := H.drop 1 rfl
     dsimp only [List.eraseIdx] at H
     replace H := H.drop 1 rfl
     dsimp only [List.eraseIdx] at H
     obtain rfl := Option.some.inj hF
     exact fn_retV (rs := [.cell 2 43, .tmp 3]) (vs := [.agg #[.int .i64 x371.2.1, .int .i64 x504, .int .i64 x505, v506], errV errIds gV 0]) rfl hRV ⟨ρ, v506, c507, x371.2.1, x504, x505, x508, 0, rfl, rfl, lw400, r509, H⟩
theorem c_7 {N : Nat} {C : Cx} {w : World} {ρ : View} {hs : List Hl} (H : Hp C w ρ (hs)) {gV : Nat → Value} (gle : GErrs ρ 137 errIds gV) {r : Bool} (hF : F_dofferlaw36_alive N = some r) :
  Calls Tryd.prog 7 [].toArray w (Rets (fun v w' => (∃ (ρ' : View) (x21 : Bool), x21 = r ∧ .bool x21 = v ∧ View.le ρ ρ' ∧ Hp C w' ρ' (hs)))) := by
 unfold F_dofferlaw36_alive at hF
 have h0 : Tryd.f7.body = some _ := rfl
 refine fn_calls' Tryd.func7 h0 (n := 20) rfl (by simp) <| C_seq <| R_nd <| nq (Q_assign rfl) rfl rfl <| WL_nil <| x_then <| C_seq <| R_nd ?_
 obtain ⟨q22, hq22, hF⟩ := bnd hF
 refine ne (E_call fn16 rfl (c_16 H gle   hq22)) rfl rfl ?_
 rintro _ wd33 ⟨ρ, v24, c25, x26, x27, x28, x29, x30, rfl, rfl, lw31, r32, H⟩
 try dsimp only at hF
 replace gle := GErrs.up lw31 gle
 refine nq (Q_move rfl) rfl rfl <| nq (Q_extract rfl rfl) rfl rfl <| nq (Q_extract rfl rfl) rfl rfl <| ne (E_alloc H ty43 (zs := [.int .i64 0, .int .i64 0, .int .i64 0, .slice none 0 0]) rfl) rfl rfl ?_
 rintro _ wd35 ⟨b34, rfl, H⟩
 refine ne (E_stB (k := 0) (cs := [.int .i64 x26, .int .i64 x27, .int .i64 x28, v24]) (vs' := [.int .i64 x26, .int .i64 x27, .int .i64 x28, v24]) H rfl ty43 rfl rfl rfl rfl (one_cons rfl (one_cons rfl (one_cons rfl (one_cons (arr_cells (H.ok.get (k := 1) rfl)).2 one_nil)))) (by simp) rfl) rfl rfl ?_
 rintro _ wd36 H
 dsimp only [List.set] at H
 refine nq (Q_assign rfl) rfl rfl <| WL_nil <| x_then ?_
 obtain ⟨o39, ho39, hF⟩ := bnd hF
 refine C_cut (fun a w' => ∃ (x38 : Bool), x38 = o39 ∧ Fr 20 a [(0, .bool x38)] ∧ Hp C w' ρ (hs)) ?_ ?_
 ·refine R_nd <| nq (Q_move rfl) rfl rfl <| nq (v := .bool (!(eOk errIds x30))) (Q_eqlV Tryd.underlying25 gle rfl) rfl rfl <| nq (Q_move rfl) rfl rfl ?_
  rcases Bool.eq_false_or_eq_true (!(eOk errIds x30)) with hb | hb
  ·rw [hb]
   replace ho39 := itT hb ho39
   refine gq (v := .pointer (some ⟨b34, 0, none⟩)) (Q_fld Tryd.underlying43 rfl ty3 (by decide) rfl rfl) rfl rfl rfl <| gq (v := .int .i64 x26) (Q_ldB (k := 0) (cs := [.int .i64 x26]) H.ok rfl ty3 rfl rfl rfl (fun _ => rfl) rfl) rfl rfl rfl <| gq (Q_eql rfl rfl) rfl rfl rfl <| nq (Q_pickT rfl rfl) rfl rfl <| nq (Q_move rfl) rfl rfl ?_
   rcases Bool.eq_false_or_eq_true (x26 == 2) with hb | hb
   ·rw [hb]
    replace ho39 := itT hb ho39
    refine gq (v := .pointer (some ⟨b34, 3, none⟩)) (Q_fld Tryd.underlying43 rfl ty34 (by decide) rfl rfl) rfl rfl rfl <| gq (v := v24) (Q_ldB (k := 0) (cs := [v24]) H.ok rfl ty34 rfl rfl rfl (fun _ => rfl) rfl) rfl rfl rfl <| ge (E_bstrA (k := 1) H rfl r32 Tryd.underlying34 Tryd.underlying5 Tryd.underlying9 rfl) rfl rfl rfl ?_
    rintro _ wd40 ⟨rfl, rfl⟩
    refine gq (v := .bool ((bstr x29).toList == (⟨#[97, 97, 98]⟩ : ByteArray).toList)) (Q_eqlStr Tryd.underlying9 rfl rfl) rfl rfl rfl <| nq (Q_pickT rfl rfl) rfl rfl <| nq (Q_assign rfl) rfl rfl <| WL_nil ?_
    replace H := H.drop 0 rfl
    dsimp only [List.eraseIdx] at H
    replace H := H.drop 0 rfl
    dsimp only [List.eraseIdx] at H
    obtain rfl := Option.some.inj ho39
    refine x_A fun a hf => ⟨(bstr x29).toList == (⟨#[97, 97, 98]⟩ : ByteArray).toList, rfl, hf.sub ⟨rfl, trivial⟩, H⟩
   ·rw [hb]
    replace ho39 := itF hb ho39
    refine gs rfl rfl rfl rfl <| gs rfl rfl rfl rfl <| gs rfl rfl rfl rfl <| gs rfl rfl rfl rfl <| nq (Q_pickF rfl rfl) rfl rfl <| nq (Q_assign rfl) rfl rfl <| WL_nil ?_
    replace H := H.drop 0 rfl
    dsimp only [List.eraseIdx] at H
    replace H := H.drop 0 rfl
    dsimp only [List.eraseIdx] at H
    obtain rfl := Option.some.inj ho39
    refine x_A fun a hf => ⟨false, rfl, hf.sub ⟨rfl, trivial⟩, H⟩
  ·rw [hb]
   replace ho39 := itF hb ho39
   refine gs rfl rfl rfl rfl <| gs rfl rfl rfl rfl <| gs rfl rfl rfl rfl <| nq (Q_pickF rfl rfl) rfl rfl <| nq (Q_move rfl) rfl rfl <| gs rfl rfl rfl rfl <| gs rfl rfl rfl rfl <| gs rfl rfl rfl rfl <| gs rfl rfl rfl rfl <| nq (Q_pickF rfl rfl) rfl rfl <| nq (Q_assign rfl) rfl rfl <| WL_nil ?_
   replace H := H.drop 0 rfl
   dsimp only [List.eraseIdx] at H
   replace H := H.drop 0 rfl
   dsimp only [List.eraseIdx] at H
   obtain rfl := Option.some.inj ho39
   refine x_A fun a hf => ⟨false, rfl, hf.sub ⟨rfl, trivial⟩, H⟩
 ·rintro a wd41 ⟨x38, rfl, hf, H⟩
  try dsimp only at hF
  refine CW.at hf <| C_ret ?_
  obtain rfl := Option.some.inj hF
  exact fn_ret (l := [.tmp 0]) (vs := [.bool x38]) rfl rfl rfl ⟨ρ, x38, rfl, rfl, lw31, H⟩
theorem c_10 {N : Nat} {C : Cx} {w : World} {ρ : View} {hs : List Hl} {x1 : ByteArray} (H : Hp C w ρ (hs)) {gV : Nat → Value} (_gle : GErrs ρ 137 errIds gV) {r : (Int × Bool)} (hF : F_dofferref36_Number N x1 = some r) :
  Calls Tryd.prog 10 [.string x1].toArray w (Rets (fun v w' => (∃ (x87 : Int) (x88 : Bool), (x87, x88) = r ∧ .tuple [.int .i64 x87, .bool x88].toArray = v ∧ Hp C w' ρ (hs)))) := by
 unfold F_dofferref36_Number at hF
 have h0 : Tryd.f10.body = some _ := rfl
 refine fn_calls' Tryd.func10 h0 (n := 69) rfl (by simp) <| C_seq <| R_nd <| nq (Q_assign rfl) rfl rfl <| nq (Q_assign rfl) rfl rfl <| WL_nil <| x_then <| C_seq <| R_nd <| nq (Q_assign rfl) rfl rfl <| nq (Q_assign rfl) rfl rfl <| WL_nil <| x_then <| C_seq ?_
 obtain ⟨o91, ho91, hF⟩ := bnd hF
 refine C_cut (fun a w' => ∃ (x90 : Bool), x90 = o91 ∧ Fr 69 a [(0, .string x1), (4, .int .i64 0), (5, .int .i64 1), (16, .bool x90)] ∧ Hp C w' ρ (hs)) ?_ ?_
 ·refine R_nd <| nq (Q_move rfl) rfl rfl <| nq (Q_lenStr Tryd.underlying9 rfl) rfl rfl <| nq (Q_gtr rfl rfl) rfl rfl <| nq (Q_move rfl) rfl rfl ?_
  rcases Bool.eq_false_or_eq_true (decide ((x1.size : Int) > 0)) with hb | hb
  ·rw [hb]
   replace ho91 := itT hb ho91
   refine gq (Q_move rfl) rfl rfl rfl ?_
   obtain ⟨x92, hx92, ho91⟩ := bnd ho91
   refine gq (Q_ixS hx92 Tryd.underlying9 rfl rfl) rfl rfl rfl <| gq (Q_eql rfl rfl) rfl rfl rfl <| nq (Q_pickT rfl rfl) rfl rfl <| WL_nil ?_
   obtain rfl := Option.some.inj ho91
   refine x_A fun a hf => ⟨x92 == 45, rfl, hf.sub ⟨rfl, rfl, rfl, rfl, trivial⟩, H⟩
  ·rw [hb]
   replace ho91 := itF hb ho91
   refine gs rfl rfl rfl rfl <| gs rfl rfl rfl rfl <| gs rfl rfl rfl rfl <| nq (Q_pickF rfl rfl) rfl rfl <| WL_nil ?_
   obtain rfl := Option.some.inj ho91
   refine x_A fun a hf => ⟨false, rfl, hf.sub ⟨rfl, rfl, rfl, rfl, trivial⟩, H⟩
 ·rintro a wd93 ⟨x90, rfl, hf, H⟩
  try dsimp only at hF
  refine CW.at hf ?_
  obtain ⟨o96, ho96, hF⟩ := bnd hF
  refine C_cutQ (fun a w' => ∃ (x94 : Int) (x95 : Int), (x94, x95) = o96 ∧ Fr 69 a [(0, .string x1), (4, .int .i64 x94), (5, .int .i64 x95)] ∧ Hp C w' ρ (hs)) ?_ ?_
  ·refine C_cond rfl (fun hb => ?_) (fun hb => ?_)
   ·replace ho96 := itT hb ho96
    refine R_nd <| nq (Q_assign rfl) rfl rfl <| nq (Q_assign rfl) rfl rfl <| WL_nil ?_
    obtain rfl := Option.some.inj ho96
    refine x_A fun a hf => ⟨1, (-1), rfl, hf.sub ⟨rfl, rfl, rfl, trivial⟩, H⟩
   ·replace ho96 := itF hb ho96
    refine C_skip ?_
    obtain rfl := Option.some.inj ho96
    refine x_A fun a hf => ⟨0, 1, rfl, hf.sub ⟨rfl, rfl, rfl, trivial⟩, H⟩
  ·rintro a wd97 ⟨x94, x95, rfl, hf, H⟩
   try dsimp only at hF
   refine XX.at hf <| x_then <| C_seq <| R_nd <| nq (Q_move rfl) rfl rfl <| nq (Q_lenStr Tryd.underlying9 rfl) rfl rfl <| nq (Q_move rfl) rfl rfl <| nq (Q_sub rfl rfl) rfl rfl <| nq (Q_assign rfl) rfl rfl <| WL_nil <| x_then <| C_seq ?_
   obtain ⟨o100, ho100, hF⟩ := bnd hF
   refine C_cut (fun a w' => ∃ (x99 : Bool), x99 = o100 ∧ Fr 69 a [(0, .string x1), (4, .int .i64 x94), (5, .int .i64 x95), (40, .bool x99)] ∧ Hp C w' ρ (hs)) ?_ ?_
   ·refine R_nd <| nq (Q_move rfl) rfl rfl <| nq (Q_lss rfl rfl) rfl rfl <| nq (Q_move rfl) rfl rfl ?_
    rcases Bool.eq_false_or_eq_true (decide ((w64 ((x1.size : Int) - x94)) < 1)) with hb | hb
    ·rw [hb]
     replace ho100 := itT hb ho100
     refine gs rfl rfl rfl rfl <| gs rfl rfl rfl rfl <| nq (Q_pickT rfl rfl) rfl rfl <| nq (Q_move rfl) rfl rfl <| gs rfl rfl rfl rfl <| gs rfl rfl rfl rfl <| gs rfl rfl rfl rfl <| gs rfl rfl rfl rfl <| gs rfl rfl rfl rfl <| gsu rfl ⟨_, _, rfl, rfl, rfl⟩ rfl <| gsu rfl ⟨_, _, rfl, rfl, rfl⟩ rfl <| gsu rfl ⟨_, _, rfl, rfl, rfl⟩ rfl <| gsu rfl ⟨_, _, rfl, rfl, rfl⟩ rfl <| gsu rfl ⟨_, _, rfl, rfl, rfl⟩ rfl ?_
     refine gsu rfl ⟨_, _, rfl, rfl, rfl⟩ rfl <| gs rfl rfl rfl rfl <| nq (Q_pickT rfl rfl) rfl rfl <| WL_nil ?_
     obtain rfl := Option.some.inj ho100
     refine x_A fun a hf => ⟨true, rfl, hf.sub ⟨rfl, rfl, rfl, rfl, trivial⟩, H⟩
    ·rw [hb]
     replace ho100 := itF hb ho100
     refine gq (Q_move rfl) rfl rfl rfl <| gq (Q_gtr rfl rfl) rfl rfl rfl <| nq (Q_pickF rfl rfl) rfl rfl <| nq (Q_move rfl) rfl rfl ?_
     rcases Bool.eq_false_or_eq_true (decide ((w64 ((x1.size : Int) - x94)) > 9)) with hb | hb
     ·rw [hb]
      replace ho100 := itT hb ho100
      refine gs rfl rfl rfl rfl <| gs rfl rfl rfl rfl <| gs rfl rfl rfl rfl <| gs rfl rfl rfl rfl <| gs rfl rfl rfl rfl <| gsu rfl ⟨_, _, rfl, rfl, rfl⟩ rfl <| gsu rfl ⟨_, _, rfl, rfl, rfl⟩ rfl <| gsu rfl ⟨_, _, rfl, rfl, rfl⟩ rfl <| gsu rfl ⟨_, _, rfl, rfl, rfl⟩ rfl <| gsu rfl ⟨_, _, rfl, rfl, rfl⟩ rfl <| gsu rfl ⟨_, _, rfl, rfl, rfl⟩ rfl <| gs rfl rfl rfl rfl <| nq (Q_pickT rfl rfl) rfl rfl <| WL_nil ?_
      obtain rfl := Option.some.inj ho100
      refine x_A fun a hf => ⟨true, rfl, hf.sub ⟨rfl, rfl, rfl, rfl, trivial⟩, H⟩
     ·rw [hb]
      replace ho100 := itF hb ho100
      refine gq (Q_move rfl) rfl rfl rfl <| gq (Q_move rfl) rfl rfl rfl ?_
      obtain ⟨x101, hx101, ho100⟩ := bnd ho100
      refine gq (Q_ixS hx101 Tryd.underlying9 rfl rfl) rfl rfl rfl <| gq (Q_eql rfl rfl) rfl rfl rfl <| gq (Q_move rfl) rfl rfl rfl ?_
      rcases Bool.eq_false_or_eq_true (x101 == 48) with hb | hb
      ·rw [hb]
       replace ho100 := itT hb ho100
       refine gq (Q_move rfl) rfl rfl rfl <| gq (Q_gtr rfl rfl) rfl rfl rfl <| gq (Q_move rfl) rfl rfl rfl ?_
       rcases Bool.eq_false_or_eq_true (decide ((w64 ((x1.size : Int) - x94)) > 1)) with hb | hb
       ·rw [hb]
        replace ho100 := itT hb ho100
        refine gs rfl rfl rfl rfl <| gs rfl rfl rfl rfl <| gq (Q_pickT rfl rfl) rfl rfl rfl <| gq (Q_pickT rfl rfl) rfl rfl rfl <| nq (Q_pickF rfl rfl) rfl rfl <| WL_nil ?_
        obtain rfl := Option.some.inj ho100
        refine x_A fun a hf => ⟨true, rfl, hf.sub ⟨rfl, rfl, rfl, rfl, trivial⟩, H⟩
       ·rw [hb]
        replace ho100 := itF hb ho100
        refine gq (Q_move rfl) rfl rfl rfl <| gq (Q_lss rfl rfl) rfl rfl rfl <| gq (Q_pickF rfl rfl) rfl rfl rfl <| gq (Q_pickT rfl rfl) rfl rfl rfl <| nq (Q_pickF rfl rfl) rfl rfl <| WL_nil ?_
        obtain rfl := Option.some.inj ho100
        refine x_A fun a hf => ⟨decide (x95 < 0), rfl, hf.sub ⟨rfl, rfl, rfl, rfl, trivial⟩, H⟩
      ·rw [hb]
       replace ho100 := itF hb ho100
       refine gs rfl rfl rfl rfl <| gs rfl rfl rfl rfl <| gs rfl rfl rfl rfl <| gsu rfl ⟨_, _, rfl, rfl, rfl⟩ rfl <| gsu rfl ⟨_, _, rfl, rfl, rfl⟩ rfl <| gs rfl rfl rfl rfl <| gq (Q_pickF rfl rfl) rfl rfl rfl <| nq (Q_pickF rfl rfl) rfl rfl <| WL_nil ?_
       obtain rfl := Option.some.inj ho100
       refine x_A fun a hf => ⟨false, rfl, hf.sub ⟨rfl, rfl, rfl, rfl, trivial⟩, H⟩
   ·rintro a wd102 ⟨x99, rfl, hf, H⟩
    try dsimp only at hF
    refine CW.at hf ?_
    refine C_cond rfl (fun hb => ?_) (fun hb => ?_)
    ·replace hF := itT hb hF
     refine C_seq <| R_nd <| nq (Q_assign rfl) rfl rfl <| nq (Q_assign rfl) rfl rfl <| WL_nil <| x_then <| C_ret <| x_then_ret ?_
     obtain rfl := Option.some.inj hF
     exact fn_ret (l := [.tmp 2, .tmp 3]) (vs := [.int .i64 0, .bool false]) rfl rfl rfl ⟨0, false, rfl, rfl, H⟩
    ·replace hF := itF hb hF
     refine C_skip <| x_then <| C_seq <| R_nd <| nq (Q_assign rfl) rfl rfl <| WL_nil <| x_then <| C_seq <| C_seq <| R_nd <| nq (Q_move rfl) rfl rfl <| nq (Q_assign rfl) rfl rfl <| WL_nil <| x_then ?_
     obtain ⟨o138, ho138, hF⟩ := bnd hF
     refine C_cutQ (fun a w' => ∃ (x137 : Int), .inl x137 = o138 ∧ Fr 69 a [(5, .int .i64 x95), (7, .int .i64 x137)] ∧ Hp C w' ρ (hs)) ?_ ?_
     ·refine C_block ?_
      refine C_iter (f := fun s => F_dofferref36_Number_l0 N x1 s.1 s.2) ho138 (fun s a w' => ∃ (x149 : Int) (x150 : Int), (x149, x150) = s ∧ Fr 69 a [(0, .string x1), (5, .int .i64 x95), (7, .int .i64 x149), (8, .int .i64 x150)] ∧ Hp C w' ρ (hs)) ?_ ?_
      ·exact fun a hf => ⟨0, x94, rfl, hf.sub ⟨rfl, rfl, rfl, rfl, trivial⟩, H⟩
      ·rintro s o161 a wd164 ⟨x149, x150, rfl, hf, H⟩ hB162 hO163
       replace hB162 : F_dofferref36_Number_l0 N x1 x149 x150 = some o161 := hB162
       unfold F_dofferref36_Number_l0 at hB162
       refine CW.at hf <| C_seq <| C_seq <| R_nd <| nq (Q_move rfl) rfl rfl <| nq (Q_move rfl) rfl rfl <| nq (Q_lenStr Tryd.underlying9 rfl) rfl rfl <| nq (Q_lss rfl rfl) rfl rfl <| WL_nil <| x_then ?_
       refine C_cond rfl (fun hb => ?_) (fun hb => ?_)
       ·replace hB162 := itT hb hB162
        refine C_skip <| x_then <| C_seq <| C_block <| C_seq ?_
        obtain ⟨o168, ho168, hB162⟩ := bnd hB162
        refine C_cut (fun a w' => ∃ (x167 : Bool), x167 = o168 ∧ Fr 69 a [(0, .string x1), (5, .int .i64 x95), (7, .int .i64 x149), (8, .int .i64 x150), (57, .bool x167)] ∧ Hp C w' ρ (hs)) ?_ ?_
        ·refine R_nd <| nq (Q_move rfl) rfl rfl <| nq (Q_move rfl) rfl rfl ?_
         obtain ⟨x169, hx169, ho168⟩ := bnd ho168
         refine nq (Q_ixS hx169 Tryd.underlying9 rfl rfl) rfl rfl <| nq (Q_lss rfl rfl) rfl rfl <| nq (Q_move rfl) rfl rfl ?_
         rcases Bool.eq_false_or_eq_true (decide (x169 < 48)) with hb | hb
         ·rw [hb]
          replace ho168 := itT hb ho168
          refine gs rfl rfl rfl rfl <| gs rfl rfl rfl rfl <| gs rfl rfl rfl rfl <| gs rfl rfl rfl rfl <| nq (Q_pickT rfl rfl) rfl rfl <| WL_nil ?_
          obtain rfl := Option.some.inj ho168
          refine x_A fun a hf => ⟨true, rfl, hf.sub ⟨rfl, rfl, rfl, rfl, rfl, trivial⟩, H⟩
         ·rw [hb]
          replace ho168 := itF hb ho168
          refine gq (Q_move rfl) rfl rfl rfl <| gq (Q_move rfl) rfl rfl rfl ?_
          obtain ⟨x170, hx170, ho168⟩ := bnd ho168
          refine gq (Q_ixS hx170 Tryd.underlying9 rfl rfl) rfl rfl rfl <| gq (Q_gtr rfl rfl) rfl rfl rfl <| nq (Q_pickF rfl rfl) rfl rfl <| WL_nil ?_
          obtain rfl := Option.some.inj ho168
          refine x_A fun a hf => ⟨decide (x170 > 57), rfl, hf.sub ⟨rfl, rfl, rfl, rfl, rfl, trivial⟩, H⟩
        ·rintro a wd171 ⟨x167, rfl, hf, H⟩
         try dsimp only at hB162
         refine CW.at hf ?_
         refine C_cond rfl (fun hb => ?_) (fun hb => ?_)
         ·replace hB162 := itT hb hB162
          refine C_seq <| R_nd <| nq (Q_assign rfl) rfl rfl <| nq (Q_assign rfl) rfl rfl <| WL_nil <| x_then <| C_ret <| x_then_ret <| x_block_ret <| x_then_ret <| x_then_ret <| x_block_ret <| x_then_ret <| x_then_ret ?_
          obtain rfl := Option.some.inj hB162
          obtain rfl := hO163 _ rfl
          obtain rfl := Option.some.inj (show some _ = some _ from hF)
          exact fn_ret (l := [.tmp 2, .tmp 3]) (vs := [.int .i64 0, .bool false]) rfl rfl rfl ⟨0, false, rfl, rfl, H⟩
         ·replace hB162 := itF hb hB162
          refine C_skip <| x_then <| R_nd <| nq (Q_move rfl) rfl rfl <| nq (Q_mul rfl rfl) rfl rfl <| nq (Q_move rfl) rfl rfl <| nq (Q_move rfl) rfl rfl ?_
          obtain ⟨x172, hx172, hB162⟩ := bnd hB162
          refine nq (Q_ixS hx172 Tryd.underlying9 rfl rfl) rfl rfl <| nq (Q_cvI ⟨_, Tryd.underlying5⟩ Tryd.underlying3 rfl) rfl rfl <| nq (Q_add rfl rfl) rfl rfl <| nq (Q_sub rfl rfl) rfl rfl <| nq (Q_assign rfl) rfl rfl <| WL_nil <| x_block <| x_then <| R_nd <| nq (Q_move rfl) rfl rfl <| nq (Q_add rfl rfl) rfl rfl <| nq (Q_assign rfl) rfl rfl <| WL_nil ?_
          obtain rfl := Option.some.inj hB162
          refine x_A fun a hf => ⟨_, rfl, w64 ((w64 ((w64 (x149 * 10)) + (IntKind.wrap .i64 x172))) - 48), w64 (x150 + 1), rfl, hf.sub ⟨rfl, rfl, rfl, rfl, trivial⟩, H⟩
       ·replace hB162 := itF hb hB162
        refine C_exit <| x_then_exit <| x_then_exit <| x_block_exit ?_
        obtain rfl := Option.some.inj hB162
        obtain rfl := hO163 _ rfl
        refine x_A fun a hf => ⟨x149, rfl, hf.sub ⟨rfl, rfl, trivial⟩, H⟩
     ·rintro a wd173 ⟨x137, rfl, hf, H⟩
      try dsimp only at hF
      refine XX.at hf <| x_then <| C_seq <| R_nd <| nq (Q_move rfl) rfl rfl <| nq (Q_move rfl) rfl rfl <| nq (Q_mul rfl rfl) rfl rfl <| nq (Q_assign rfl) rfl rfl <| nq (Q_assign rfl) rfl rfl <| WL_nil <| x_then <| C_ret ?_
      obtain rfl := Option.some.inj hF
      exact fn_ret (l := [.tmp 2, .tmp 3]) (vs := [.int .i64 (w64 (x137 * x95)), .bool true]) rfl rfl rfl ⟨w64 (x137 * x95), true, rfl, rfl, H⟩
theorem c_12 {N : Nat} {C : Cx} {w : World} {ρ : View} {hs : List Hl} {x1 : Int} (H : Hp C w ρ (hs)) {gV : Nat → Value} (gle : GErrs ρ 137 errIds gV) {r : Int} (hF : F_doffernum_Num N x1 = some r) :
  Calls Tryd.prog 12 [errV errIds gV x1].toArray w (Rets (fun v w' => (∃ (x74 : Int), x74 = r ∧ .int .i64 x74 = v ∧ Hp C w' ρ (hs)))) := by
 unfold F_doffernum_Num at hF
 have h0 : Tryd.f12.body = some _ := rfl
 refine fn_calls' Tryd.func12 h0 (n := 40) rfl (by simp) <| C_seq <| R_nd <| nq (Q_assign rfl) rfl rfl <| WL_nil <| x_then <| C_seq <| C_seq <| R_nd <| nq (Q_move rfl) rfl rfl <| nq (v := .bool (!(eOk errIds x1))) (Q_eqlV Tryd.underlying25 gle rfl) rfl rfl <| WL_nil <| x_then ?_
 refine C_cond rfl (fun hb => ?_) (fun hb => ?_)
 ·replace hF := itT hb hF
  refine C_seq <| R_nd <| nq (Q_assign rfl) rfl rfl <| WL_nil <| x_then <| C_ret <| x_then_ret ?_
  obtain rfl := Option.some.inj hF
  exact fn_ret (l := [.tmp 2]) (vs := [.int .i64 0]) rfl rfl rfl ⟨0, rfl, rfl, H⟩
 ·replace hF := itF hb hF
  refine C_skip <| x_then <| C_seq <| R_nd <| nq (v := errV errIds gV 2) (Q_ldV H.ok gle (by decide) ty25) rfl rfl <| nq (v := errV errIds gV 3) (Q_ldV H.ok gle (by decide) ty25) rfl rfl <| nq (v := errV errIds gV 4) (Q_ldV H.ok gle (by decide) ty25) rfl rfl <| nq (v := errV errIds gV 1) (Q_ldV H.ok gle (by decide) ty25) rfl rfl <| nq (v := errV errIds gV 5) (Q_ldV H.ok gle (by decide) ty25) rfl rfl <| nq (v := errV errIds gV 6) (Q_ldV H.ok gle (by decide) ty25) rfl rfl <| nq (v := errV errIds gV 7) (Q_ldV H.ok gle (by decide) ty25) rfl rfl <| nq (v := errV errIds gV 8) (Q_ldV H.ok gle (by decide) ty25) rfl rfl <| nq (v := errV errIds gV 9) (Q_ldV H.ok gle (by decide) ty25) rfl rfl <| nq (v := errV errIds gV 10) (Q_ldV H.ok gle (by decide) ty25) rfl rfl ?_
  refine nq (v := errV errIds gV 11) (Q_ldV H.ok gle (by decide) ty25) rfl rfl <| nq (v := errV errIds gV 12) (Q_ldV H.ok gle (by decide) ty25) rfl rfl <| nq (v := errV errIds gV 13) (Q_ldV H.ok gle (by decide) ty25) rfl rfl <| nq (v := errV errIds gV 14) (Q_ldV H.ok gle (by decide) ty25) rfl rfl <| nq (v := errV errIds gV 15) (Q_ldV H.ok gle (by decide) ty25) rfl rfl <| nq (v := errV errIds gV 16) (Q_ldV H.ok gle (by decide) ty25) rfl rfl <| nq (v := errV errIds gV 17) (Q_ldV H.ok gle (by decide) ty25) rfl rfl <| nq (v := errV errIds gV 18) (Q_ldV H.ok gle (by decide) ty25) rfl rfl <| ne (E_bslice (xs := [.tmp 8, .tmp 9, .tmp 10, .tmp 11, .tmp 12, .tmp 13, .tmp 14, .tmp 15, .tmp 16, .tmp 17, .tmp 18, .tmp 19, .tmp 20, .tmp 21, .tmp 22, .tmp 23, .tmp 24, .tmp 25]) (vs := [errV errIds gV 2, errV errIds gV 3, errV errIds gV 4, errV errIds gV 1, errV errIds gV 5, errV errIds gV 6, errV errIds gV 7, errV errIds gV 8, errV errIds gV 9, errV errIds gV 10, errV errIds gV 11, errV errIds gV 12, errV errIds gV 13, errV errIds gV 14, errV errIds gV 15, errV errIds gV 16, errV errIds gV 17, errV errIds gV 18]) H Tryd.underlying60 ty25 (by decide) (cs := [errV errIds gV 2, errV errIds gV 3, errV errIds gV 4, errV errIds gV 1, errV errIds gV 5, errV errIds gV 6, errV errIds gV 7, errV errIds gV 8, errV errIds gV 9, errV errIds gV 10, errV errIds gV 11, errV errIds gV 12, errV errIds gV 13, errV errIds gV 14, errV errIds gV 15, errV errIds gV 16, errV errIds gV 17, errV errIds gV 18]) rfl (sz_cons (by rw [errV_cells gle]; rfl) (sz_cons (by rw [errV_cells gle]; rfl) (sz_cons (by rw [errV_cells gle]; rfl) (sz_cons (by rw [errV_cells gle]; rfl) (sz_cons (by rw [errV_cells gle]; rfl) (sz_cons (by rw [errV_cells gle]; rfl) (sz_cons (by rw [errV_cells gle]; rfl) (sz_cons (by rw [errV_cells gle]; rfl) (sz_cons (by rw [errV_cells gle]; rfl) (sz_cons (by rw [errV_cells gle]; rfl) (sz_cons (by rw [errV_cells gle]; rfl) (sz_cons (by rw [errV_cells gle]; rfl) (sz_cons (by rw [errV_cells gle]; rfl) (sz_cons (by rw [errV_cells gle]; rfl) (sz_cons (by rw [errV_cells gle]; rfl) (sz_cons (by rw [errV_cells gle]; rfl) (sz_cons (by rw [errV_cells gle]; rfl) (sz_cons (by rw [errV_cells gle]; rfl) sz_nil)))))))))))))))))) (by simp [errV_cells gle]) (by simp) (by simp) rfl rfl) rfl rfl ?_
  rintro _ wd76 ⟨b75, rfl, H⟩
  refine nq (Q_assign rfl) rfl rfl <| WL_nil <| x_then <| C_seq <| C_seq <| R_nd <| nq (Q_move rfl) rfl rfl <| nq (Q_lenA (en := (eE errIds gV)) (k := 0) H.ok rfl (show rdL (eE errIds gV) ρ ([2, 3, 4, 1, 5, 6, 7, 8, 9, 10, 11, 12, 13, 14, 15, 16, 17, 18]) ([errV errIds gV 2, errV errIds gV 3, errV errIds gV 4, errV errIds gV 1, errV errIds gV 5, errV errIds gV 6, errV errIds gV 7, errV errIds gV 8, errV errIds gV 9, errV errIds gV 10, errV errIds gV 11, errV errIds gV 12, errV errIds gV 13, errV errIds gV 14, errV errIds gV 15, errV errIds gV 16, errV errIds gV 17, errV errIds gV 18]) from ⟨([errV errIds gV 2]), _, rfl, ⟨rfl, errV_one gle 2⟩, ⟨([errV errIds gV 3]), _, rfl, ⟨rfl, errV_one gle 3⟩, ⟨([errV errIds gV 4]), _, rfl, ⟨rfl, errV_one gle 4⟩, ⟨([errV errIds gV 1]), _, rfl, ⟨rfl, errV_one gle 1⟩, ⟨([errV errIds gV 5]), _, rfl, ⟨rfl, errV_one gle 5⟩, ⟨([errV errIds gV 6]), _, rfl, ⟨rfl, errV_one gle 6⟩, ⟨([errV errIds gV 7]), _, rfl, ⟨rfl, errV_one gle 7⟩, ⟨([errV errIds gV 8]), _, rfl, ⟨rfl, errV_one gle 8⟩, ⟨([errV errIds gV 9]), _, rfl, ⟨rfl, errV_one gle 9⟩, ⟨([errV errIds gV 10]), _, rfl, ⟨rfl, errV_one gle 10⟩, ⟨([errV errIds gV 11]), _, rfl, ⟨rfl, errV_one gle 11⟩, ⟨([errV errIds gV 12]), _, rfl, ⟨rfl, errV_one gle 12⟩, ⟨([errV errIds gV 13]), _, rfl, ⟨rfl, errV_one gle 13⟩, ⟨([errV errIds gV 14]), _, rfl, ⟨rfl, errV_one gle 14⟩, ⟨([errV errIds gV 15]), _, rfl, ⟨rfl, errV_one gle 15⟩, ⟨([errV errIds gV 16]), _, rfl, ⟨rfl, errV_one gle 16⟩, ⟨([errV errIds gV 17]), _, rfl, ⟨rfl, errV_one gle 17⟩, ⟨([errV errIds gV 18]), _, rfl, ⟨rfl, errV_one gle 18⟩, rdL.nil⟩⟩⟩⟩⟩⟩⟩⟩⟩⟩⟩⟩⟩⟩⟩⟩⟩⟩) Nat.one_pos Tryd.underlying60 rfl) rfl rfl <| nq (Q_move rfl) rfl rfl <| WL_nil <| x_then ?_
  obtain ⟨o111, ho111, hF⟩ := bnd hF
  refine C_cutQ (fun a w' => .inl () = o111 ∧ Fr 40 a [] ∧ Hp C w' ρ (hs)) ?_ ?_
  ·refine C_block ?_
   refine C_iter (f := fun s => F_doffernum_Num_l0 N x1 s) ho111 (fun s a w' => ∃ (x122 : Int), x122 = s ∧ Fr 40 a [(0, errV errIds gV x1), (27, (.slice (some ⟨b75, 0, none⟩) 18 18)), (28, .int .i64 (([2, 3, 4, 1, 5, 6, 7, 8, 9, 10, 11, 12, 13, 14, 15, 16, 17, 18]).length : Int)), (29, .int .i64 x122)] ∧ Hp C w' ρ (Arr (.slice (some ⟨b75, 0, none⟩) 18 18) 1 ([errV errIds gV 2, errV errIds gV 3, errV errIds gV 4, errV errIds gV 1, errV errIds gV 5, errV errIds gV 6, errV errIds gV 7, errV errIds gV 8, errV errIds gV 9, errV errIds gV 10, errV errIds gV 11, errV errIds gV 12, errV errIds gV 13, errV errIds gV 14, errV errIds gV 15, errV errIds gV 16, errV errIds gV 17, errV errIds gV 18]) :: hs)) ?_ ?_
   ·exact fun a hf => ⟨0, rfl, hf.sub ⟨rfl, rfl, rfl, rfl, trivial⟩, H⟩
   ·rintro s o133 a wd136 ⟨x122, rfl, hf, H⟩ hB134 hO135
    replace hB134 : F_doffernum_Num_l0 N x1 x122 = some o133 := hB134
    unfold F_doffernum_Num_l0 at hB134
    refine CW.at hf <| C_seq <| R_nd <| nq (Q_lss rfl rfl) rfl rfl <| WL_nil <| x_then <| C_seq ?_
    refine C_cond rfl (fun hb => ?_) (fun hb => ?_)
    ·replace hB134 := itT hb hB134
     refine C_skip <| x_then <| C_seq <| C_block <| C_seq <| R_nd <| nq (Q_move rfl) rfl rfl ?_
     obtain ⟨x137, hx137, hB134⟩ := bnd hB134
     obtain ⟨b138, o139, hi143, hc141, ha142⟩ := arr_at (en := (eE errIds gV)) (hs := [Arr (.slice (some ⟨b75, 0, none⟩) 18 18) 1 ([errV errIds gV 2, errV errIds gV 3, errV errIds gV 4, errV errIds gV 1, errV errIds gV 5, errV errIds gV 6, errV errIds gV 7, errV errIds gV 8, errV errIds gV 9, errV errIds gV 10, errV errIds gV 11, errV errIds gV 12, errV errIds gV 13, errV errIds gV 14, errV errIds gV 15, errV errIds gV 16, errV errIds gV 17, errV errIds gV 18])]) (k := 0) Nat.one_pos (H.okS (by simp)) rfl (show rdL (eE errIds gV) ρ ([2, 3, 4, 1, 5, 6, 7, 8, 9, 10, 11, 12, 13, 14, 15, 16, 17, 18]) ([errV errIds gV 2, errV errIds gV 3, errV errIds gV 4, errV errIds gV 1, errV errIds gV 5, errV errIds gV 6, errV errIds gV 7, errV errIds gV 8, errV errIds gV 9, errV errIds gV 10, errV errIds gV 11, errV errIds gV 12, errV errIds gV 13, errV errIds gV 14, errV errIds gV 15, errV errIds gV 16, errV errIds gV 17, errV errIds gV 18]) from ⟨([errV errIds gV 2]), _, rfl, ⟨rfl, errV_one gle 2⟩, ⟨([errV errIds gV 3]), _, rfl, ⟨rfl, errV_one gle 3⟩, ⟨([errV errIds gV 4]), _, rfl, ⟨rfl, errV_one gle 4⟩, ⟨([errV errIds gV 1]), _, rfl, ⟨rfl, errV_one gle 1⟩, ⟨([errV errIds gV 5]), _, rfl, ⟨rfl, errV_one gle 5⟩, ⟨([errV errIds gV 6]), _, rfl, ⟨rfl, errV_one gle 6⟩, ⟨([errV errIds gV 7]), _, rfl, ⟨rfl, errV_one gle 7⟩, ⟨([errV errIds gV 8]), _, rfl, ⟨rfl, errV_one gle 8⟩, ⟨([errV errIds gV 9]), _, rfl, ⟨rfl, errV_one gle 9⟩, ⟨([errV errIds gV 10]), _, rfl, ⟨rfl, errV_one gle 10⟩, ⟨([errV errIds gV 11]), _, rfl, ⟨rfl, errV_one gle 11⟩, ⟨([errV errIds gV 12]), _, rfl, ⟨rfl, errV_one gle 12⟩, ⟨([errV errIds gV 13]), _, rfl, ⟨rfl, errV_one gle 13⟩, ⟨([errV errIds gV 14]), _, rfl, ⟨rfl, errV_one gle 14⟩, ⟨([errV errIds gV 15]), _, rfl, ⟨rfl, errV_one gle 15⟩, ⟨([errV errIds gV 16]), _, rfl, ⟨rfl, errV_one gle 16⟩, ⟨([errV errIds gV 17]), _, rfl, ⟨rfl, errV_one gle 17⟩, ⟨([errV errIds gV 18]), _, rfl, ⟨rfl, errV_one gle 18⟩, rdL.nil⟩⟩⟩⟩⟩⟩⟩⟩⟩⟩⟩⟩⟩⟩⟩⟩⟩⟩) hx137
     refine nq (Q_idx hi143 Tryd.underlying60 ty25 rfl rfl) rfl rfl <| nq (v := errV errIds gV x137) (Q_ld (show cellsAt _ _ _ [errV errIds gV x137] from rdE hc141 ▸ (ha142 _ (Ok.subS (by simp) H.ok))) ty25 rfl (fun _ => rfl) rfl rfl) rfl rfl <| nq (Q_assign rfl) rfl rfl <| nq (Q_assign rfl) rfl rfl <| WL_nil <| x_then <| C_seq <| R_nd <| nq (Q_move rfl) rfl rfl <| nq (Q_move rfl) rfl rfl ?_
     obtain ⟨x144, hx144, hB134⟩ := bnd hB134
     refine ne (E_call fn24 rfl (c_is isC gle H hx144)) rfl rfl ?_
     rintro _ wd145 ⟨rfl, H⟩
     refine WL_nil <| x_then ?_
     refine C_cond rfl (fun hb => ?_) (fun hb => ?_)
     ·replace hB134 := itT hb hB134
      refine C_seq <| R_nd <| nq (Q_move rfl) rfl rfl <| nq (Q_add rfl rfl) rfl rfl <| nq (Q_assign rfl) rfl rfl <| WL_nil <| x_then <| C_ret <| x_block_ret <| x_then_ret <| x_then_ret <| x_block_ret <| x_then_ret <| x_then_ret ?_
      replace H := H.drop 0 rfl
      dsimp only [List.eraseIdx] at H
      obtain rfl := Option.some.inj hB134
      obtain rfl := hO135 _ rfl
      obtain rfl := Option.some.inj (show some _ = some _ from hF)
      exact fn_ret (l := [.tmp 2]) (vs := [.int .i64 (w64 (x122 + 1))]) rfl rfl rfl ⟨w64 (x122 + 1), rfl, rfl, H⟩
     ·replace hB134 := itF hb hB134
      refine C_skip <| x_block <| x_then <| R_nd <| nq (Q_add rfl rfl) rfl rfl <| nq (Q_move rfl) rfl rfl <| WL_nil ?_
      obtain rfl := Option.some.inj hB134
      refine x_A fun a hf => ⟨_, rfl, w64 (x122 + 1), rfl, hf.sub ⟨rfl, rfl, rfl, rfl, trivial⟩, H⟩
    ·replace hB134 := itF hb hB134
     refine C_exit <| x_then_exit <| x_then_exit <| x_block_exit ?_
     replace H := H.drop 0 rfl
     dsimp only [List.eraseIdx] at H
     obtain rfl := Option.some.inj hB134
     obtain rfl := hO135 _ rfl
     refine x_A fun a hf => ⟨rfl, hf.sub trivial, H⟩
  ·rintro a wd146 ⟨rfl, hf, H⟩
   try dsimp only at hF
   refine XX.at hf <| x_then <| C_seq <| R_nd <| nq (Q_assign rfl) rfl rfl <| WL_nil <| x_then <| C_ret ?_
   obtain rfl := Option.some.inj hF
   exact fn_ret (l := [.tmp 2]) (vs := [.int .i64 (-1)]) rfl rfl rfl ⟨(-1), rfl, rfl, H⟩
theorem c_57_1 {N : Nat} {C : Cx} {w : World} {ρ : View} {hs : List Hl} {x1 : ByteArray} (H : Hp C w ρ (hs)) {gV : Nat → Value} (_gle : GErrs ρ 137 errIds gV) {r : Unit} (hF : F_strings_Count_1 N x1 = some r) :
  Calls Tryd.prog 57 [.string x1, .string (⟨#[32]⟩ : ByteArray)].toArray w (Rets (fun v w' => (() = r ∧ .int .i64 (scount x1 32) = v ∧ Hp C w' ρ (hs)))) := by
 unfold F_strings_Count_1 at hF
 have h0 : Tryd.f57.body = some _ := rfl
 refine fn_calls' Tryd.func57 h0 (n := 34) rfl (by simp) <| C_seq <| R_nd <| nq (Q_assign rfl) rfl rfl <| WL_nil <| x_then <| C_seq <| C_seq <| R_nd <| nq (Q_move rfl) rfl rfl <| nq (v := .int .i64 1) (Q_lenStrC Tryd.underlying9 rfl (by decide)) rfl rfl <| nq (v := .bool false) (Q_known (by decide) (Q_eql rfl rfl)) rfl rfl <| WL_nil <| x_then ?_
 refine C_cond rfl (fun h => nomatch h) (fun _ => ?_)
 refine C_skip <| x_then <| C_seq <| C_seq <| R_nd <| nq (Q_move rfl) rfl rfl <| nq (v := .int .i64 1) (Q_lenStrC Tryd.underlying9 rfl (by decide)) rfl rfl <| nq (v := .bool true) (Q_known (by decide) (Q_eql rfl rfl)) rfl rfl <| WL_nil <| x_then ?_
 refine C_cond rfl (fun _ => ?_) (fun h => nomatch h)
 refine C_seq <| R_nd <| nq (Q_move rfl) rfl rfl <| nq (Q_move rfl) rfl rfl <| nq (v := .int .u8 32) (Q_ixS rfl Tryd.underlying9 rfl rfl) rfl rfl <| nq (v := .int .i64 (scount x1 32)) (Q_count ext66 rfl rfl) rfl rfl <| nq (Q_assign rfl) rfl rfl <| WL_nil <| x_then <| C_ret <| x_then_ret ?_
 obtain rfl := Option.some.inj hF
 exact fn_ret (l := [.tmp 4]) (vs := [.int .i64 (scount x1 32)]) rfl rfl rfl ⟨rfl, rfl, H⟩
theorem c_44_1 {N : Nat} {C : Cx} {w : World} {ρ : View} {hs : List Hl} {x1 : ByteArray} (H : Hp C w ρ (hs)) {gV : Nat → Value} (gle : GErrs ρ 137 errIds gV) {r : (List ByteArray)} (hF : F_strings_genSplit_1 N x1 = some r) :
  Calls Tryd.prog 44 [.string x1, .string (⟨#[32]⟩ : ByteArray), .int .i64 0, .int .i64 (-1)].toArray w (Rets (fun v w' => (∃ (v191 : Value) (c192 : (List Value)) (x193 : (List ByteArray)), x193 = r ∧ v191 = v ∧ rdL eS ρ x193 c192 ∧ Hp C w' ρ (Arr v191 1 c192 :: hs)))) := by
 unfold F_strings_genSplit_1 at hF
 have h0 : Tryd.f44.body = some _ := rfl
 refine fn_calls' Tryd.func44 h0 (n := 66) rfl (by simp) <| C_seq <| R_nd <| nq (Q_assign rfl) rfl rfl <| WL_nil <| x_then <| C_seq <| C_seq <| R_nd <| nq (Q_move rfl) rfl rfl <| nq (v := .bool false) (Q_known (by decide) (Q_eql rfl rfl)) rfl rfl <| WL_nil <| x_then ?_
 refine C_cond rfl (fun h => nomatch h) (fun _ => ?_)
 refine C_skip <| x_then <| C_seq <| C_seq <| R_nd <| nq (Q_move rfl) rfl rfl <| nq (v := .bool false) (Q_eqlStrC (by kernel_rfl) Tryd.underlying9 rfl rfl) rfl rfl <| WL_nil <| x_then ?_
 refine C_cond rfl (fun h => nomatch h) (fun _ => ?_)
 refine C_skip <| x_then <| C_seq <| C_seq <| R_nd <| nq (Q_move rfl) rfl rfl <| nq (v := .bool true) (Q_known (by decide) (Q_lss rfl rfl)) rfl rfl <| WL_nil <| x_then ?_
 obtain ⟨o198, ho198, hF⟩ := bnd hF
 refine C_cutQ (fun a w' => Fr 66 a [(0, .string x1), (1, .string (⟨#[32]⟩ : ByteArray)), (2, .int .i64 0), (3, .int .i64 (w64 ((scount x1 32) + 1)))] ∧ Hp C w' ρ (hs)) ?_ ?_
 ·refine C_cond rfl (fun _ => ?_) (fun h => nomatch h)
  refine R_nd <| nq (Q_move rfl) rfl rfl <| nq (Q_move rfl) rfl rfl ?_
  obtain ⟨q199, hq199, ho198⟩ := bnd ho198
  refine ne (E_call fn57 rfl (c_57_1 H gle   hq199)) rfl rfl ?_
  rintro _ wd201 ⟨rfl, rfl, H⟩
  try dsimp only at ho198
  refine nq (Q_add rfl rfl) rfl rfl <| nq (Q_assign rfl) rfl rfl <| WL_nil ?_
  obtain rfl := Option.some.inj ho198
  refine x_A fun a hf => ⟨hf.sub ⟨rfl, rfl, rfl, rfl, trivial⟩, H⟩
 ·rintro a wd202 ⟨hf, H⟩
  try dsimp only at hF
  refine XX.at hf <| x_then <| C_seq <| R_nd <| nq (Q_move rfl) rfl rfl <| nq (Q_move rfl) rfl rfl <| nq (Q_lenStr Tryd.underlying9 rfl) rfl rfl <| nq (Q_add rfl rfl) rfl rfl <| nq (v := .int .i64 (imin (w64 ((scount x1 32) + 1)) (w64 ((x1.size : Int) + 1)))) (Q_min rfl rfl) rfl rfl <| nq (Q_assign rfl) rfl rfl <| WL_nil <| x_then <| C_seq <| R_nd ?_
  refine nq (Q_move rfl) rfl rfl ?_
  obtain ⟨x203, hx203, hF⟩ := bnd hF
  obtain ⟨hm205a, hm205b, hm205c⟩ := mk_some hx203
  refine ne (E_make H Tryd.underlying32 ty9 (zs := [.string ByteArray.empty]) rfl rfl (by decide) (by decide) rfl hm205a hm205b) rfl rfl ?_
  rintro _ wd206 ⟨b204, rfl, H⟩
  refine nq (Q_assign rfl) rfl rfl <| WL_nil <| x_then <| C_seq <| R_nd <| nq (Q_move rfl) rfl rfl <| nq (Q_sub rfl rfl) rfl rfl <| nq (Q_assign rfl) rfl rfl <| WL_nil <| x_then <| C_seq <| R_nd <| nq (Q_assign rfl) rfl rfl <| WL_nil ?_
  refine x_then ?_
  obtain ⟨o282, ho282, hF⟩ := bnd hF
  refine C_cut (fun a w' => ∃ (c279 : (List Value)) (x277 : ByteArray) (x278 : Int) (x280 : (List ByteArray)), (x277, x278, x280) = o282 ∧ rdL eS ρ x280 c279 ∧ Fr 66 a [(0, .string x277), (9, (.slice (some ⟨b204, 0, none⟩) (imin (w64 ((scount x1 32) + 1)) (w64 ((x1.size : Int) + 1))).toNat (imin (w64 ((scount x1 32) + 1)) (w64 ((x1.size : Int) + 1))).toNat)), (10, .int .i64 x278)] ∧ Hp C w' ρ (Arr (.slice (some ⟨b204, 0, none⟩) (imin (w64 ((scount x1 32) + 1)) (w64 ((x1.size : Int) + 1))).toNat (imin (w64 ((scount x1 32) + 1)) (w64 ((x1.size : Int) + 1))).toNat) 1 c279 :: hs)) ?_ ?_
  ·refine C_block ?_
   refine C_iter (f := fun s => F_strings_genSplit_1_l0 N x1 s.1 s.2.1 s.2.2) ho282 (fun s a w' => ∃ (c307 : (List Value)) (x305 : ByteArray) (x306 : Int) (x308 : (List ByteArray)), (x305, x306, x308) = s ∧ rdL eS ρ x308 c307 ∧ Fr 66 a [(0, .string x305), (1, .string (⟨#[32]⟩ : ByteArray)), (2, .int .i64 0), (3, .int .i64 (w64 ((imin (w64 ((scount x1 32) + 1)) (w64 ((x1.size : Int) + 1))) - 1))), (9, (.slice (some ⟨b204, 0, none⟩) (imin (w64 ((scount x1 32) + 1)) (w64 ((x1.size : Int) + 1))).toNat (imin (w64 ((scount x1 32) + 1)) (w64 ((x1.size : Int) + 1))).toNat)), (10, .int .i64 x306)] ∧ Hp C w' ρ (Arr (.slice (some ⟨b204, 0, none⟩) (imin (w64 ((scount x1 32) + 1)) (w64 ((x1.size : Int) + 1))).toNat (imin (w64 ((scount x1 32) + 1)) (w64 ((x1.size : Int) + 1))).toNat) 1 c307 :: hs)) ?_ ?_
   ·exact fun a hf => ⟨(repC (imin (w64 ((scount x1 32) + 1)) (w64 ((x1.size : Int) + 1))).toNat [.string ByteArray.empty]), x1, 0, x203, rfl, (hm205c ▸ rdL_rep (e := eS) (ρ := ρ) (rfl) _), hf.sub ⟨rfl, rfl, rfl, rfl, rfl, rfl, trivial⟩, H⟩
   ·rintro s o332 a wd335 ⟨c307, x305, x306, x308, rfl, r309, hf, H⟩ hB333 hO334
    replace hB333 : F_strings_genSplit_1_l0 N x1 x305 x306 x308 = some o332 := hB333
    unfold F_strings_genSplit_1_l0 at hB333
    refine CW.at hf <| C_seq <| C_seq <| R_nd <| nq (Q_move rfl) rfl rfl <| nq (Q_move rfl) rfl rfl <| nq (Q_lss rfl rfl) rfl rfl <| WL_nil <| x_then ?_
    refine C_cond rfl (fun hb => ?_) (fun hb => ?_)
    ·replace hB333 := itT hb hB333
     refine C_skip <| x_then <| C_block <| C_seq <| R_nd <| nq (Q_move rfl) rfl rfl <| nq (Q_move rfl) rfl rfl ?_
     obtain ⟨q336, hq336, hB333⟩ := bnd hB333
     refine ne (E_call fn55 rfl (c_55_1 H gle   hq336)) rfl rfl ?_
     rintro _ wd339 ⟨x338, rfl, rfl, H⟩
     try dsimp only at hB333
     refine nq (Q_assign rfl) rfl rfl <| WL_nil <| x_then <| C_seq <| C_seq <| R_nd <| nq (Q_move rfl) rfl rfl <| nq (Q_lss rfl rfl) rfl rfl <| WL_nil <| x_then ?_
     refine C_cond rfl (fun hb => ?_) (fun hb => ?_)
     ·replace hB333 := itT hb hB333
      refine C_exit <| x_then_exit <| x_block_other rfl <| x_then_exit <| x_block_exit ?_
      obtain rfl := Option.some.inj hB333
      obtain rfl := hO334 _ rfl
      refine x_A fun a hf => ⟨c307, x305, x306, x308, rfl, r309, hf.sub ⟨rfl, rfl, rfl, trivial⟩, H⟩
     ·replace hB333 := itF hb hB333
      refine C_skip <| x_then <| C_seq <| R_nd <| nq (Q_move rfl) rfl rfl <| nq (Q_move rfl) rfl rfl <| nq (Q_move rfl) rfl rfl <| nq (Q_move rfl) rfl rfl <| nq (Q_move rfl) rfl rfl <| nq (Q_add rfl rfl) rfl rfl ?_
      obtain ⟨x340, hx340, hB333⟩ := bnd hB333
      refine nq (Q_slStr hx340 Tryd.underlying9 rfl rfl ⟨_, rfl⟩) rfl rfl ?_
      obtain ⟨x341, hx341, hB333⟩ := bnd hB333
      obtain ⟨b342, o343, hi347, hc345, ha346⟩ := arr_at (hs := [Arr (.slice (some ⟨b204, 0, none⟩) (imin (w64 ((scount x1 32) + 1)) (w64 ((x1.size : Int) + 1))).toNat (imin (w64 ((scount x1 32) + 1)) (w64 ((x1.size : Int) + 1))).toNat) 1 c307]) (k := 0) (by decide) (H.okS (by simp)) rfl r309 hx341
      refine nq (Q_idx hi347 Tryd.underlying32 ty9 rfl rfl) rfl rfl ?_
      obtain ⟨x348, hx348, hB333⟩ := bnd hB333
      obtain ⟨hs349a, hs349b, hs349c⟩ := setI_some hx348
      have r350 : rdL eS ρ x348 (setC c307 (x306.toNat * 1 + 0) [.string x340]) := hs349c ▸ rdL.set r309 hs349b (rfl)
      refine ne (E_stA (k := 0) (j := 0) (c := [.string x340]) H rfl ty9 hi347 rfl rfl rfl rfl (one_cons rfl one_nil) (by decide)) rfl rfl ?_
      rintro _ wd351 H
      dsimp only [List.set] at H
      refine WL_nil <| x_then <| C_seq <| R_nd <| nq (Q_move rfl) rfl rfl <| nq (Q_move rfl) rfl rfl <| nq (Q_move rfl) rfl rfl <| nq (v := .int .i64 1) (Q_lenStrC Tryd.underlying9 rfl (by decide)) rfl rfl <| nq (Q_add rfl rfl) rfl rfl ?_
      obtain ⟨x352, hx352, hB333⟩ := bnd hB333
      refine nq (Q_slStr hx352 Tryd.underlying9 rfl ⟨_, rfl⟩ rfl) rfl rfl <| nq (Q_assign rfl) rfl rfl <| WL_nil <| x_then <| R_nd <| nq (Q_move rfl) rfl rfl <| nq (Q_add rfl rfl) rfl rfl <| nq (Q_assign rfl) rfl rfl <| WL_nil <| x_block ?_
      obtain rfl := Option.some.inj hB333
      refine x_A fun a hf => ⟨_, rfl, (setC c307 (x306.toNat * 1 + 0) [.string x340]), x352, w64 (x306 + 1), x348, rfl, r350, hf.sub ⟨rfl, rfl, rfl, rfl, rfl, rfl, trivial⟩, H⟩
    ·replace hB333 := itF hb hB333
     refine C_exit <| x_then_exit <| x_then_exit <| x_block_exit ?_
     obtain rfl := Option.some.inj hB333
     obtain rfl := hO334 _ rfl
     refine x_A fun a hf => ⟨c307, x305, x306, x308, rfl, r309, hf.sub ⟨rfl, rfl, rfl, trivial⟩, H⟩
  ·rintro a wd353 ⟨c279, x277, x278, x280, rfl, r281, hf, H⟩
   try dsimp only at hF
   refine CW.at hf <| C_seq <| R_nd <| nq (Q_move rfl) rfl rfl <| nq (Q_move rfl) rfl rfl <| nq (Q_move rfl) rfl rfl ?_
   obtain ⟨x354, hx354, hF⟩ := bnd hF
   obtain ⟨b355, o356, hi360, hc358, ha359⟩ := arr_at (hs := [Arr (.slice (some ⟨b204, 0, none⟩) (imin (w64 ((scount x1 32) + 1)) (w64 ((x1.size : Int) + 1))).toNat (imin (w64 ((scount x1 32) + 1)) (w64 ((x1.size : Int) + 1))).toNat) 1 c279]) (k := 0) (by decide) (H.okS (by simp)) rfl r281 hx354
   refine nq (Q_idx hi360 Tryd.underlying32 ty9 rfl rfl) rfl rfl ?_
   obtain ⟨x361, hx361, hF⟩ := bnd hF
   obtain ⟨hs362a, hs362b, hs362c⟩ := setI_some hx361
   have r363 : rdL eS ρ x361 (setC c279 (x278.toNat * 1 + 0) [.string x277]) := hs362c ▸ rdL.set r281 hs362b (rfl)
   refine ne (E_stA (k := 0) (j := 0) (c := [.string x277]) H rfl ty9 hi360 rfl rfl rfl rfl (one_cons rfl one_nil) (by decide)) rfl rfl ?_
   rintro _ wd364 H
   dsimp only [List.set] at H
   refine WL_nil <| x_then <| C_seq <| R_nd <| nq (Q_move rfl) rfl rfl <| nq (Q_move rfl) rfl rfl <| nq (Q_add rfl rfl) rfl rfl ?_
   obtain ⟨x365, hx365, hF⟩ := bnd hF
   obtain ⟨v367, c370, H, r368, hq371⟩ := sliceW (P := Tryd.prog) (en := eS) (k := 0) H rfl (by decide) r363 hx365
   dsimp only [List.set] at H
   refine nq (v := v367) (hq371 _ _ _ _ _ _ _ _ _ _ _ _ _ _ _ Tryd.underlying32 ty9 rfl rfl ⟨_, rfl⟩) rfl rfl <| nq (Q_assign rfl) rfl rfl <| WL_nil <| x_then <| C_ret ?_
   obtain rfl := Option.some.inj hF
   exact fn_ret (l := [.tmp 8]) (vs := [v367]) rfl rfl rfl ⟨v367, c370, x365, rfl, rfl, r368, H⟩
theorem c_29_1 {N : Nat} {C : Cx} {w : World} {ρ : View} {hs : List Hl} {x1 : ByteArray} (H : Hp C w ρ (hs)) {gV : Nat → Value} (gle : GErrs ρ 137 errIds gV) {r : (List ByteArray)} (hF : F_strings_Split_1 N x1 = some r) :
  Calls Tryd.prog 29 [.string x1, .string (⟨#[32]⟩ : ByteArray)].toArray w (Rets (fun v w' => (∃ (v9 : Value) (c10 : (List Value)) (x11 : (List ByteArray)), x11 = r ∧ v9 = v ∧ rdL eS ρ x11 c10 ∧ Hp C w' ρ (Arr v9 1 c10 :: hs)))) := by
 unfold F_strings_Split_1 at hF
 have h0 : Tryd.f29.body = some _ := rfl
 refine fn_calls' Tryd.func29 h0 (n := 8) rfl (by simp) <| C_seq <| R_nd <| nq (Q_assign rfl) rfl rfl <| WL_nil <| x_then <| C_seq <| R_nd <| nq (Q_move rfl) rfl rfl <| nq (Q_move rfl) rfl rfl ?_
 obtain ⟨q13, hq13, hF⟩ := bnd hF
 refine ne (E_call fn44 rfl (c_44_1 H gle   hq13)) rfl rfl ?_
 rintro _ wd19 ⟨v15, c16, x17, rfl, rfl, r18, H⟩
 try dsimp only at hF
 refine nq (Q_assign rfl) rfl rfl <| WL_nil <| x_then <| C_ret ?_
 obtain rfl := Option.some.inj hF
 exact fn_ret (l := [.tmp 4]) (vs := [v15]) rfl rfl rfl ⟨v15, c16, x17, rfl, rfl, r18, H⟩
theorem c_16_1 {N : Nat} {C : Cx} {w : World} {ρ : View} {hs : List Hl} {x1 : ByteArray} (H : Hp C w ρ (hs)) {gV : Nat → Value} (gle : GErrs ρ 137 errIds gV) {r : (Int × Int × Int × (List Int) × Int)} (hF : F_script_Parse_1x N x1 = some r) :
  Calls Tryd.prog 16 [.string x1].toArray w (Rets (fun v w' => (∃ (ρ' : View) (v307 : Value) (c308 : (List Value)) (x304 : Int) (x305 : Int) (x306 : Int) (x309 : (List Int)) (x311 : Int), (x304, x305, x306, x309, x311) = r ∧ .tuple [.agg #[.int .i64 x304, .int .i64 x305, .int .i64 x306, v307], errV errIds gV x311].toArray = v ∧ View.le ρ ρ' ∧ rdL (eI .u8) ρ' x309 c308 ∧ Hp C w' ρ' (Arr v307 1 c308 :: hs)))) := by
 unfold F_script_Parse_1x at hF
 have h0 : Tryd.f16.body = some _ := rfl
 refine fn_calls' Tryd.func16 h0 (n := 79) rfl (by simp) <| C_seq <| R_nd <| ne (E_alloc H ty43 (zs := [.int .i64 0, .int .i64 0, .int .i64 0, .slice none 0 0]) rfl) rfl rfl ?_
 rintro _ wd313 ⟨b312, rfl, H⟩
 refine nq (Q_assign rfl) rfl rfl <| WL_nil <| x_then <| C_seq <| R_nd <| nq (Q_move rfl) rfl rfl ?_
 obtain ⟨q314, hq314, hF⟩ := bnd hF
 refine ne (E_call fn29 rfl (c_29_1 H gle   hq314)) rfl rfl ?_
 rintro _ wd320 ⟨v316, c317, x318, rfl, rfl, r319, H⟩
 try dsimp only at hF
 refine ne (E_alloc H ty32 (zs := [.slice none 0 0]) rfl) rfl rfl ?_
 rintro _ wd322 ⟨b321, rfl, H⟩
 refine ne (E_stB (k := 0) (cs := [v316]) (vs' := [v316]) H rfl ty32 rfl rfl (arr_cells (H.ok.get (k := 1) rfl)).1 rfl (one_cons (arr_cells (H.ok.get (k := 1) rfl)).2 one_nil) (by simp) rfl) rfl rfl ?_
 rintro _ wd323 H
 dsimp only [List.set] at H
 refine WL_nil <| x_then <| C_seq <| R_nd ?_
 obtain ⟨q324, hq324, hF⟩ := bnd hF
 refine ne (E_call fn30 rfl (c_30 H gle   hq324)) rfl rfl ?_
 rintro _ wd329 ⟨v326, c327, rfl, rfl, r328, H⟩
 try dsimp only at hF
 refine nq (Q_assign rfl) rfl rfl <| WL_nil <| x_then <| C_seq <| R_nd <| nq (Q_move rfl) rfl rfl <| nq (v := .func (.func 32) #[] [.pointer (some ⟨b321, 0, none⟩)].toArray) (Q_func rfl) rfl rfl ?_
 replace H := H.f2
 replace H := H.f2
 obtain ⟨q330, hq330, hF⟩ := bnd hF
 obtain ⟨C', ρ', hl331, HA, hL, hback⟩ := Hp.lend (A := [Box b321 [v316], Arr v316 1 c317]) (L := [Arr v326 3 c327]) (F := Box b312 [.int .i64 0, .int .i64 0, .int .i64 0, .slice none 0 0] :: hs) H
 refine ne (E_call fn31 rfl (c_31 HA (gle.up hl331)  (arr_rd (by decide) hl331 (hL (Arr v326 3 c327) (by simp)) r328) (r319.up hl331) hq330)) rfl rfl ?_
 rintro _ wd333 ⟨x332, rfl, rfl, H⟩
 try dsimp only at hF
 replace H := hback H
 dsimp only [List.cons_append, List.nil_append] at H
 refine nq (Q_assign rfl) rfl rfl <| WL_nil <| x_then <| C_seq <| C_block <| C_seq <| R_nd <| nq (Q_move rfl) rfl rfl <| nq (Q_lss rfl rfl) rfl rfl <| nq (Q_assign rfl) rfl rfl <| WL_nil <| x_then ?_
 refine C_cond rfl (fun hb => ?_) (fun hb => ?_)
 ·replace hF := itT hb hF
  obtain ⟨o335, ho335, hF⟩ := bnd hF
  refine C_cut (fun a w' => Fr 79 a [(2, .pointer (some ⟨b312, 0, none⟩)), (3, errV errIds gV 5)] ∧ Hp C w' ρ (Box b312 [.int .i64 0, .int .i64 0, .int .i64 0, .slice none 0 0] :: hs)) ?_ ?_
  ·refine R_dr (.take 0 (.take 1 (.one 2 (.take 3 .done)))) (fun w' => Ok w' ρ [Box b321 [v316], Arr v316 1 c317, Arr v326 3 c327, Box b312 [.int .i64 0, .int .i64 0, .int .i64 0, .slice none 0 0]]) (by kernel_rfl) (by kernel_rfl) (by kernel_rfl) (H.drew.okS (by simp)) ?_
   replace H := H.drew
   refine dq (v := .agg #[.int .i64 0, .int .i64 0, .int .i64 0, .slice none 0 0]) rfl (fun _ _ => Q_buildS st43.choose_spec (ps := []) rfl trivial rfl) rfl rfl <| dq (v := errV errIds gV 5) rfl (fun _ hw => Q_ldV hw gle (by decide) ty25) rfl rfl ?_
   refine d1 (de rfl (E_stB (k := 3) (cs := [.int .i64 0, .int .i64 0, .int .i64 0, .slice none 0 0]) (vs' := [.int .i64 0, .int .i64 0, .int .i64 0, .slice none 0 0]) H rfl ty43 rfl rfl rfl rfl (one_cons rfl (one_cons rfl (one_cons rfl (one_cons rfl one_nil)))) (by simp) rfl) rfl rfl ?_)
   rintro _ wd336 H
   dsimp only [List.set] at H
   refine ⟨H.okS (by simp), ?_⟩
   refine dq rfl (fun _ _ => Q_assign rfl) rfl rfl <| DL_nil ?_
   replace H := H.f3
   replace H := H.drop 1 rfl
   dsimp only [List.eraseIdx] at H
   replace H := H.drop 1 rfl
   dsimp only [List.eraseIdx] at H
   replace H := H.drop 1 rfl
   dsimp only [List.eraseIdx] at H
   obtain rfl := Option.some.inj ho335
   refine x_A fun a hf => ⟨hf.sub ⟨rfl, rfl, trivial⟩, H⟩
  ·rintro a wd337 ⟨hf, H⟩
   try dsimp only at hF
   refine CW.at hf <| C_ret <| x_block_ret <| x_then_ret ?_
   have H := H.nilArr 1
   have hRV : RV Tryd.prog wd337 [(2, .pointer (some ⟨b312, 0, none⟩)), (3, errV errIds gV 5)] [.cell 2 43, .tmp 3] [.agg #[.int .i64 0, .int .i64 0, .int .i64 0, (.slice none 0 0)], errV errIds gV 5] := ⟨⟨_, rfl, run_ldv ty43 rfl (fun h => nomatch h) (box_at (H.ok.get (k := 1) rfl) 0 4)⟩, rfl, trivial⟩
   replace H := H.drop 1 rfl
   dsimp only [List.eraseIdx] at H
   obtain rfl := Option.some.inj hF
   exact fn_retV (rs := [.cell 2 43, .tmp 3]) (vs := [.agg #[.int .i64 0, .int .i64 0, .int .i64 0, (.slice none 0 0)], errV errIds gV 5]) rfl hRV ⟨ρ, (.slice none 0 0), [], 0, 0, 0, [], 5, rfl, rfl, (View.le_refl _), rdL.nil, H⟩
 ·replace hF := itF hb hF
  refine C_seq <| R_dr (.take 0 (.take 1 (.take 2 (.take 3 (.take 4 (.take 5 (.take 6 (.take 7 (.take 8 (.take 9 (.take 10 .done))))))))))) (fun w' => Ok w' ρ [Box b321 [v316], Arr v316 1 c317, Arr v326 3 c327, Box b312 [.int .i64 0, .int .i64 0, .int .i64 0, .slice none 0 0]]) (by kernel_rfl) (by kernel_rfl) (by kernel_rfl) (H.drew.okS (by simp)) ?_
  replace H := H.drew
  refine dq (v := v316) rfl (fun _ hw => Q_ldB (k := 0) (cs := [v316]) hw rfl ty32 rfl rfl rfl (fun _ => rfl) rfl) rfl rfl <| dq rfl (fun _ hw => Q_lenA (k := 1) hw rfl r319 (by decide) Tryd.underlying32 rfl) rfl rfl <| dq rfl (fun _ _ => Q_sub rfl rfl) rfl rfl <| dq rfl (fun _ _ => Q_move rfl) rfl rfl <| dq rfl (fun _ _ => Q_move rfl) rfl rfl ?_
  obtain ⟨x338, hx338, hF⟩ := bnd hF
  obtain ⟨b339, o340, hi344, hc342, ha343⟩ := arr_at (hs := [Arr v326 3 c327]) (k := 0) (by decide) (H.okS (by simp)) rfl r328 hx338
  refine dq rfl (fun _ _ => Q_idx hi344 Tryd.underlying71 ty75 rfl rfl) rfl rfl <| dq (v := .pointer (some ⟨b339, o340 + 2, none⟩)) rfl (fun _ _ => Q_fld Tryd.underlying75 rfl ty9 (by decide) rfl (Addr.add_none _ _ _)) rfl rfl ?_
  obtain ⟨c345, hc346, ha347⟩ := sndO hc342 ha343
  obtain ⟨c348, hc349, ha350⟩ := sndO hc346 ha347
  refine dq (v := .string x338.2.2) rfl (fun _ hw => Q_ld (show cellsAt _ _ _ [.string x338.2.2] from (show _ = [_] from hc349) ▸ (ha350 _ (Ok.subS (by simp) hw))) ty9 rfl (fun _ => rfl) rfl rfl) rfl rfl <| dq rfl (fun _ _ => Q_lenStr Tryd.underlying9 rfl) rfl rfl <| dq rfl (fun _ _ => Q_lss rfl rfl) rfl rfl <| dq rfl (fun _ _ => Q_assign rfl) rfl rfl <| DL_nil <| x_then ?_
  refine C_cond rfl (fun hb => ?_) (fun hb => ?_)
  ·replace hF := itT hb hF
   obtain ⟨o352, ho352, hF⟩ := bnd hF
   refine C_cut (fun a w' => Fr 79 a [(2, .pointer (some ⟨b312, 0, none⟩)), (3, errV errIds gV 3)] ∧ Hp C w' ρ (Box b312 [.int .i64 0, .int .i64 0, .int .i64 0, .slice none 0 0] :: hs)) ?_ ?_
   ·refine R_dr (.take 0 (.take 1 (.one 2 (.take 3 .done)))) (fun w' => Ok w' ρ [Box b321 [v316], Arr v316 1 c317, Arr v326 3 c327, Box b312 [.int .i64 0, .int .i64 0, .int .i64 0, .slice none 0 0]]) (by kernel_rfl) (by kernel_rfl) (by kernel_rfl) (H.drew.okS (by simp)) ?_
    replace H := H.drew
    refine dq (v := .agg #[.int .i64 0, .int .i64 0, .int .i64 0, .slice none 0 0]) rfl (fun _ _ => Q_buildS st43.choose_spec (ps := []) rfl trivial rfl) rfl rfl <| dq (v := errV errIds gV 3) rfl (fun _ hw => Q_ldV hw gle (by decide) ty25) rfl rfl ?_
    refine d1 (de rfl (E_stB (k := 3) (cs := [.int .i64 0, .int .i64 0, .int .i64 0, .slice none 0 0]) (vs' := [.int .i64 0, .int .i64 0, .int .i64 0, .slice none 0 0]) H rfl ty43 rfl rfl rfl rfl (one_cons rfl (one_cons rfl (one_cons rfl (one_cons rfl one_nil)))) (by simp) rfl) rfl rfl ?_)
    rintro _ wd353 H
    dsimp only [List.set] at H
    refine ⟨H.okS (by simp), ?_⟩
    refine dq rfl (fun _ _ => Q_assign rfl) rfl rfl <| DL_nil ?_
    replace H := H.f3
    replace H := H.drop 1 rfl
    dsimp only [List.eraseIdx] at H
    replace H := H.drop 1 rfl
    dsimp only [List.eraseIdx] at H
    replace H := H.drop 1 rfl
    dsimp only [List.eraseIdx] at H
    obtain rfl := Option.some.inj ho352
    refine x_A fun a hf => ⟨hf.sub ⟨rfl, rfl, trivial⟩, H⟩
   ·rintro a wd354 ⟨hf, H⟩
    try dsimp only at hF
    refine CW.at hf <| C_ret <| x_block_ret <| x_then_ret ?_
    have H := H.nilArr 1
    have hRV : RV Tryd.prog wd354 [(2, .pointer (some ⟨b312, 0, none⟩)), (3, errV errIds gV 3)] [.cell 2 43, .tmp 3] [.agg #[.int .i64 0, .int .i64 0, .int .i64 0, (.slice none 0 0)], errV errIds gV 3] := ⟨⟨_, rfl, run_ldv ty43 rfl (fun h => nomatch h) (box_at (H.ok.get (k := 1) rfl) 0 4)⟩, rfl, trivial⟩
    replace H := H.drop 1 rfl
    dsimp only [List.eraseIdx] at H
    obtain rfl := Option.some.inj hF
    exact fn_retV (rs := [.cell 2 43, .tmp 3]) (vs := [.agg #[.int .i64 0, .int .i64 0, .int .i64 0, (.slice none 0 0)], errV errIds gV 3]) rfl hRV ⟨ρ, (.slice none 0 0), [], 0, 0, 0, [], 3, rfl, rfl, (View.le_refl _), rdL.nil, H⟩
  ·replace hF := itF hb hF
   refine C_seq <| R_dr (.take 0 (.take 1 (.take 2 (.take 3 (.take 4 (.take 5 (.take 6 (.take 7 (.take 8 (.take 9 (.take 10 .done))))))))))) (fun w' => Ok w' ρ [Box b321 [v316], Arr v316 1 c317, Arr v326 3 c327, Box b312 [.int .i64 0, .int .i64 0, .int .i64 0, .slice none 0 0]]) (by kernel_rfl) (by kernel_rfl) (by kernel_rfl) (H.drew.okS (by simp)) ?_
   replace H := H.drew
   refine dq (v := v316) rfl (fun _ hw => Q_ldB (k := 0) (cs := [v316]) hw rfl ty32 rfl rfl rfl (fun _ => rfl) rfl) rfl rfl <| dq rfl (fun _ hw => Q_lenA (k := 1) hw rfl r319 (by decide) Tryd.underlying32 rfl) rfl rfl <| dq rfl (fun _ _ => Q_sub rfl rfl) rfl rfl <| dq rfl (fun _ _ => Q_move rfl) rfl rfl <| dq rfl (fun _ _ => Q_move rfl) rfl rfl ?_
   obtain ⟨x355, hx355, hF⟩ := bnd hF
   obtain ⟨b356, o357, hi361, hc359, ha360⟩ := arr_at (hs := [Arr v326 3 c327]) (k := 0) (by decide) (H.okS (by simp)) rfl r328 hx355
   refine dq rfl (fun _ _ => Q_idx hi361 Tryd.underlying71 ty75 rfl rfl) rfl rfl <| dq (v := .pointer (some ⟨b356, o357 + 2, none⟩)) rfl (fun _ _ => Q_fld Tryd.underlying75 rfl ty9 (by decide) rfl (Addr.add_none _ _ _)) rfl rfl ?_
   obtain ⟨c362, hc363, ha364⟩ := sndO hc359 ha360
   obtain ⟨c365, hc366, ha367⟩ := sndO hc363 ha364
   refine dq (v := .string x355.2.2) rfl (fun _ hw => Q_ld (show cellsAt _ _ _ [.string x355.2.2] from (show _ = [_] from hc366) ▸ (ha367 _ (Ok.subS (by simp) hw))) ty9 rfl (fun _ => rfl) rfl rfl) rfl rfl <| dq rfl (fun _ _ => Q_lenStr Tryd.underlying9 rfl) rfl rfl <| dq rfl (fun _ _ => Q_gtr rfl rfl) rfl rfl <| dq rfl (fun _ _ => Q_assign rfl) rfl rfl <| DL_nil <| x_then ?_
   refine C_cond rfl (fun hb => ?_) (fun hb => ?_)
   ·replace hF := itT hb hF
    obtain ⟨o369, ho369, hF⟩ := bnd hF
    refine C_cut (fun a w' => Fr 79 a [(2, .pointer (some ⟨b312, 0, none⟩)), (3, errV errIds gV 4)] ∧ Hp C w' ρ (Box b312 [.int .i64 0, .int .i64 0, .int .i64 0, .slice none 0 0] :: hs)) ?_ ?_
    ·refine R_dr (.take 0 (.take 1 (.one 2 (.take 3 .done)))) (fun w' => Ok w' ρ [Box b321 [v316], Arr v316 1 c317, Arr v326 3 c327, Box b312 [.int .i64 0, .int .i64 0, .int .i64 0, .slice none 0 0]]) (by kernel_rfl) (by kernel_rfl) (by kernel_rfl) (H.drew.okS (by simp)) ?_
     replace H := H.drew
     refine dq (v := .agg #[.int .i64 0, .int .i64 0, .int .i64 0, .slice none 0 0]) rfl (fun _ _ => Q_buildS st43.choose_spec (ps := []) rfl trivial rfl) rfl rfl <| dq (v := errV errIds gV 4) rfl (fun _ hw => Q_ldV hw gle (by decide) ty25) rfl rfl ?_
     refine d1 (de rfl (E_stB (k := 3) (cs := [.int .i64 0, .int .i64 0, .int .i64 0, .slice none 0 0]) (vs' := [.int .i64 0, .int .i64 0, .int .i64 0, .slice none 0 0]) H rfl ty43 rfl rfl rfl rfl (one_cons rfl (one_cons rfl (one_cons rfl (one_cons rfl one_nil)))) (by simp) rfl) rfl rfl ?_)
     rintro _ wd370 H
     dsimp only [List.set] at H
     refine ⟨H.okS (by simp), ?_⟩
     refine dq rfl (fun _ _ => Q_assign rfl) rfl rfl <| DL_nil ?_
     replace H := H.f3
     replace H := H.drop 1 rfl
     dsimp only [List.eraseIdx] at H
     replace H := H.drop 1 rfl
     dsimp only [List.eraseIdx] at H
     replace H := H.drop 1 rfl
     dsimp only [List.eraseIdx] at H
     obtain rfl := Option.some.inj ho369
     refine x_A fun a hf => ⟨hf.sub ⟨rfl, rfl, trivial⟩, H⟩
    ·rintro a wd371 ⟨hf, H⟩
     try dsimp only at hF
     refine CW.at hf <| C_ret <| x_block_ret <| x_then_ret ?_
     have H := H.nilArr 1
     have hRV : RV Tryd.prog wd371 [(2, .pointer (some ⟨b312, 0, none⟩)), (3, errV errIds gV 4)] [.cell 2 43, .tmp 3] [.agg #[.int .i64 0, .int .i64 0, .int .i64 0, (.slice none 0 0)], errV errIds gV 4] := ⟨⟨_, rfl, run_ldv ty43 rfl (fun h => nomatch h) (box_at (H.ok.get (k := 1) rfl) 0 4)⟩, rfl, trivial⟩
     replace H := H.drop 1 rfl
     dsimp only [List.eraseIdx] at H
     obtain rfl := Option.some.inj hF
     exact fn_retV (rs := [.cell 2 43, .tmp 3]) (vs := [.agg #[.int .i64 0, .int .i64 0, .int .i64 0, (.slice none 0 0)], errV errIds gV 4]) rfl hRV ⟨ρ, (.slice none 0 0), [], 0, 0, 0, [], 4, rfl, rfl, (View.le_refl _), rdL.nil, H⟩
   ·replace hF := itF hb hF
    refine C_skip <| x_block <| x_then <| C_seq <| R_nd <| nq (Q_move rfl) rfl rfl <| nq (Q_move rfl) rfl rfl ?_
    obtain ⟨x372, hx372, hF⟩ := bnd hF
    obtain ⟨b373, o374, hi378, hc376, ha377⟩ := arr_at (hs := [Arr v326 3 c327]) (k := 0) (by decide) (H.okS (by simp)) rfl r328 hx372
    refine nq (Q_idx hi378 Tryd.underlying71 ty75 rfl rfl) rfl rfl <| nq (v := .pointer (some ⟨b373, o374 + 1, none⟩)) (Q_fld Tryd.underlying75 rfl ty3 (by decide) rfl (Addr.add_none _ _ _)) rfl rfl ?_
    obtain ⟨c379, hc380, ha381⟩ := sndO hc376 ha377
    obtain ⟨c382, hc383, ha384⟩ := fstO hc380 ha381
    refine nq (v := .int .i64 x372.2.1) (Q_ld (show cellsAt _ _ _ [.int .i64 x372.2.1] from (show _ = [_] from hc383) ▸ (ha384 _ (Ok.subS (by simp) H.ok))) ty3 rfl (fun _ => rfl) rfl rfl) rfl rfl <| nq (v := .agg #[.int .i64 x372.2.1, .int .i64 0, .int .i64 0, .slice none 0 0]) (Q_buildS st43.choose_spec (ps := [(0, [.int .i64 x372.2.1])]) rfl ⟨rfl, rfl, by simp, trivial⟩ rfl) rfl rfl <| ne (E_alloc H ty43 (zs := [.int .i64 0, .int .i64 0, .int .i64 0, .slice none 0 0]) rfl) rfl rfl ?_
    rintro _ wd386 ⟨b385, rfl, H⟩
    refine ne (E_stB (k := 0) (cs := [.int .i64 x372.2.1, .int .i64 0, .int .i64 0, .slice none 0 0]) (vs' := [.int .i64 x372.2.1, .int .i64 0, .int .i64 0, .slice none 0 0]) H rfl ty43 rfl rfl rfl rfl (one_cons rfl (one_cons rfl (one_cons rfl (one_cons rfl one_nil)))) (by simp) rfl) rfl rfl ?_
    rintro _ wd387 H
    dsimp only [List.set] at H
    refine WL_nil <| x_then <| C_seq <| C_seq <| R_nd <| nq (Q_move rfl) rfl rfl <| nq (Q_move rfl) rfl rfl ?_
    obtain ⟨x388, hx388, hF⟩ := bnd hF
    obtain ⟨b389, o390, hi394, hc392, ha393⟩ := arr_at (hs := [Arr v326 3 c327]) (k := 0) (by decide) (H.okS (by simp)) rfl r328 hx388
    refine nq (Q_idx hi394 Tryd.underlying71 ty75 rfl rfl) rfl rfl <| nq (v := .pointer (some ⟨b389, o390 + 2, none⟩)) (Q_fld Tryd.underlying75 rfl ty9 (by decide) rfl (Addr.add_none _ _ _)) rfl rfl ?_
    obtain ⟨c395, hc396, ha397⟩ := sndO hc392 ha393
    obtain ⟨c398, hc399, ha400⟩ := sndO hc396 ha397
    refine nq (v := .string x388.2.2) (Q_ld (show cellsAt _ _ _ [.string x388.2.2] from (show _ = [_] from hc399) ▸ (ha400 _ (Ok.subS (by simp) H.ok))) ty9 rfl (fun _ => rfl) rfl rfl) rfl rfl <| ne (E_sbytes H Tryd.underlying9 Tryd.underlying34 Tryd.underlying5 rfl) rfl rfl ?_
    rintro v403 wd404 ⟨ρ, lw401, r402, H⟩
    replace r319 := rdL.up lw401 r319
    replace r328 := rdL.up lw401 r328
    replace hc392 := Enc.up _ lw401 hc392
    replace ha393 := fun w ok => ha393 w (Ok.low lw401 ok)
    replace gle := GErrs.up lw401 gle
    refine nq (Q_len Tryd.underlying34 rfl r402) rfl rfl <| nq (Q_move rfl) rfl rfl <| WL_nil <| x_then ?_
    obtain ⟨o511, ho511, hF⟩ := bnd hF
    refine C_cutQ (fun a w' => ∃ (v507 : Value) (c508 : (List Value)) (x505 : Int) (x506 : Int) (x509 : (List Int)), .inl (x505, x506, x509) = o511 ∧ rdL (eI .u8) ρ x509 c508 ∧ Fr 79 a [(2, .pointer (some ⟨b312, 0, none⟩)), (7, .pointer (some ⟨b385, 0, none⟩))] ∧ Hp C w' ρ (Box b312 [.int .i64 0, .int .i64 0, .int .i64 0, .slice none 0 0] :: Box b385 [.int .i64 x372.2.1, .int .i64 x505, .int .i64 x506, v507] :: Arr v507 1 c508 :: hs)) ?_ ?_
    ·refine C_block ?_
     have H := H.nilArr 1
     replace H := H.f1
     replace H := H.f3
     replace H := H.f3
     replace H := H.f5
     replace H := H.drop 5 rfl
     dsimp only [List.eraseIdx] at H
     refine C_iter (f := fun s => F_script_Parse_1x_l0 N x318 x372 x388 s.1 s.2.1 s.2.2.1 s.2.2.2) ho511 (fun s a w' => ∃ (v547 : Value) (c548 : (List Value)) (x544 : Int) (x545 : Int) (x546 : Int) (x549 : (List Int)), (x544, x545, x546, x549) = s ∧ rdL (eI .u8) ρ x549 c548 ∧ Fr 79 a [(2, .pointer (some ⟨b312, 0, none⟩)), (4, .pointer (some ⟨b321, 0, none⟩)), (7, .pointer (some ⟨b385, 0, none⟩)), (59, v403), (60, .int .i64 ((sby x388.2.2).length : Int)), (61, .int .i64 x544)] ∧ Hp C w' ρ (Box b312 [.int .i64 0, .int .i64 0, .int .i64 0, .slice none 0 0] :: Box b321 [v316] :: Arr v316 1 c317 :: Box b385 [.int .i64 x372.2.1, .int .i64 x545, .int .i64 x546, v547] :: Arr v547 1 c548 :: hs)) ?_ ?_
     ·exact fun a hf => ⟨(.slice none 0 0), [], 0, 0, 0, [], rfl, rdL.nil, hf.sub ⟨rfl, rfl, rfl, rfl, rfl, rfl, trivial⟩, H⟩
     ·rintro s o583 a wd586 ⟨v547, c548, x544, x545, x546, x549, rfl, r550, hf, H⟩ hB584 hO585
      replace hB584 : F_script_Parse_1x_l0 N x318 x372 x388 x544 x545 x546 x549 = some o583 := hB584
      unfold F_script_Parse_1x_l0 at hB584
      refine CW.at hf <| C_seq <| R_nd <| nq (Q_lss rfl rfl) rfl rfl <| WL_nil <| x_then <| C_seq ?_
      refine C_cond rfl (fun hb => ?_) (fun hb => ?_)
      ·replace hB584 := itT hb hB584
       refine C_skip <| x_then <| C_seq <| C_block <| C_seq <| R_nd <| nq (Q_move rfl) rfl rfl ?_
       obtain ⟨x587, hx587, hB584⟩ := bnd hB584
       obtain ⟨b588, o589, c590, hc591, ha592, hi593⟩ := idxR r402 hx587
       refine nq (Q_idx hi593 Tryd.underlying34 ty5 rfl rfl) rfl rfl <| nq (v := .int .u8 x587) (Q_ld (show cellsAt _ _ _ [.int .u8 x587] from (show _ = [_] from hc591) ▸ (ha592.up H.ok.view)) ty5 rfl (fun _ => rfl) rfl rfl) rfl rfl <| nq (Q_assign rfl) rfl rfl <| nq (Q_assign rfl) rfl rfl <| WL_nil <| x_then <| C_seq <| R_nd <| nq (Q_move rfl) rfl rfl <| nq (v := v316) (Q_ldB (k := 1) (cs := [v316]) H.ok rfl ty32 rfl rfl rfl (fun _ => rfl) rfl) rfl rfl <| nq (Q_move rfl) rfl rfl <| nq (Q_add rfl rfl) rfl rfl ?_
       obtain ⟨x594, hx594, hB584⟩ := bnd hB584
       obtain ⟨b595, o596, hi600, hc598, ha599⟩ := arr_at (hs := [Arr v316 1 c317]) (k := 0) (by decide) (H.okS (by simp)) rfl r319 hx594
       refine nq (Q_idx hi600 Tryd.underlying32 ty9 rfl rfl) rfl rfl <| nq (v := .string x594) (Q_ld (show cellsAt _ _ _ [.string x594] from (show _ = [_] from hc598) ▸ (ha599 _ (Ok.subS (by simp) H.ok))) ty9 rfl (fun _ => rfl) rfl rfl) rfl rfl ?_
       replace H := H.f4
       replace H := H.f4
       obtain ⟨q601, hq601, hB584⟩ := bnd hB584
       refine ne (E_call fn33 rfl (c_33_1 H gle  r550 hq601)) rfl rfl ?_
       rintro _ wd610 ⟨v603, c604, x605, x606, x607, x608, rfl, rfl, r609, H⟩
       try dsimp only at hB584
       refine nq (Q_assign rfl) rfl rfl <| WL_nil <| x_then <| C_seq <| R_nd <| nq (Q_move rfl) rfl rfl <| nq (v := .bool (eOk errIds x608)) (Q_neqV Tryd.underlying25 gle rfl) rfl rfl <| WL_nil <| x_then ?_
       refine C_cond rfl (fun hb => ?_) (fun hb => ?_)
       ·replace hB584 := itT hb hB584
        refine C_seq <| R_nd <| nq (v := .agg #[.int .i64 0, .int .i64 0, .int .i64 0, .slice none 0 0]) (Q_buildS st43.choose_spec (ps := []) rfl trivial rfl) rfl rfl <| nq (Q_move rfl) rfl rfl <| ne (E_stB (k := 2) (cs := [.int .i64 0, .int .i64 0, .int .i64 0, .slice none 0 0]) (vs' := [.int .i64 0, .int .i64 0, .int .i64 0, .slice none 0 0]) H rfl ty43 rfl rfl rfl rfl (one_cons rfl (one_cons rfl (one_cons rfl (one_cons rfl one_nil)))) (by simp) rfl) rfl rfl ?_
        rintro _ wd611 H
        dsimp only [List.set] at H
        refine nq (Q_assign rfl) rfl rfl <| WL_nil <| x_then <| C_ret <| x_block_ret <| x_then_ret <| x_then_ret <| x_block_ret <| x_then_ret <| x_then_ret ?_
        have H := H.nilArr 1
        have hRV : RV Tryd.prog wd611 [(2, .pointer (some ⟨b312, 0, none⟩)), (3, errV errIds gV x608)] [.cell 2 43, .tmp 3] [.agg #[.int .i64 0, .int .i64 0, .int .i64 0, (.slice none 0 0)], errV errIds gV x608] := ⟨⟨_, rfl, run_ldv ty43 rfl (fun h => nomatch h) (box_at (H.ok.get (k := 3) rfl) 0 4)⟩, rfl, trivial⟩
        replace H := H.drop 1 rfl
        dsimp only [List.eraseIdx] at H
        replace H := H.drop 1 rfl
        dsimp only [List.eraseIdx] at H
        replace H := H.drop 1 rfl
        dsimp only [List.eraseIdx] at H
        replace H := H.drop 1 rfl
        dsimp only [List.eraseIdx] at H
        replace H := H.drop 1 rfl
        dsimp only [List.eraseIdx] at H
        obtain rfl := Option.some.inj hB584
        obtain rfl := hO585 _ rfl
        obtain rfl := Option.some.inj (show some _ = some _ from hF)
        exact fn_retV (rs := [.cell 2 43, .tmp 3]) (vs := [.agg #[.int .i64 0, .int .i64 0, .int .i64 0, (.slice none 0 0)], errV errIds gV x608]) rfl hRV ⟨ρ, (.slice none 0 0), [], 0, 0, 0, [], x608, rfl, rfl, lw401, rdL.nil, H⟩
       ·replace hB584 := itF hb hB584
        refine C_skip <| x_block <| x_then <| R_nd <| nq (Q_add rfl rfl) rfl rfl <| nq (Q_move rfl) rfl rfl <| WL_nil ?_
        replace H := H.f1
        replace H := H.f1
        replace H := H.f4
        replace H := H.f4
        replace H := H.f4
        obtain rfl := Option.some.inj hB584
        refine x_A fun a hf => ⟨_, rfl, v603, c604, w64 (x544 + 1), x605, x606, x607, rfl, r609, hf.sub ⟨rfl, rfl, rfl, rfl, rfl, rfl, trivial⟩, H⟩
      ·replace hB584 := itF hb hB584
       refine C_exit <| x_then_exit <| x_then_exit <| x_block_exit ?_
       replace H := H.f4
       replace H := H.f4
       replace H := H.f2
       replace H := H.drop 3 rfl
       dsimp only [List.eraseIdx] at H
       replace H := H.drop 3 rfl
       dsimp only [List.eraseIdx] at H
       obtain rfl := Option.some.inj hB584
       obtain rfl := hO585 _ rfl
       refine x_A fun a hf => ⟨v547, c548, x545, x546, x549, rfl, r550, hf.sub ⟨rfl, rfl, trivial⟩, H⟩
    ·rintro a wd612 ⟨v507, c508, x505, x506, x509, rfl, r510, hf, H⟩
     try dsimp only at hF
     refine XX.at hf <| x_then <| C_seq <| R_nd <| nq (v := .agg #[.int .i64 x372.2.1, .int .i64 x505, .int .i64 x506, v507]) (Q_ldB (k := 1) (cs := [.int .i64 x372.2.1, .int .i64 x505, .int .i64 x506, v507]) H.ok rfl ty43 rfl rfl rfl (fun h => nomatch h) rfl) rfl rfl <| ne (E_stB (k := 0) (cs := [.int .i64 x372.2.1, .int .i64 x505, .int .i64 x506, v507]) (vs' := [.int .i64 x372.2.1, .int .i64 x505, .int .i64 x506, v507]) H rfl ty43 rfl rfl rfl rfl (one_cons rfl (one_cons rfl (one_cons rfl (one_cons (arr_cells (H.ok.get (k := 2) rfl)).2 one_nil)))) (by simp) rfl) rfl rfl ?_
     rintro _ wd613 H
     dsimp only [List.set] at H
     refine nq (Q_assign rfl) rfl rfl <| WL_nil <| x_then <| C_ret ?_
     have hRV : RV Tryd.prog wd613 [(2, .pointer (some ⟨b312, 0, none⟩)), (3, .nilIface)] [.cell 2 43, .tmp 3] [.agg #[.int .i64 x372.2.1, .int .i64 x505, .int .i64 x506, v507], errV errIds gV 0] := ⟨⟨_, rfl, run_ldv ty43 rfl (fun h => nomatch h) (box_at (H.ok.get (k := 0) rfl) 0 4)⟩, rfl, trivial⟩
     replace H := H.f2
     replace H := H.drop 1 rfl
     dsimp only [List.eraseIdx] at H
     replace H := H.drop 1 rfl
     dsimp only [List.eraseIdx] at H
     obtain rfl := Option.some.inj hF
     exact fn_retV (rs := [.cell 2 43, .tmp 3]) (vs := [.agg #[.int .i64 x372.2.1, .int .i64 x505, .int .i64 x506, v507], errV errIds gV 0]) rfl hRV ⟨ρ, v507, c508, x372.2.1, x505, x506, x509, 0, rfl, rfl, lw401, r510, H⟩
theorem c_25 {N : Nat} {C : Cx} {w : World} {ρ : View} {hs : List Hl} {x1 : ByteArray} (H : Hp C w ρ (hs)) {gV : Nat → Value} (_gle : GErrs ρ 137 errIds gV) {r : (List ByteArray)} (hF : F_dofferref36_words N x1 = some r) :
  Calls Tryd.prog 25 [.string x1].toArray w (Rets (fun v w' => (∃ (v1440 : Value) (c1441 : (List Value)) (x1442 : (List ByteArray)), x1442 = r ∧ v1440 = v ∧ rdL eS ρ x1442 c1441 ∧ Hp C w' ρ (Arr v1440 1 c1441 :: hs)))) := by
 unfold F_dofferref36_words at hF
 have h0 : Tryd.f25.body = some _ := rfl
 refine fn_calls' Tryd.func25 h0 (n := 33) rfl (by simp) <| C_seq <| R_nd <| nq (Q_assign rfl) rfl rfl <| WL_nil <| x_then <| C_seq <| R_nd <| ne (E_bslice (xs := [.const (.string ⟨#[]⟩)]) (vs := [.string ByteArray.empty]) H Tryd.underlying32 ty9 (by decide) (cs := [.string ByteArray.empty]) rfl (sz_cons rfl sz_nil) rfl (by simp) (by simp) rfl rfl) rfl rfl ?_
 rintro _ wd1445 ⟨b1444, rfl, H⟩
 refine nq (Q_assign rfl) rfl rfl <| WL_nil <| x_then <| C_seq <| C_seq <| R_nd <| nq (Q_assign rfl) rfl rfl <| WL_nil <| x_then ?_
 obtain ⟨o2165, ho2165, hF⟩ := bnd hF
 refine C_cutQ (fun a w' => ∃ (v2161 : Value) (c2162 : (List Value)) (x2163 : (List ByteArray)), x2163 = o2165 ∧ rdL eS ρ x2163 c2162 ∧ Fr 33 a [(3, v2161)] ∧ Hp C w' ρ (Arr v2161 1 c2162 :: hs)) ?_ ?_
 ·refine C_block ?_
  refine C_iter (f := fun s => F_dofferref36_words_l0 N x1 s.1 s.2) ho2165 (fun s a w' => ∃ (v2403 : Value) (c2404 : (List Value)) (x2405 : (List ByteArray)) (x2407 : Int), (x2405, x2407) = s ∧ rdL eS ρ x2405 c2404 ∧ Fr 33 a [(0, .string x1), (3, v2403), (4, .int .i64 x2407)] ∧ Hp C w' ρ (Arr v2403 1 c2404 :: hs)) ?_ ?_
  ·exact fun a hf => ⟨(.slice (some ⟨b1444, 0, none⟩) 1 1), [.string ByteArray.empty], [ByteArray.empty], 0, rfl, (show rdL eS ρ ([ByteArray.empty]) ([.string ByteArray.empty]) from ⟨([.string ByteArray.empty]), _, rfl, rfl, rdL.nil⟩), hf.sub ⟨rfl, rfl, rfl, trivial⟩, H⟩
  ·rintro s o2645 a wd2648 ⟨v2403, c2404, x2405, x2407, rfl, r2406, hf, H⟩ hB2646 hO2647
   replace hB2646 : F_dofferref36_words_l0 N x1 x2405 x2407 = some o2645 := hB2646
   unfold F_dofferref36_words_l0 at hB2646
   refine CW.at hf <| C_seq <| C_seq <| R_nd <| nq (Q_move rfl) rfl rfl <| nq (Q_move rfl) rfl rfl <| nq (Q_lenStr Tryd.underlying9 rfl) rfl rfl <| nq (Q_lss rfl rfl) rfl rfl <| WL_nil <| x_then ?_
   refine C_cond rfl (fun hb => ?_) (fun hb => ?_)
   ·replace hB2646 := itT hb hB2646
    refine C_skip <| x_then ?_
    obtain ⟨o2766, ho2766, hB2646⟩ := bnd hB2646
    refine C_cut (fun a w' => ∃ (v2762 : Value) (c2763 : (List Value)) (x2764 : (List ByteArray)), x2764 = o2766 ∧ rdL eS ρ x2764 c2763 ∧ Fr 33 a [(0, .string x1), (3, v2762), (4, .int .i64 x2407)] ∧ Hp C w' ρ (Arr v2762 1 c2763 :: hs)) ?_ ?_
    ·refine C_block <| C_seq <| R_nd <| nq (Q_move rfl) rfl rfl <| nq (Q_move rfl) rfl rfl ?_
     obtain ⟨x2767, hx2767, ho2766⟩ := bnd ho2766
     refine nq (Q_ixS hx2767 Tryd.underlying9 rfl rfl) rfl rfl <| nq (Q_eql rfl rfl) rfl rfl <| WL_nil <| x_then ?_
     obtain ⟨o2825, ho2825, ho2766⟩ := bnd ho2766
     refine C_cutQ (fun a w' => ∃ (v2821 : Value) (c2822 : (List Value)) (x2823 : (List ByteArray)), x2823 = o2825 ∧ rdL eS ρ x2823 c2822 ∧ Fr 33 a [(0, .string x1), (3, v2821), (4, .int .i64 x2407)] ∧ Hp C w' ρ (Arr v2821 1 c2822 :: hs)) ?_ ?_
     ·refine C_cond rfl (fun hb => ?_) (fun hb => ?_)
      ·replace ho2825 := itT hb ho2825
       refine R_nd <| nq (Q_move rfl) rfl rfl <| ne (E_bslice (xs := [.const (.string ⟨#[]⟩)]) (vs := [.string ByteArray.empty]) H Tryd.underlying32 ty9 (by decide) (cs := [.string ByteArray.empty]) rfl (sz_cons rfl sz_nil) rfl (by simp) (by simp) rfl rfl) rfl rfl ?_
       rintro _ wd2827 ⟨b2826, rfl, H⟩
       obtain ⟨x2828, hx2828, ho2825⟩ := bnd ho2825
       obtain ⟨ha2829a, ha2829b⟩ := app_some hx2828
       have r2831 : rdL eS ρ x2828 (c2404 ++ ([.string ByteArray.empty])) := ha2829b ▸ rdL.app r2406 (show rdL eS ρ ([ByteArray.empty]) ([.string ByteArray.empty]) from ⟨([.string ByteArray.empty]), _, rfl, rfl, rdL.nil⟩)
       refine ne (E_append (k := 1) H rfl Tryd.underlying32 ty9 rfl (by decide) (by decide) rfl rfl (Src.ofArr (k := 0) H.ok rfl) (rdL.one (show rdL eS ρ ([ByteArray.empty]) ([.string ByteArray.empty]) from ⟨([.string ByteArray.empty]), _, rfl, rfl, rdL.nil⟩)) (app_fit r2406 (show rdL eS ρ ([ByteArray.empty]) ([.string ByteArray.empty]) from ⟨([.string ByteArray.empty]), _, rfl, rfl, rdL.nil⟩) ha2829a)) rfl rfl ?_
       rintro v2830 wd2833 ⟨H, hc2832⟩
       dsimp only [List.set] at H
       refine nq (Q_assign rfl) rfl rfl <| WL_nil ?_
       replace H := H.f1
       replace H := H.drop 1 rfl
       dsimp only [List.eraseIdx] at H
       obtain rfl := Option.some.inj ho2825
       refine x_A fun a hf => ⟨v2830, (c2404 ++ ([.string ByteArray.empty])), x2828, rfl, r2831, hf.sub ⟨rfl, rfl, rfl, trivial⟩, H⟩
      ·replace ho2825 := itF hb ho2825
       obtain ⟨o2857, ho2857, ho2825⟩ := bnd ho2825
       refine C_cutQ (fun a w' => ∃ (c2854 : (List Value)) (x2855 : (List ByteArray)), x2855 = o2857 ∧ rdL eS ρ x2855 c2854 ∧ Fr 33 a [(0, .string x1), (3, v2403), (4, .int .i64 x2407)] ∧ Hp C w' ρ (Arr v2403 1 c2854 :: hs)) ?_ ?_
       ·refine R_dr (.take 0 (.take 1 (.take 6 (.take 7 (.take 8 (.take 9 (.take 10 (.one 2 (.take 3 (.take 4 (.one 5 (.take 11 (.take 12 (.one 13 .done)))))))))))))) (fun w' => Ok w' ρ []) (by kernel_rfl) (by kernel_rfl) (by kernel_rfl) (H.drew.okS (by simp)) ?_
        replace H := H.drew
        refine dq rfl (fun _ _ => Q_move rfl) rfl rfl <| dq rfl (fun _ _ => Q_move rfl) rfl rfl <| dq rfl (fun _ _ => Q_move rfl) rfl rfl <| dq rfl (fun _ _ => Q_move rfl) rfl rfl <| dq rfl (fun _ _ => Q_move rfl) rfl rfl <| dq rfl (fun _ _ => Q_add rfl rfl) rfl rfl ?_
        obtain ⟨x2858, hx2858, ho2857⟩ := bnd ho2857
        refine dq rfl (fun _ _ => Q_slStr hx2858 Tryd.underlying9 rfl ⟨_, rfl⟩ ⟨_, rfl⟩) rfl rfl ?_
        refine d1 (de rfl (Eff.quiet (v := .int .i64 (x2405.length : Int)) (Q_lenA (k := 0) H.ok rfl r2406 (by decide) Tryd.underlying32 rfl)) rfl rfl ?_)
        rintro _ _ ⟨rfl, rfl⟩
        refine ⟨H.okS (by simp), ?_⟩
        refine dq rfl (fun _ _ => Q_sub rfl rfl) rfl rfl ?_
        obtain ⟨x2859, hx2859, ho2857⟩ := bnd ho2857
        obtain ⟨b2860, o2861, hi2865, hc2863, ha2864⟩ := arr_at (hs := [Arr v2403 1 c2404]) (k := 0) (by decide) (H.okS (by simp)) rfl r2406 hx2859
        refine dq rfl (fun _ _ => Q_idx hi2865 Tryd.underlying32 ty9 rfl rfl) rfl rfl ?_
        refine d1 (de rfl (Eff.quiet (v := .string x2859) (Q_ld (show cellsAt _ _ _ [.string x2859] from (show _ = [_] from hc2863) ▸ (ha2864 _ (Ok.subS (by simp) H.ok))) ty9 rfl (fun _ => rfl) rfl rfl)) rfl rfl ?_)
        rintro _ _ ⟨rfl, rfl⟩
        refine ⟨H.okS (by simp), ?_⟩
        obtain ⟨x2866, hx2866, ho2857⟩ := bnd ho2857
        refine dq rfl (fun _ _ => Q_cat hx2866 rfl rfl) rfl rfl ?_
        obtain ⟨x2867, hx2867, ho2857⟩ := bnd ho2857
        obtain ⟨b2868, o2869, hi2873, hc2871, ha2872⟩ := arr_at (hs := [Arr v2403 1 c2404]) (k := 0) (by decide) (H.okS (by simp)) rfl r2406 hx2867
        refine dq rfl (fun _ _ => Q_idx hi2873 Tryd.underlying32 ty9 rfl rfl) rfl rfl ?_
        obtain ⟨x2874, hx2874, ho2857⟩ := bnd ho2857
        obtain ⟨hs2875a, hs2875b, hs2875c⟩ := setI_some hx2874
        have r2876 : rdL eS ρ x2874 (setC c2404 ((w64 ((x2405.length : Int) - 1)).toNat * 1 + 0) [.string x2866]) := hs2875c ▸ rdL.set r2406 hs2875b (rfl)
        refine d1 (de rfl (E_stA (k := 0) (j := 0) (c := [.string x2866]) H rfl ty9 hi2873 rfl rfl rfl rfl (one_cons rfl one_nil) (by decide)) rfl rfl ?_)
        rintro _ wd2877 H
        dsimp only [List.set] at H
        refine ⟨H.okS (by simp), ?_⟩
        refine DL_nil ?_
        obtain rfl := Option.some.inj ho2857
        refine x_A fun a hf => ⟨(setC c2404 ((w64 ((x2405.length : Int) - 1)).toNat * 1 + 0) [.string x2866]), x2874, rfl, r2876, hf.sub ⟨rfl, rfl, rfl, trivial⟩, H⟩
       ·rintro a wd2878 ⟨c2854, x2855, rfl, r2856, hf, H⟩
        try dsimp only at ho2825
        refine XX.at hf ?_
        obtain rfl := Option.some.inj ho2825
        refine x_A fun a hf => ⟨v2403, c2854, x2855, rfl, r2856, hf.sub ⟨rfl, rfl, rfl, trivial⟩, H⟩
     ·rintro a wd2879 ⟨v2821, c2822, x2823, rfl, r2824, hf, H⟩
      try dsimp only at ho2766
      refine XX.at hf <| x_block ?_
      obtain rfl := Option.some.inj ho2766
      refine x_A fun a hf => ⟨v2821, c2822, x2823, rfl, r2824, hf.sub ⟨rfl, rfl, rfl, trivial⟩, H⟩
    ·rintro a wd2880 ⟨v2762, c2763, x2764, rfl, r2765, hf, H⟩
     try dsimp only at hB2646
     refine CW.at hf <| R_nd <| nq (Q_move rfl) rfl rfl <| nq (Q_add rfl rfl) rfl rfl <| nq (Q_assign rfl) rfl rfl <| WL_nil ?_
     obtain rfl := Option.some.inj hB2646
     refine x_A fun a hf => ⟨_, rfl, v2762, c2763, x2764, w64 (x2407 + 1), rfl, r2765, hf.sub ⟨rfl, rfl, rfl, trivial⟩, H⟩
   ·replace hB2646 := itF hb hB2646
    refine C_exit <| x_then_exit <| x_then_exit <| x_block_exit ?_
    obtain rfl := Option.some.inj hB2646
    obtain rfl := hO2647 _ rfl
    refine x_A fun a hf => ⟨v2403, c2404, x2405, rfl, r2406, hf.sub ⟨rfl, trivial⟩, H⟩
 ·rintro a wd2881 ⟨v2161, c2162, x2163, rfl, r2164, hf, H⟩
  try dsimp only at hF
  refine XX.at hf <| x_then <| C_seq <| R_nd <| nq (Q_move rfl) rfl rfl <| nq (Q_assign rfl) rfl rfl <| WL_nil <| x_then <| C_ret ?_
  obtain rfl := Option.some.inj hF
  exact fn_ret (l := [.tmp 2]) (vs := [v2161]) rfl rfl rfl ⟨v2161, c2162, x2163, rfl, rfl, r2164, H⟩
theorem c_52 {N : Nat} {C : Cx} {w : World} {ρ : View} {hs : List Hl} {x1 : Int} (H : Hp C w ρ (hs)) {gV : Nat → Value} (_gle : GErrs ρ 137 errIds gV) {r : Int} (hF : F_dofferref05_figure N x1 = some r) :
  Calls Tryd.prog 52 [.int .u8 x1].toArray w (Rets (fun v w' => (∃ (x11 : Int), x11 = r ∧ .int .i64 x11 = v ∧ Hp C w' ρ (hs)))) := by
 unfold F_dofferref05_figure at hF
 have h0 : Tryd.f52.body = some _ := rfl
 refine fn_calls' Tryd.func52 h0 (n := 32) rfl (by simp) <| C_seq <| R_nd <| nq (Q_assign rfl) rfl rfl <| WL_nil <| x_then <| C_seq ?_
 obtain ⟨o13, ho13, hF⟩ := bnd hF
 refine C_cut (fun a w' => ∃ (x12 : Bool), x12 = o13 ∧ Fr 32 a [(0, .int .u8 x1), (8, .bool x12)] ∧ Hp C w' ρ (hs)) ?_ ?_
 ·refine R_nd <| nq (Q_move rfl) rfl rfl <| nq (Q_geq rfl rfl) rfl rfl <| nq (Q_move rfl) rfl rfl ?_
  rcases Bool.eq_false_or_eq_true (decide (x1 ≥ 48)) with hb | hb
  ·rw [hb]
   replace ho13 := itT hb ho13
   refine gq (Q_move rfl) rfl rfl rfl <| gq (Q_leq rfl rfl) rfl rfl rfl <| nq (Q_pickT rfl rfl) rfl rfl <| WL_nil ?_
   obtain rfl := Option.some.inj ho13
   refine x_A fun a hf => ⟨decide (x1 ≤ 57), rfl, hf.sub ⟨rfl, rfl, trivial⟩, H⟩
  ·rw [hb]
   replace ho13 := itF hb ho13
   refine gs rfl rfl rfl rfl <| gs rfl rfl rfl rfl <| nq (Q_pickF rfl rfl) rfl rfl <| WL_nil ?_
   obtain rfl := Option.some.inj ho13
   refine x_A fun a hf => ⟨false, rfl, hf.sub ⟨rfl, rfl, trivial⟩, H⟩
 ·rintro a wd14 ⟨x12, rfl, hf, H⟩
  try dsimp only at hF
  refine CW.at hf ?_
  refine C_cond rfl (fun hb => ?_) (fun hb => ?_)
  ·replace hF := itT hb hF
   refine C_seq <| R_nd <| nq (Q_move rfl) rfl rfl <| nq (Q_sub rfl rfl) rfl rfl <| nq (Q_cvI ⟨_, Tryd.underlying5⟩ Tryd.underlying3 rfl) rfl rfl <| nq (Q_assign rfl) rfl rfl <| WL_nil <| x_then <| C_ret <| x_then_ret ?_
   obtain rfl := Option.some.inj hF
   exact fn_ret (l := [.tmp 2]) (vs := [.int .i64 (IntKind.wrap .i64 (IntKind.wrap .u8 (x1 - 48)))]) rfl rfl rfl ⟨IntKind.wrap .i64 (IntKind.wrap .u8 (x1 - 48)), rfl, rfl, H⟩
  ·replace hF := itF hb hF
   refine C_skip <| x_then <| C_seq ?_
   obtain ⟨o16, ho16, hF⟩ := bnd hF
   refine C_cut (fun a w' => ∃ (x15 : Bool), x15 = o16 ∧ Fr 32 a [(0, .int .u8 x1), (17, .bool x15)] ∧ Hp C w' ρ (hs)) ?_ ?_
   ·refine R_nd <| nq (Q_move rfl) rfl rfl <| nq (Q_geq rfl rfl) rfl rfl <| nq (Q_move rfl) rfl rfl ?_
    rcases Bool.eq_false_or_eq_true (decide (x1 ≥ 97)) with hb | hb
    ·rw [hb]
     replace ho16 := itT hb ho16
     refine gq (Q_move rfl) rfl rfl rfl <| gq (Q_leq rfl rfl) rfl rfl rfl <| nq (Q_pickT rfl rfl) rfl rfl <| WL_nil ?_
     obtain rfl := Option.some.inj ho16
     refine x_A fun a hf => ⟨decide (x1 ≤ 102), rfl, hf.sub ⟨rfl, rfl, trivial⟩, H⟩
    ·rw [hb]
     replace ho16 := itF hb ho16
     refine gs rfl rfl rfl rfl <| gs rfl rfl rfl rfl <| nq (Q_pickF rfl rfl) rfl rfl <| WL_nil ?_
     obtain rfl := Option.some.inj ho16
     refine x_A fun a hf => ⟨false, rfl, hf.sub ⟨rfl, rfl, trivial⟩, H⟩
   ·rintro a wd17 ⟨x15, rfl, hf, H⟩
    try dsimp only at hF
    refine CW.at hf ?_
    refine C_cond rfl (fun hb => ?_) (fun hb => ?_)
    ·replace hF := itT hb hF
     refine C_seq <| R_nd <| nq (Q_move rfl) rfl rfl <| nq (Q_sub rfl rfl) rfl rfl <| nq (Q_cvI ⟨_, Tryd.underlying5⟩ Tryd.underlying3 rfl) rfl rfl <| nq (Q_add rfl rfl) rfl rfl <| nq (Q_assign rfl) rfl rfl <| WL_nil <| x_then <| C_ret <| x_then_ret ?_
     obtain rfl := Option.some.inj hF
     exact fn_ret (l := [.tmp 2]) (vs := [.int .i64 (w64 ((IntKind.wrap .i64 (IntKind.wrap .u8 (x1 - 97))) + 10))]) rfl rfl rfl ⟨w64 ((IntKind.wrap .i64 (IntKind.wrap .u8 (x1 - 97))) + 10), rfl, rfl, H⟩
    ·replace hF := itF hb hF
     refine C_skip <| x_then <| C_seq ?_
     obtain ⟨o19, ho19, hF⟩ := bnd hF
     refine C_cut (fun a w' => ∃ (x18 : Bool), x18 = o19 ∧ Fr 32 a [(0, .int .u8 x1), (27, .bool x18)] ∧ Hp C w' ρ (hs)) ?_ ?_
     ·refine R_nd <| nq (Q_move rfl) rfl rfl <| nq (Q_geq rfl rfl) rfl rfl <| nq (Q_move rfl) rfl rfl ?_
      rcases Bool.eq_false_or_eq_true (decide (x1 ≥ 65)) with hb | hb
      ·rw [hb]
       replace ho19 := itT hb ho19
       refine gq (Q_move rfl) rfl rfl rfl <| gq (Q_leq rfl rfl) rfl rfl rfl <| nq (Q_pickT rfl rfl) rfl rfl <| WL_nil ?_
       obtain rfl := Option.some.inj ho19
       refine x_A fun a hf => ⟨decide (x1 ≤ 70), rfl, hf.sub ⟨rfl, rfl, trivial⟩, H⟩
      ·rw [hb]
       replace ho19 := itF hb ho19
       refine gs rfl rfl rfl rfl <| gs rfl rfl rfl rfl <| nq (Q_pickF rfl rfl) rfl rfl <| WL_nil ?_
       obtain rfl := Option.some.inj ho19
       refine x_A fun a hf => ⟨false, rfl, hf.sub ⟨rfl, rfl, trivial⟩, H⟩
     ·rintro a wd20 ⟨x18, rfl, hf, H⟩
      try dsimp only at hF
      refine CW.at hf ?_
      refine C_cond rfl (fun hb => ?_) (fun hb => ?_)
      ·replace hF := itT hb hF
       refine C_seq <| R_nd <| nq (Q_move rfl) rfl rfl <| nq (Q_sub rfl rfl) rfl rfl <| nq (Q_cvI ⟨_, Tryd.underlying5⟩ Tryd.underlying3 rfl) rfl rfl <| nq (Q_add rfl rfl) rfl rfl <| nq (Q_assign rfl) rfl rfl <| WL_nil <| x_then <| C_ret <| x_then_ret ?_
       obtain rfl := Option.some.inj hF
       exact fn_ret (l := [.tmp 2]) (vs := [.int .i64 (w64 ((IntKind.wrap .i64 (IntKind.wrap .u8 (x1 - 65))) + 10))]) rfl rfl rfl ⟨w64 ((IntKind.wrap .i64 (IntKind.wrap .u8 (x1 - 65))) + 10), rfl, rfl, H⟩
      ·replace hF := itF hb hF
       refine C_skip <| x_then <| C_seq <| R_nd <| nq (Q_assign rfl) rfl rfl <| WL_nil <| x_then <| C_ret ?_
       obtain rfl := Option.some.inj hF
       exact fn_ret (l := [.tmp 2]) (vs := [.int .i64 (-1)]) rfl rfl rfl ⟨(-1), rfl, rfl, H⟩
theorem c_42_1 {N : Nat} {C : Cx} {w : World} {ρ : View} {hs : List Hl} {x1 : ByteArray} {x2 : Int} (H : Hp C w ρ (hs)) {gV : Nat → Value} (gle : GErrs ρ 137 errIds gV) {r : (Int × Int × Int)} (hF : F_dofferref05_Read_1 N x1 x2 = some r) :
  Calls Tryd.prog 42 [.string x1, .int .i64 x2].toArray w (Rets (fun v w' => (∃ (x32 : Int) (x33 : Int) (x34 : Int), (x32, x33, x34) = r ∧ .tuple [.int .u8 x32, .int .i64 x33, .int .i64 x34].toArray = v ∧ Hp C w' ρ (hs)))) := by
 unfold F_dofferref05_Read_1 at hF
 have h0 : Tryd.f42.body = some _ := rfl
 refine fn_calls' Tryd.func42 h0 (n := 136) rfl (by simp) <| C_seq <| R_nd <| nq (Q_assign rfl) rfl rfl <| nq (Q_assign rfl) rfl rfl <| nq (Q_assign rfl) rfl rfl <| WL_nil <| x_then <| C_seq ?_
 obtain ⟨o36, ho36, hF⟩ := bnd hF
 refine C_cut (fun a w' => ∃ (x35 : Bool), x35 = o36 ∧ Fr 136 a [(0, .string x1), (1, .int .i64 x2), (15, .bool x35)] ∧ Hp C w' ρ (hs)) ?_ ?_
 ·refine R_nd <| nq (Q_move rfl) rfl rfl <| nq (Q_lss rfl rfl) rfl rfl <| nq (Q_move rfl) rfl rfl ?_
  rcases Bool.eq_false_or_eq_true (decide (x2 < 0)) with hb | hb
  ·rw [hb]
   replace ho36 := itT hb ho36
   refine gs rfl rfl rfl rfl <| gs rfl rfl rfl rfl <| gs rfl rfl rfl rfl <| gs rfl rfl rfl rfl <| nq (Q_pickT rfl rfl) rfl rfl <| WL_nil ?_
   obtain rfl := Option.some.inj ho36
   refine x_A fun a hf => ⟨true, rfl, hf.sub ⟨rfl, rfl, rfl, trivial⟩, H⟩
  ·rw [hb]
   replace ho36 := itF hb ho36
   refine gq (Q_move rfl) rfl rfl rfl <| gq (Q_move rfl) rfl rfl rfl <| gq (Q_lenStr Tryd.underlying9 rfl) rfl rfl rfl <| gq (Q_geq rfl rfl) rfl rfl rfl <| nq (Q_pickF rfl rfl) rfl rfl <| WL_nil ?_
   obtain rfl := Option.some.inj ho36
   refine x_A fun a hf => ⟨decide (x2 ≥ (x1.size : Int)), rfl, hf.sub ⟨rfl, rfl, rfl, trivial⟩, H⟩
 ·rintro a wd37 ⟨x35, rfl, hf, H⟩
  try dsimp only at hF
  refine CW.at hf ?_
  refine C_cond rfl (fun hb => ?_) (fun hb => ?_)
  ·replace hF := itT hb hF
   refine C_seq <| R_nd <| nq (Q_move rfl) rfl rfl <| nq (Q_lenStr Tryd.underlying9 rfl) rfl rfl <| nq (Q_assign rfl) rfl rfl <| nq (Q_assign rfl) rfl rfl <| nq (Q_assign rfl) rfl rfl <| WL_nil <| x_then <| C_ret <| x_then_ret ?_
   obtain rfl := Option.some.inj hF
   exact fn_ret (l := [.tmp 4, .tmp 5, .tmp 6]) (vs := [.int .u8 0, .int .i64 (x1.size : Int), .int .i64 2]) rfl rfl rfl ⟨0, (x1.size : Int), 2, rfl, rfl, H⟩
  ·replace hF := itF hb hF
   refine C_skip <| x_then <| C_seq <| C_seq <| R_nd <| nq (Q_move rfl) rfl rfl <| nq (Q_move rfl) rfl rfl ?_
   obtain ⟨x38, hx38, hF⟩ := bnd hF
   refine nq (Q_ixS hx38 Tryd.underlying9 rfl rfl) rfl rfl <| nq (Q_neq rfl rfl) rfl rfl <| WL_nil <| x_then ?_
   refine C_cond rfl (fun hb => ?_) (fun hb => ?_)
   ·replace hF := itT hb hF
    refine C_seq <| R_nd <| nq (Q_move rfl) rfl rfl <| nq (Q_move rfl) rfl rfl ?_
    obtain ⟨x39, hx39, hF⟩ := bnd hF
    refine nq (Q_ixS hx39 Tryd.underlying9 rfl rfl) rfl rfl <| nq (Q_move rfl) rfl rfl <| nq (Q_add rfl rfl) rfl rfl <| nq (Q_assign rfl) rfl rfl <| nq (Q_assign rfl) rfl rfl <| nq (Q_assign rfl) rfl rfl <| WL_nil <| x_then <| C_ret <| x_then_ret ?_
    obtain rfl := Option.some.inj hF
    exact fn_ret (l := [.tmp 4, .tmp 5, .tmp 6]) (vs := [.int .u8 x39, .int .i64 (w64 (x2 + 1)), .int .i64 0]) rfl rfl rfl ⟨x39, w64 (x2 + 1), 0, rfl, rfl, H⟩
   ·replace hF := itF hb hF
    refine C_skip <| x_then <| C_seq <| C_seq <| R_nd <| nq (Q_move rfl) rfl rfl <| nq (Q_move rfl) rfl rfl <| nq (Q_lenStr Tryd.underlying9 rfl) rfl rfl <| nq (Q_sub rfl rfl) rfl rfl <| nq (Q_eql rfl rfl) rfl rfl <| WL_nil <| x_then ?_
    refine C_cond rfl (fun hb => ?_) (fun hb => ?_)
    ·replace hF := itT hb hF
     refine C_seq <| R_nd <| nq (Q_move rfl) rfl rfl <| nq (Q_lenStr Tryd.underlying9 rfl) rfl rfl <| nq (Q_assign rfl) rfl rfl <| nq (Q_assign rfl) rfl rfl <| nq (Q_assign rfl) rfl rfl <| WL_nil <| x_then <| C_ret <| x_then_ret ?_
     obtain rfl := Option.some.inj hF
     exact fn_ret (l := [.tmp 4, .tmp 5, .tmp 6]) (vs := [.int .u8 0, .int .i64 (x1.size : Int), .int .i64 2]) rfl rfl rfl ⟨0, (x1.size : Int), 2, rfl, rfl, H⟩
    ·replace hF := itF hb hF
     refine C_skip <| x_then <| C_seq <| R_nd <| nq (Q_move rfl) rfl rfl <| nq (Q_move rfl) rfl rfl <| nq (Q_add rfl rfl) rfl rfl ?_
     obtain ⟨x40, hx40, hF⟩ := bnd hF
     refine nq (Q_ixS hx40 Tryd.underlying9 rfl rfl) rfl rfl <| nq (Q_assign rfl) rfl rfl <| WL_nil <| x_then <| C_seq <| C_seq <| R_nd <| nq (Q_move rfl) rfl rfl <| nq (Q_eql rfl rfl) rfl rfl <| WL_nil <| x_then ?_
     refine C_cond rfl (fun hb => ?_) (fun hb => ?_)
     ·replace hF := itT hb hF
      refine C_seq <| R_nd <| nq (Q_move rfl) rfl rfl <| nq (Q_add rfl rfl) rfl rfl <| nq (Q_assign rfl) rfl rfl <| nq (Q_assign rfl) rfl rfl <| nq (Q_assign rfl) rfl rfl <| WL_nil <| x_then <| C_ret <| x_then_ret ?_
      obtain rfl := Option.some.inj hF
      exact fn_ret (l := [.tmp 4, .tmp 5, .tmp 6]) (vs := [.int .u8 10, .int .i64 (w64 (x2 + 2)), .int .i64 0]) rfl rfl rfl ⟨10, w64 (x2 + 2), 0, rfl, rfl, H⟩
     ·replace hF := itF hb hF
      refine C_skip <| x_then <| C_seq <| C_seq <| R_nd <| nq (Q_move rfl) rfl rfl <| nq (Q_eql rfl rfl) rfl rfl <| WL_nil <| x_then ?_
      refine C_cond rfl (fun hb => ?_) (fun hb => ?_)
      ·replace hF := itT hb hF
       refine C_seq <| R_nd <| nq (Q_move rfl) rfl rfl <| nq (Q_add rfl rfl) rfl rfl <| nq (Q_assign rfl) rfl rfl <| nq (Q_assign rfl) rfl rfl <| nq (Q_assign rfl) rfl rfl <| WL_nil <| x_then <| C_ret <| x_then_ret ?_
       obtain rfl := Option.some.inj hF
       exact fn_ret (l := [.tmp 4, .tmp 5, .tmp 6]) (vs := [.int .u8 9, .int .i64 (w64 (x2 + 2)), .int .i64 0]) rfl rfl rfl ⟨9, w64 (x2 + 2), 0, rfl, rfl, H⟩
      ·replace hF := itF hb hF
       refine C_skip <| x_then <| C_seq <| C_seq <| R_nd <| nq (Q_move rfl) rfl rfl <| nq (Q_eql rfl rfl) rfl rfl <| WL_nil <| x_then ?_
       refine C_cond rfl (fun hb => ?_) (fun hb => ?_)
       ·replace hF := itT hb hF
        refine C_seq <| R_nd <| nq (Q_move rfl) rfl rfl <| nq (Q_add rfl rfl) rfl rfl <| nq (Q_assign rfl) rfl rfl <| nq (Q_assign rfl) rfl rfl <| nq (Q_assign rfl) rfl rfl <| WL_nil <| x_then <| C_ret <| x_then_ret ?_
        obtain rfl := Option.some.inj hF
        exact fn_ret (l := [.tmp 4, .tmp 5, .tmp 6]) (vs := [.int .u8 13, .int .i64 (w64 (x2 + 2)), .int .i64 0]) rfl rfl rfl ⟨13, w64 (x2 + 2), 0, rfl, rfl, H⟩
       ·replace hF := itF hb hF
        refine C_skip <| x_then <| C_seq <| C_seq <| R_nd <| nq (Q_move rfl) rfl rfl <| nq (Q_eql rfl rfl) rfl rfl <| WL_nil <| x_then ?_
        refine C_cond rfl (fun hb => ?_) (fun hb => ?_)
        ·replace hF := itT hb hF
         refine C_seq <| R_nd <| nq (Q_move rfl) rfl rfl <| nq (Q_add rfl rfl) rfl rfl <| nq (Q_assign rfl) rfl rfl <| nq (Q_assign rfl) rfl rfl <| nq (Q_assign rfl) rfl rfl <| WL_nil <| x_then <| C_ret <| x_then_ret ?_
         obtain rfl := Option.some.inj hF
         exact fn_ret (l := [.tmp 4, .tmp 5, .tmp 6]) (vs := [.int .u8 32, .int .i64 (w64 (x2 + 2)), .int .i64 0]) rfl rfl rfl ⟨32, w64 (x2 + 2), 0, rfl, rfl, H⟩
        ·replace hF := itF hb hF
         refine C_skip <| x_then <| C_seq <| C_seq <| R_nd <| nq (Q_move rfl) rfl rfl <| nq (Q_eql rfl rfl) rfl rfl <| WL_nil <| x_then ?_
         refine C_cond rfl (fun hb => ?_) (fun hb => ?_)
         ·replace hF := itT hb hF
          refine C_seq <| C_seq <| R_nd <| nq (Q_move rfl) rfl rfl <| nq (Q_add rfl rfl) rfl rfl <| nq (Q_move rfl) rfl rfl <| nq (Q_lenStr Tryd.underlying9 rfl) rfl rfl <| nq (Q_eql rfl rfl) rfl rfl <| WL_nil <| x_then ?_
          refine C_cond rfl (fun hb => ?_) (fun hb => ?_)
          ·replace hF := itT hb hF
           refine C_seq <| R_nd <| nq (Q_move rfl) rfl rfl <| nq (Q_lenStr Tryd.underlying9 rfl) rfl rfl <| nq (Q_assign rfl) rfl rfl <| nq (Q_assign rfl) rfl rfl <| nq (Q_assign rfl) rfl rfl <| WL_nil <| x_then <| C_ret <| x_then_ret <| x_then_ret ?_
           obtain rfl := Option.some.inj hF
           exact fn_ret (l := [.tmp 4, .tmp 5, .tmp 6]) (vs := [.int .u8 0, .int .i64 (x1.size : Int), .int .i64 2]) rfl rfl rfl ⟨0, (x1.size : Int), 2, rfl, rfl, H⟩
          ·replace hF := itF hb hF
           refine C_skip <| x_then <| C_seq <| C_seq <| R_nd <| nq (Q_move rfl) rfl rfl <| nq (Q_move rfl) rfl rfl <| nq (Q_add rfl rfl) rfl rfl ?_
           obtain ⟨x41, hx41, hF⟩ := bnd hF
           refine nq (Q_ixS hx41 Tryd.underlying9 rfl rfl) rfl rfl ?_
           obtain ⟨q42, hq42, hF⟩ := bnd hF
           refine ne (E_call fn52 rfl (c_52 H gle   hq42)) rfl rfl ?_
           rintro _ wd45 ⟨x44, rfl, rfl, H⟩
           try dsimp only at hF
           refine nq (Q_lss rfl rfl) rfl rfl <| WL_nil <| x_then ?_
           refine C_cond rfl (fun hb => ?_) (fun hb => ?_)
           ·replace hF := itT hb hF
            refine C_seq <| R_nd <| nq (Q_move rfl) rfl rfl <| nq (Q_add rfl rfl) rfl rfl <| nq (Q_assign rfl) rfl rfl <| nq (Q_assign rfl) rfl rfl <| nq (Q_assign rfl) rfl rfl <| WL_nil <| x_then <| C_ret <| x_then_ret <| x_then_ret ?_
            obtain rfl := Option.some.inj hF
            exact fn_ret (l := [.tmp 4, .tmp 5, .tmp 6]) (vs := [.int .u8 0, .int .i64 (w64 (x2 + 2)), .int .i64 4]) rfl rfl rfl ⟨0, w64 (x2 + 2), 4, rfl, rfl, H⟩
           ·replace hF := itF hb hF
            refine C_skip <| x_then <| C_seq <| C_seq <| R_nd <| nq (Q_move rfl) rfl rfl <| nq (Q_add rfl rfl) rfl rfl <| nq (Q_move rfl) rfl rfl <| nq (Q_lenStr Tryd.underlying9 rfl) rfl rfl <| nq (Q_eql rfl rfl) rfl rfl <| WL_nil <| x_then ?_
            refine C_cond rfl (fun hb => ?_) (fun hb => ?_)
            ·replace hF := itT hb hF
             refine C_seq <| R_nd <| nq (Q_move rfl) rfl rfl <| nq (Q_lenStr Tryd.underlying9 rfl) rfl rfl <| nq (Q_assign rfl) rfl rfl <| nq (Q_assign rfl) rfl rfl <| nq (Q_assign rfl) rfl rfl <| WL_nil <| x_then <| C_ret <| x_then_ret <| x_then_ret ?_
             obtain rfl := Option.some.inj hF
             exact fn_ret (l := [.tmp 4, .tmp 5, .tmp 6]) (vs := [.int .u8 0, .int .i64 (x1.size : Int), .int .i64 2]) rfl rfl rfl ⟨0, (x1.size : Int), 2, rfl, rfl, H⟩
            ·replace hF := itF hb hF
             refine C_skip <| x_then <| C_seq <| C_seq <| R_nd <| nq (Q_move rfl) rfl rfl <| nq (Q_move rfl) rfl rfl <| nq (Q_add rfl rfl) rfl rfl ?_
             obtain ⟨x46, hx46, hF⟩ := bnd hF
             refine nq (Q_ixS hx46 Tryd.underlying9 rfl rfl) rfl rfl ?_
             obtain ⟨q47, hq47, hF⟩ := bnd hF
             refine ne (E_call fn52 rfl (c_52 H gle   hq47)) rfl rfl ?_
             rintro _ wd50 ⟨x49, rfl, rfl, H⟩
             try dsimp only at hF
             refine nq (Q_lss rfl rfl) rfl rfl <| WL_nil <| x_then ?_
             refine C_cond rfl (fun hb => ?_) (fun hb => ?_)
             ·replace hF := itT hb hF
              refine C_seq <| R_nd <| nq (Q_move rfl) rfl rfl <| nq (Q_add rfl rfl) rfl rfl <| nq (Q_assign rfl) rfl rfl <| nq (Q_assign rfl) rfl rfl <| nq (Q_assign rfl) rfl rfl <| WL_nil <| x_then <| C_ret <| x_then_ret <| x_then_ret ?_
              obtain rfl := Option.some.inj hF
              exact fn_ret (l := [.tmp 4, .tmp 5, .tmp 6]) (vs := [.int .u8 0, .int .i64 (w64 (x2 + 3)), .int .i64 4]) rfl rfl rfl ⟨0, w64 (x2 + 3), 4, rfl, rfl, H⟩
             ·replace hF := itF hb hF
              refine C_skip <| x_then <| C_seq <| R_dr (.take 0 (.take 1 (.take 2 (.take 3 (.take 6 (.take 7 (.take 8 (.take 9 (.take 13 (.take 14 (.one 4 (.take 5 (.one 10 (.take 11 (.take 12 (.take 15 (.take 16 (.take 17 .done)))))))))))))))))) (fun w' => Ok w' ρ []) (by kernel_rfl) (by kernel_rfl) (by kernel_rfl) (H.drew.okS (by simp)) ?_
              replace H := H.drew
              refine dq rfl (fun _ _ => Q_move rfl) rfl rfl <| dq rfl (fun _ _ => Q_move rfl) rfl rfl <| dq rfl (fun _ _ => Q_add rfl rfl) rfl rfl ?_
              obtain ⟨x51, hx51, hF⟩ := bnd hF
              refine dq rfl (fun _ _ => Q_ixS hx51 Tryd.underlying9 rfl rfl) rfl rfl <| dq rfl (fun _ _ => Q_move rfl) rfl rfl <| dq rfl (fun _ _ => Q_move rfl) rfl rfl <| dq rfl (fun _ _ => Q_add rfl rfl) rfl rfl ?_
              obtain ⟨x52, hx52, hF⟩ := bnd hF
              refine dq rfl (fun _ _ => Q_ixS hx52 Tryd.underlying9 rfl rfl) rfl rfl <| dq rfl (fun _ _ => Q_move rfl) rfl rfl <| dq rfl (fun _ _ => Q_add rfl rfl) rfl rfl ?_
              obtain ⟨q53, hq53, hF⟩ := bnd hF
              refine d1 (de rfl (E_call fn52 rfl (c_52 H gle   hq53)) rfl rfl ?_)
              rintro _ wd56 ⟨x55, rfl, rfl, H⟩
              try dsimp only at hF
              refine ⟨H.okS (by simp), ?_⟩
              refine dq rfl (fun _ _ => Q_mul rfl rfl) rfl rfl ?_
              obtain ⟨q57, hq57, hF⟩ := bnd hF
              refine d1 (de rfl (E_call fn52 rfl (c_52 H gle   hq57)) rfl rfl ?_)
              rintro _ wd60 ⟨x59, rfl, rfl, H⟩
              try dsimp only at hF
              refine ⟨H.okS (by simp), ?_⟩
              refine dq rfl (fun _ _ => Q_add rfl rfl) rfl rfl <| dq rfl (fun _ _ => Q_cvI ⟨_, Tryd.underlying3⟩ Tryd.underlying5 rfl) rfl rfl <| dq rfl (fun _ _ => Q_assign rfl) rfl rfl <| dq rfl (fun _ _ => Q_assign rfl) rfl rfl <| dq rfl (fun _ _ => Q_assign rfl) rfl rfl <| DL_nil <| x_then <| C_ret <| x_then_ret ?_
              obtain rfl := Option.some.inj hF
              exact fn_ret (l := [.tmp 4, .tmp 5, .tmp 6]) (vs := [.int .u8 (IntKind.wrap .u8 (w64 ((w64 (16 * x55)) + x59))), .int .i64 (w64 (x2 + 4)), .int .i64 0]) rfl rfl rfl ⟨IntKind.wrap .u8 (w64 ((w64 (16 * x55)) + x59)), w64 (x2 + 4), 0, rfl, rfl, H⟩
         ·replace hF := itF hb hF
          refine C_skip <| x_then <| C_seq ?_
          obtain ⟨o62, ho62, hF⟩ := bnd hF
          refine C_cut (fun a w' => ∃ (x61 : Bool), x61 = o62 ∧ Fr 136 a [(1, .int .i64 x2), (7, .int .u8 x40), (130, .bool x61)] ∧ Hp C w' ρ (hs)) ?_ ?_
          ·refine R_nd <| nq (Q_move rfl) rfl rfl <| nq (Q_geq rfl rfl) rfl rfl <| nq (Q_move rfl) rfl rfl ?_
           rcases Bool.eq_false_or_eq_true (decide (x40 ≥ 33)) with hb | hb
           ·rw [hb]
            replace ho62 := itT hb ho62
            refine gq (Q_move rfl) rfl rfl rfl <| gq (Q_leq rfl rfl) rfl rfl rfl <| nq (Q_pickT rfl rfl) rfl rfl <| nq (Q_move rfl) rfl rfl ?_
            rcases Bool.eq_false_or_eq_true (decide (x40 ≤ 47)) with hb | hb
            ·rw [hb]
             replace ho62 := itT hb ho62
             refine gs rfl rfl rfl rfl <| gs rfl rfl rfl rfl <| gs rfl rfl rfl rfl <| gsu rfl ⟨_, _, rfl, rfl, rfl⟩ rfl <| gsu rfl ⟨_, _, rfl, rfl, rfl⟩ rfl <| gs rfl rfl rfl rfl <| nq (Q_pickT rfl rfl) rfl rfl <| nq (Q_move rfl) rfl rfl <| gs rfl rfl rfl rfl <| gs rfl rfl rfl rfl <| gs rfl rfl rfl rfl <| gsu rfl ⟨_, _, rfl, rfl, rfl⟩ rfl <| gsu rfl ⟨_, _, rfl, rfl, rfl⟩ rfl <| gs rfl rfl rfl rfl ?_
             refine nq (Q_pickT rfl rfl) rfl rfl <| nq (Q_move rfl) rfl rfl <| gs rfl rfl rfl rfl <| gs rfl rfl rfl rfl <| gs rfl rfl rfl rfl <| gsu rfl ⟨_, _, rfl, rfl, rfl⟩ rfl <| gsu rfl ⟨_, _, rfl, rfl, rfl⟩ rfl <| gs rfl rfl rfl rfl <| nq (Q_pickT rfl rfl) rfl rfl <| WL_nil ?_
             obtain rfl := Option.some.inj ho62
             refine x_A fun a hf => ⟨true, rfl, hf.sub ⟨rfl, rfl, rfl, trivial⟩, H⟩
            ·rw [hb]
             replace ho62 := itF hb ho62
             refine gq (Q_move rfl) rfl rfl rfl <| gq (Q_geq rfl rfl) rfl rfl rfl <| gq (Q_move rfl) rfl rfl rfl ?_
             rcases Bool.eq_false_or_eq_true (decide (x40 ≥ 58)) with hb | hb
             ·rw [hb]
              replace ho62 := itT hb ho62
              refine gq (Q_move rfl) rfl rfl rfl <| gq (Q_leq rfl rfl) rfl rfl rfl <| gq (Q_pickT rfl rfl) rfl rfl rfl <| nq (Q_pickF rfl rfl) rfl rfl <| nq (Q_move rfl) rfl rfl ?_
              rcases Bool.eq_false_or_eq_true (decide (x40 ≤ 64)) with hb | hb
              ·rw [hb]
               replace ho62 := itT hb ho62
               refine gs rfl rfl rfl rfl <| gs rfl rfl rfl rfl <| gs rfl rfl rfl rfl <| gsu rfl ⟨_, _, rfl, rfl, rfl⟩ rfl <| gsu rfl ⟨_, _, rfl, rfl, rfl⟩ rfl <| gs rfl rfl rfl rfl <| nq (Q_pickT rfl rfl) rfl rfl <| nq (Q_move rfl) rfl rfl <| gs rfl rfl rfl rfl <| gs rfl rfl rfl rfl <| gs rfl rfl rfl rfl <| gsu rfl ⟨_, _, rfl, rfl, rfl⟩ rfl <| gsu rfl ⟨_, _, rfl, rfl, rfl⟩ rfl <| gs rfl rfl rfl rfl ?_
               refine nq (Q_pickT rfl rfl) rfl rfl <| WL_nil ?_
               obtain rfl := Option.some.inj ho62
               refine x_A fun a hf => ⟨true, rfl, hf.sub ⟨rfl, rfl, rfl, trivial⟩, H⟩
              ·rw [hb]
               replace ho62 := itF hb ho62
               refine gq (Q_move rfl) rfl rfl rfl <| gq (Q_geq rfl rfl) rfl rfl rfl <| gq (Q_move rfl) rfl rfl rfl ?_
               rcases Bool.eq_false_or_eq_true (decide (x40 ≥ 91)) with hb | hb
               ·rw [hb]
                replace ho62 := itT hb ho62
                refine gq (Q_move rfl) rfl rfl rfl <| gq (Q_leq rfl rfl) rfl rfl rfl <| gq (Q_pickT rfl rfl) rfl rfl rfl <| nq (Q_pickF rfl rfl) rfl rfl <| nq (Q_move rfl) rfl rfl ?_
                rcases Bool.eq_false_or_eq_true (decide (x40 ≤ 96)) with hb | hb
                ·rw [hb]
                 replace ho62 := itT hb ho62
                 refine gs rfl rfl rfl rfl <| gs rfl rfl rfl rfl <| gs rfl rfl rfl rfl <| gsu rfl ⟨_, _, rfl, rfl, rfl⟩ rfl <| gsu rfl ⟨_, _, rfl, rfl, rfl⟩ rfl <| gs rfl rfl rfl rfl <| nq (Q_pickT rfl rfl) rfl rfl <| WL_nil ?_
                 obtain rfl := Option.some.inj ho62
                 refine x_A fun a hf => ⟨true, rfl, hf.sub ⟨rfl, rfl, rfl, trivial⟩, H⟩
                ·rw [hb]
                 replace ho62 := itF hb ho62
                 refine gq (Q_move rfl) rfl rfl rfl <| gq (Q_geq rfl rfl) rfl rfl rfl <| gq (Q_move rfl) rfl rfl rfl ?_
                 rcases Bool.eq_false_or_eq_true (decide (x40 ≥ 123)) with hb | hb
                 ·rw [hb]
                  replace ho62 := itT hb ho62
                  refine gq (Q_move rfl) rfl rfl rfl <| gq (Q_leq rfl rfl) rfl rfl rfl <| gq (Q_pickT rfl rfl) rfl rfl rfl <| nq (Q_pickF rfl rfl) rfl rfl <| WL_nil ?_
                  obtain rfl := Option.some.inj ho62
                  refine x_A fun a hf => ⟨decide (x40 ≤ 126), rfl, hf.sub ⟨rfl, rfl, rfl, trivial⟩, H⟩
                 ·rw [hb]
                  replace ho62 := itF hb ho62
                  refine gs rfl rfl rfl rfl <| gs rfl rfl rfl rfl <| gq (Q_pickF rfl rfl) rfl rfl rfl <| nq (Q_pickF rfl rfl) rfl rfl <| WL_nil ?_
                  obtain rfl := Option.some.inj ho62
                  refine x_A fun a hf => ⟨false, rfl, hf.sub ⟨rfl, rfl, rfl, trivial⟩, H⟩
               ·rw [hb]
                replace ho62 := itF hb ho62
                refine gs rfl rfl rfl rfl <| gs rfl rfl rfl rfl <| gq (Q_pickF rfl rfl) rfl rfl rfl <| nq (Q_pickF rfl rfl) rfl rfl <| nq (Q_move rfl) rfl rfl <| gq (Q_move rfl) rfl rfl rfl <| gq (Q_geq rfl rfl) rfl rfl rfl <| gq (Q_move rfl) rfl rfl rfl ?_
                rcases Bool.eq_false_or_eq_true (decide (x40 ≥ 123)) with hb | hb
                ·rw [hb]
                 replace ho62 := itT hb ho62
                 refine gq (Q_move rfl) rfl rfl rfl <| gq (Q_leq rfl rfl) rfl rfl rfl <| gq (Q_pickT rfl rfl) rfl rfl rfl <| nq (Q_pickF rfl rfl) rfl rfl <| WL_nil ?_
                 obtain rfl := Option.some.inj ho62
                 refine x_A fun a hf => ⟨decide (x40 ≤ 126), rfl, hf.sub ⟨rfl, rfl, rfl, trivial⟩, H⟩
                ·rw [hb]
                 replace ho62 := itF hb ho62
                 refine gs rfl rfl rfl rfl <| gs rfl rfl rfl rfl <| gq (Q_pickF rfl rfl) rfl rfl rfl <| nq (Q_pickF rfl rfl) rfl rfl <| WL_nil ?_
                 obtain rfl := Option.some.inj ho62
                 refine x_A fun a hf => ⟨false, rfl, hf.sub ⟨rfl, rfl, rfl, trivial⟩, H⟩
             ·rw [hb]
              replace ho62 := itF hb ho62
              refine gs rfl rfl rfl rfl <| gs rfl rfl rfl rfl <| gq (Q_pickF rfl rfl) rfl rfl rfl <| nq (Q_pickF rfl rfl) rfl rfl <| nq (Q_move rfl) rfl rfl <| gq (Q_move rfl) rfl rfl rfl <| gq (Q_geq rfl rfl) rfl rfl rfl <| gq (Q_move rfl) rfl rfl rfl ?_
              rcases Bool.eq_false_or_eq_true (decide (x40 ≥ 91)) with hb | hb
              ·rw [hb]
               replace ho62 := itT hb ho62
               refine gq (Q_move rfl) rfl rfl rfl <| gq (Q_leq rfl rfl) rfl rfl rfl <| gq (Q_pickT rfl rfl) rfl rfl rfl <| nq (Q_pickF rfl rfl) rfl rfl <| nq (Q_move rfl) rfl rfl ?_
               rcases Bool.eq_false_or_eq_true (decide (x40 ≤ 96)) with hb | hb
               ·rw [hb]
                replace ho62 := itT hb ho62
                refine gs rfl rfl rfl rfl <| gs rfl rfl rfl rfl <| gs rfl rfl rfl rfl <| gsu rfl ⟨_, _, rfl, rfl, rfl⟩ rfl <| gsu rfl ⟨_, _, rfl, rfl, rfl⟩ rfl <| gs rfl rfl rfl rfl <| nq (Q_pickT rfl rfl) rfl rfl <| WL_nil ?_
                obtain rfl := Option.some.inj ho62
                refine x_A fun a hf => ⟨true, rfl, hf.sub ⟨rfl, rfl, rfl, trivial⟩, H⟩
               ·rw [hb]
                replace ho62 := itF hb ho62
                refine gq (Q_move rfl) rfl rfl rfl <| gq (Q_geq rfl rfl) rfl rfl rfl <| gq (Q_move rfl) rfl rfl rfl ?_
                rcases Bool.eq_false_or_eq_true (decide (x40 ≥ 123)) with hb | hb
                ·rw [hb]
                 replace ho62 := itT hb ho62
                 refine gq (Q_move rfl) rfl rfl rfl <| gq (Q_leq rfl rfl) rfl rfl rfl <| gq (Q_pickT rfl rfl) rfl rfl rfl <| nq (Q_pickF rfl rfl) rfl rfl <| WL_nil ?_
                 obtain rfl := Option.some.inj ho62
                 refine x_A fun a hf => ⟨decide (x40 ≤ 126), rfl, hf.sub ⟨rfl, rfl, rfl, trivial⟩, H⟩
                ·rw [hb]
                 replace ho62 := itF hb ho62
                 refine gs rfl rfl rfl rfl <| gs rfl rfl rfl rfl <| gq (Q_pickF rfl rfl) rfl rfl rfl <| nq (Q_pickF rfl rfl) rfl rfl <| WL_nil ?_
                 obtain rfl := Option.some.inj ho62
                 refine x_A fun a hf => ⟨false, rfl, hf.sub ⟨rfl, rfl, rfl, trivial⟩, H⟩
              ·rw [hb]
               replace ho62 := itF hb ho62
               refine gs rfl rfl rfl rfl <| gs rfl rfl rfl rfl <| gq (Q_pickF rfl rfl) rfl rfl rfl <| nq (Q_pickF rfl rfl) rfl rfl <| nq (Q_move rfl) rfl rfl <| gq (Q_move rfl) rfl rfl rfl <| gq (Q_geq rfl rfl) rfl rfl rfl <| gq (Q_move rfl) rfl rfl rfl ?_
               rcases Bool.eq_false_or_eq_true (decide (x40 ≥ 123)) with hb | hb
               ·rw [hb]
                replace ho62 := itT hb ho62
                refine gq (Q_move rfl) rfl rfl rfl <| gq (Q_leq rfl rfl) rfl rfl rfl <| gq (Q_pickT rfl rfl) rfl rfl rfl <| nq (Q_pickF rfl rfl) rfl rfl <| WL_nil ?_
                obtain rfl := Option.some.inj ho62
                refine x_A fun a hf => ⟨decide (x40 ≤ 126), rfl, hf.sub ⟨rfl, rfl, rfl, trivial⟩, H⟩
               ·rw [hb]
                replace ho62 := itF hb ho62
                refine gs rfl rfl rfl rfl <| gs rfl rfl rfl rfl <| gq (Q_pickF rfl rfl) rfl rfl rfl <| nq (Q_pickF rfl rfl) rfl rfl <| WL_nil ?_
                obtain rfl := Option.some.inj ho62
                refine x_A fun a hf => ⟨false, rfl, hf.sub ⟨rfl, rfl, rfl, trivial⟩, H⟩
           ·rw [hb]
            replace ho62 := itF hb ho62
            refine gs rfl rfl rfl rfl <| gs rfl rfl rfl rfl <| nq (Q_pickF rfl rfl) rfl rfl <| nq (Q_move rfl) rfl rfl <| gq (Q_move rfl) rfl rfl rfl <| gq (Q_geq rfl rfl) rfl rfl rfl <| gq (Q_move rfl) rfl rfl rfl ?_
            rcases Bool.eq_false_or_eq_true (decide (x40 ≥ 58)) with hb | hb
            ·rw [hb]
             replace ho62 := itT hb ho62
             refine gq (Q_move rfl) rfl rfl rfl <| gq (Q_leq rfl rfl) rfl rfl rfl <| gq (Q_pickT rfl rfl) rfl rfl rfl <| nq (Q_pickF rfl rfl) rfl rfl <| nq (Q_move rfl) rfl rfl ?_
             rcases Bool.eq_false_or_eq_true (decide (x40 ≤ 64)) with hb | hb
             ·rw [hb]
              replace ho62 := itT hb ho62
              refine gs rfl rfl rfl rfl <| gs rfl rfl rfl rfl <| gs rfl rfl rfl rfl <| gsu rfl ⟨_, _, rfl, rfl, rfl⟩ rfl <| gsu rfl ⟨_, _, rfl, rfl, rfl⟩ rfl <| gs rfl rfl rfl rfl <| nq (Q_pickT rfl rfl) rfl rfl <| nq (Q_move rfl) rfl rfl <| gs rfl rfl rfl rfl <| gs rfl rfl rfl rfl <| gs rfl rfl rfl rfl <| gsu rfl ⟨_, _, rfl, rfl, rfl⟩ rfl <| gsu rfl ⟨_, _, rfl, rfl, rfl⟩ rfl <| gs rfl rfl rfl rfl ?_
              refine nq (Q_pickT rfl rfl) rfl rfl <| WL_nil ?_
              obtain rfl := Option.some.inj ho62
              refine x_A fun a hf => ⟨true, rfl, hf.sub ⟨rfl, rfl, rfl, trivial⟩, H⟩
             ·rw [hb]
              replace ho62 := itF hb ho62
              refine gq (Q_move rfl) rfl rfl rfl <| gq (Q_geq rfl rfl) rfl rfl rfl <| gq (Q_move rfl) rfl rfl rfl ?_
              rcases Bool.eq_false_or_eq_true (decide (x40 ≥ 91)) with hb | hb
              ·rw [hb]
               replace ho62 := itT hb ho62
               refine gq (Q_move rfl) rfl rfl rfl <| gq (Q_leq rfl rfl) rfl rfl rfl <| gq (Q_pickT rfl rfl) rfl rfl rfl <| nq (Q_pickF rfl rfl) rfl rfl <| nq (Q_move rfl) rfl rfl ?_
               rcases Bool.eq_false_or_eq_true (decide (x40 ≤ 96)) with hb | hb
               ·rw [hb]
                replace ho62 := itT hb ho62
                refine gs rfl rfl rfl rfl <| gs rfl rfl rfl rfl <| gs rfl rfl rfl rfl <| gsu rfl ⟨_, _, rfl, rfl, rfl⟩ rfl <| gsu rfl ⟨_, _, rfl, rfl, rfl⟩ rfl <| gs rfl rfl rfl rfl <| nq (Q_pickT rfl rfl) rfl rfl <| WL_nil ?_
                obtain rfl := Option.some.inj ho62
                refine x_A fun a hf => ⟨true, rfl, hf.sub ⟨rfl, rfl, rfl, trivial⟩, H⟩
               ·rw [hb]
                replace ho62 := itF hb ho62
                refine gq (Q_move rfl) rfl rfl rfl <| gq (Q_geq rfl rfl) rfl rfl rfl <| gq (Q_move rfl) rfl rfl rfl ?_
                rcases Bool.eq_false_or_eq_true (decide (x40 ≥ 123)) with hb | hb
                ·rw [hb]
                 replace ho62 := itT hb ho62
                 refine gq (Q_move rfl) rfl rfl rfl <| gq (Q_leq rfl rfl) rfl rfl rfl <| gq (Q_pickT rfl rfl) rfl rfl rfl <| nq (Q_pickF rfl rfl) rfl rfl <| WL_nil ?_
                 obtain rfl := Option.some.inj ho62
                 refine x_A fun a hf => ⟨decide (x40 ≤ 126), rfl, hf.sub ⟨rfl, rfl, rfl, trivial⟩, H⟩
                ·rw [hb]
                 replace ho62 := itF hb ho62
                 refine gs rfl rfl rfl rfl <| gs rfl rfl rfl rfl <| gq (Q_pickF rfl rfl) rfl rfl rfl <| nq (Q_pickF rfl rfl) rfl rfl <| WL_nil ?_
                 obtain rfl := Option.some.inj ho62
                 refine x_A fun a hf => ⟨false, rfl, hf.sub ⟨rfl, rfl, rfl, trivial⟩, H⟩
              ·rw [hb]
               replace ho62 := itF hb ho62
               refine gs rfl rfl rfl rfl <| gs rfl rfl rfl rfl <| gq (Q_pickF rfl rfl) rfl rfl rfl <| nq (Q_pickF rfl rfl) rfl rfl <| nq (Q_move rfl) rfl rfl <| gq (Q_move rfl) rfl rfl rfl <| gq (Q_geq rfl rfl) rfl rfl rfl <| gq (Q_move rfl) rfl rfl rfl ?_
               rcases Bool.eq_false_or_eq_true (decide (x40 ≥ 123)) with hb | hb
               ·rw [hb]
                replace ho62 := itT hb ho62
                refine gq (Q_move rfl) rfl rfl rfl <| gq (Q_leq rfl rfl) rfl rfl rfl <| gq (Q_pickT rfl rfl) rfl rfl rfl <| nq (Q_pickF rfl rfl) rfl rfl <| WL_nil ?_
                obtain rfl := Option.some.inj ho62
                refine x_A fun a hf => ⟨decide (x40 ≤ 126), rfl, hf.sub ⟨rfl, rfl, rfl, trivial⟩, H⟩
               ·rw [hb]
                replace ho62 := itF hb ho62
                refine gs rfl rfl rfl rfl <| gs rfl rfl rfl rfl <| gq (Q_pickF rfl rfl) rfl rfl rfl <| nq (Q_pickF rfl rfl) rfl rfl <| WL_nil ?_
                obtain rfl := Option.some.inj ho62
                refine x_A fun a hf => ⟨false, rfl, hf.sub ⟨rfl, rfl, rfl, trivial⟩, H⟩
            ·rw [hb]
             replace ho62 := itF hb ho62
             refine gs rfl rfl rfl rfl <| gs rfl rfl rfl rfl <| gq (Q_pickF rfl rfl) rfl rfl rfl <| nq (Q_pickF rfl rfl) rfl rfl <| nq (Q_move rfl) rfl rfl <| gq (Q_move rfl) rfl rfl rfl <| gq (Q_geq rfl rfl) rfl rfl rfl <| gq (Q_move rfl) rfl rfl rfl ?_
             rcases Bool.eq_false_or_eq_true (decide (x40 ≥ 91)) with hb | hb
             ·rw [hb]
              replace ho62 := itT hb ho62
              refine gq (Q_move rfl) rfl rfl rfl <| gq (Q_leq rfl rfl) rfl rfl rfl <| gq (Q_pickT rfl rfl) rfl rfl rfl <| nq (Q_pickF rfl rfl) rfl rfl <| nq (Q_move rfl) rfl rfl ?_
              rcases Bool.eq_false_or_eq_true (decide (x40 ≤ 96)) with hb | hb
              ·rw [hb]
               replace ho62 := itT hb ho62
               refine gs rfl rfl rfl rfl <| gs rfl rfl rfl rfl <| gs rfl rfl rfl rfl <| gsu rfl ⟨_, _, rfl, rfl, rfl⟩ rfl <| gsu rfl ⟨_, _, rfl, rfl, rfl⟩ rfl <| gs rfl rfl rfl rfl <| nq (Q_pickT rfl rfl) rfl rfl <| WL_nil ?_
               obtain rfl := Option.some.inj ho62
               refine x_A fun a hf => ⟨true, rfl, hf.sub ⟨rfl, rfl, rfl, trivial⟩, H⟩
              ·rw [hb]
               replace ho62 := itF hb ho62
               refine gq (Q_move rfl) rfl rfl rfl <| gq (Q_geq rfl rfl) rfl rfl rfl <| gq (Q_move rfl) rfl rfl rfl ?_
               rcases Bool.eq_false_or_eq_true (decide (x40 ≥ 123)) with hb | hb
               ·rw [hb]
                replace ho62 := itT hb ho62
                refine gq (Q_move rfl) rfl rfl rfl <| gq (Q_leq rfl rfl) rfl rfl rfl <| gq (Q_pickT rfl rfl) rfl rfl rfl <| nq (Q_pickF rfl rfl) rfl rfl <| WL_nil ?_
                obtain rfl := Option.some.inj ho62
                refine x_A fun a hf => ⟨decide (x40 ≤ 126), rfl, hf.sub ⟨rfl, rfl, rfl, trivial⟩, H⟩
               ·rw [hb]
                replace ho62 := itF hb ho62
                refine gs rfl rfl rfl rfl <| gs rfl rfl rfl rfl <| gq (Q_pickF rfl rfl) rfl rfl rfl <| nq (Q_pickF rfl rfl) rfl rfl <| WL_nil ?_
                obtain rfl := Option.some.inj ho62
                refine x_A fun a hf => ⟨false, rfl, hf.sub ⟨rfl, rfl, rfl, trivial⟩, H⟩
             ·rw [hb]
              replace ho62 := itF hb ho62
              refine gs rfl rfl rfl rfl <| gs rfl rfl rfl rfl <| gq (Q_pickF rfl rfl) rfl rfl rfl <| nq (Q_pickF rfl rfl) rfl rfl <| nq (Q_move rfl) rfl rfl <| gq (Q_move rfl) rfl rfl rfl <| gq (Q_geq rfl rfl) rfl rfl rfl <| gq (Q_move rfl) rfl rfl rfl ?_
              rcases Bool.eq_false_or_eq_true (decide (x40 ≥ 123)) with hb | hb
              ·rw [hb]
               replace ho62 := itT hb ho62
               refine gq (Q_move rfl) rfl rfl rfl <| gq (Q_leq rfl rfl) rfl rfl rfl <| gq (Q_pickT rfl rfl) rfl rfl rfl <| nq (Q_pickF rfl rfl) rfl rfl <| WL_nil ?_
               obtain rfl := Option.some.inj ho62
               refine x_A fun a hf => ⟨decide (x40 ≤ 126), rfl, hf.sub ⟨rfl, rfl, rfl, trivial⟩, H⟩
              ·rw [hb]
               replace ho62 := itF hb ho62
               refine gs rfl rfl rfl rfl <| gs rfl rfl rfl rfl <| gq (Q_pickF rfl rfl) rfl rfl rfl <| nq (Q_pickF rfl rfl) rfl rfl <| WL_nil ?_
               obtain rfl := Option.some.inj ho62
               refine x_A fun a hf => ⟨false, rfl, hf.sub ⟨rfl, rfl, rfl, trivial⟩, H⟩
          ·rintro a wd63 ⟨x61, rfl, hf, H⟩
           try dsimp only at hF
           refine CW.at hf ?_
           refine C_cond rfl (fun hb => ?_) (fun hb => ?_)
           ·replace hF := itT hb hF
            refine C_seq <| R_nd <| nq (Q_move rfl) rfl rfl <| nq (Q_move rfl) rfl rfl <| nq (Q_add rfl rfl) rfl rfl <| nq (Q_assign rfl) rfl rfl <| nq (Q_assign rfl) rfl rfl <| nq (Q_assign rfl) rfl rfl <| WL_nil <| x_then <| C_ret <| x_then_ret ?_
            obtain rfl := Option.some.inj hF
            exact fn_ret (l := [.tmp 4, .tmp 5, .tmp 6]) (vs := [.int .u8 x40, .int .i64 (w64 (x2 + 2)), .int .i64 0]) rfl rfl rfl ⟨x40, w64 (x2 + 2), 0, rfl, rfl, H⟩
           ·replace hF := itF hb hF
            refine C_skip <| x_then <| C_seq <| R_nd <| nq (Q_move rfl) rfl rfl <| nq (Q_add rfl rfl) rfl rfl <| nq (Q_assign rfl) rfl rfl <| nq (Q_assign rfl) rfl rfl <| nq (Q_assign rfl) rfl rfl <| WL_nil <| x_then <| C_ret ?_
            obtain rfl := Option.some.inj hF
            exact fn_ret (l := [.tmp 4, .tmp 5, .tmp 6]) (vs := [.int .u8 0, .int .i64 (w64 (x2 + 1)), .int .i64 4]) rfl rfl rfl ⟨0, w64 (x2 + 1), 4, rfl, rfl, H⟩
theorem c_27 {N : Nat} {C : Cx} {w : World} {ρ : View} {hs : List Hl} {x1 : ByteArray} (H : Hp C w ρ (hs)) {gV : Nat → Value} (gle : GErrs ρ 137 errIds gV) {r : ((List Int) × Int)} (hF : F_dofferref36_bytes N x1 = some r) :
  Calls Tryd.prog 27 [.string x1].toArray w (Rets (fun v w' => (∃ (v132 : Value) (c133 : (List Value)) (x134 : (List Int)) (x136 : Int), (x134, x136) = r ∧ .tuple [v132, .int .i64 x136].toArray = v ∧ rdL (eI .u8) ρ x134 c133 ∧ Hp C w' ρ (Arr v132 1 c133 :: hs)))) := by
 unfold F_dofferref36_bytes at hF
 have h0 : Tryd.f27.body = some _ := rfl
 refine fn_calls' Tryd.func27 h0 (n := 34) rfl (by simp) <| C_seq <| R_nd <| nq (Q_assign rfl) rfl rfl <| nq (Q_assign rfl) rfl rfl <| WL_nil <| x_then <| C_seq <| C_seq <| R_nd <| nq (Q_move rfl) rfl rfl <| nq (v := .bool (x1.toList == (⟨#[46]⟩ : ByteArray).toList)) (Q_eqlStr Tryd.underlying9 rfl rfl) rfl rfl <| WL_nil <| x_then ?_
 refine C_cond rfl (fun hb => ?_) (fun hb => ?_)
 ·replace hF := itT hb hF
  refine C_seq <| R_nd <| nq (Q_assign rfl) rfl rfl <| nq (Q_assign rfl) rfl rfl <| WL_nil <| x_then <| C_ret <| x_then_ret ?_
  have H := H.nilArr 1
  obtain rfl := Option.some.inj hF
  exact fn_ret (l := [.tmp 2, .tmp 3]) (vs := [(.slice none 0 0), .int .i64 0]) rfl rfl rfl ⟨(.slice none 0 0), [], [], 0, rfl, rfl, rdL.nil, H⟩
 ·replace hF := itF hb hF
  refine C_skip <| x_then <| C_seq <| C_seq <| R_nd <| nq (Q_move rfl) rfl rfl <| nq (v := .bool (x1.toList == ByteArray.empty.toList)) (Q_eqlStr Tryd.underlying9 rfl rfl) rfl rfl <| WL_nil <| x_then ?_
  refine C_cond rfl (fun hb => ?_) (fun hb => ?_)
  ·replace hF := itT hb hF
   refine C_seq <| R_nd <| nq (Q_assign rfl) rfl rfl <| nq (Q_assign rfl) rfl rfl <| WL_nil <| x_then <| C_ret <| x_then_ret ?_
   have H := H.nilArr 1
   obtain rfl := Option.some.inj hF
   exact fn_ret (l := [.tmp 2, .tmp 3]) (vs := [(.slice none 0 0), .int .i64 2]) rfl rfl rfl ⟨(.slice none 0 0), [], [], 2, rfl, rfl, rdL.nil, H⟩
  ·replace hF := itF hb hF
   refine C_skip <| x_then <| C_seq <| R_nd <| ne (E_bslice0 H Tryd.underlying34 ty5) rfl rfl ?_
   rintro _ wd138 ⟨b137, rfl, H⟩
   refine nq (Q_assign rfl) rfl rfl <| WL_nil <| x_then <| C_seq <| R_nd <| nq (Q_assign rfl) rfl rfl <| WL_nil <| x_then ?_
   obtain ⟨o204, ho204, hF⟩ := bnd hF
   refine C_cut (fun a w' => ∃ (v200 : Value) (c201 : (List Value)) (x202 : (List Int)), .inl x202 = o204 ∧ rdL (eI .u8) ρ x202 c201 ∧ Fr 34 a [(4, v200)] ∧ Hp C w' ρ (Arr v200 1 c201 :: hs)) ?_ ?_
   ·refine C_block ?_
    refine C_iter (f := fun s => F_dofferref36_bytes_l0 N x1 s.1 s.2) ho204 (fun s a w' => ∃ (v224 : Value) (c225 : (List Value)) (x226 : (List Int)) (x228 : Int), (x226, x228) = s ∧ rdL (eI .u8) ρ x226 c225 ∧ Fr 34 a [(0, .string x1), (4, v224), (5, .int .i64 x228)] ∧ Hp C w' ρ (Arr v224 1 c225 :: hs)) ?_ ?_
    ·exact fun a hf => ⟨(.slice (some ⟨b137, 0, none⟩) 0 0), [], [], 0, rfl, rdL.nil, hf.sub ⟨rfl, rfl, rfl, trivial⟩, H⟩
    ·rintro s o248 a wd251 ⟨v224, c225, x226, x228, rfl, r227, hf, H⟩ hB249 hO250
     replace hB249 : F_dofferref36_bytes_l0 N x1 x226 x228 = some o248 := hB249
     unfold F_dofferref36_bytes_l0 at hB249
     refine CW.at hf <| C_seq <| C_seq <| R_nd <| nq (Q_move rfl) rfl rfl <| nq (Q_move rfl) rfl rfl <| nq (Q_lenStr Tryd.underlying9 rfl) rfl rfl <| nq (Q_lss rfl rfl) rfl rfl <| WL_nil <| x_then ?_
     refine C_cond rfl (fun hb => ?_) (fun hb => ?_)
     ·replace hB249 := itT hb hB249
      refine C_skip <| x_then <| C_block <| C_seq <| R_nd <| nq (Q_move rfl) rfl rfl <| nq (Q_move rfl) rfl rfl ?_
      obtain ⟨q252, hq252, hB249⟩ := bnd hB249
      refine ne (E_call fn42 rfl (c_42_1 H gle   hq252)) rfl rfl ?_
      rintro _ wd257 ⟨x254, x255, x256, rfl, rfl, H⟩
      try dsimp only at hB249
      refine nq (Q_move rfl) rfl rfl <| nq (Q_extract rfl rfl) rfl rfl <| nq (Q_extract rfl rfl) rfl rfl <| nq (Q_extract rfl rfl) rfl rfl <| nq (Q_assign rfl) rfl rfl <| nq (Q_assign rfl) rfl rfl <| nq (Q_assign rfl) rfl rfl <| WL_nil <| x_then <| C_seq <| C_seq <| R_nd <| nq (Q_move rfl) rfl rfl <| nq (Q_neq rfl rfl) rfl rfl ?_
      refine WL_nil <| x_then ?_
      refine C_cond rfl (fun hb => ?_) (fun hb => ?_)
      ·replace hB249 := itT hb hB249
       refine C_seq <| R_nd <| nq (Q_move rfl) rfl rfl <| nq (Q_assign rfl) rfl rfl <| nq (Q_assign rfl) rfl rfl <| WL_nil <| x_then <| C_ret <| x_then_ret <| x_block_ret <| x_then_ret <| x_block_ret <| x_then_ret ?_
       have H := H.nilArr 1
       replace H := H.drop 1 rfl
       dsimp only [List.eraseIdx] at H
       obtain rfl := Option.some.inj hB249
       obtain rfl := hO250 _ rfl
       obtain rfl := Option.some.inj (show some _ = some _ from hF)
       exact fn_ret (l := [.tmp 2, .tmp 3]) (vs := [(.slice none 0 0), .int .i64 x256]) rfl rfl rfl ⟨(.slice none 0 0), [], [], x256, rfl, rfl, rdL.nil, H⟩
      ·replace hB249 := itF hb hB249
       refine C_skip <| x_then <| C_seq <| R_nd <| nq (Q_move rfl) rfl rfl <| nq (Q_move rfl) rfl rfl <| ne (E_bslice (xs := [.tmp 29]) (vs := [.int .u8 x254]) H Tryd.underlying34 ty5 (by decide) (cs := [.int .u8 x254]) rfl (sz_cons rfl sz_nil) rfl (by simp) (by simp) rfl rfl) rfl rfl ?_
       rintro _ wd259 ⟨b258, rfl, H⟩
       obtain ⟨x260, hx260, hB249⟩ := bnd hB249
       obtain ⟨ha261a, ha261b⟩ := app_some hx260
       have r263 : rdL (eI .u8) ρ x260 (c225 ++ ([.int .u8 x254])) := ha261b ▸ rdL.app r227 (show rdL (eI .u8) ρ ([x254]) ([.int .u8 x254]) from ⟨([.int .u8 x254]), _, rfl, rfl, rdL.nil⟩)
       refine ne (E_append (k := 1) H rfl Tryd.underlying34 ty5 rfl (by decide) (by decide) rfl rfl (Src.ofArr (k := 0) H.ok rfl) (rdL.one (show rdL (eI .u8) ρ ([x254]) ([.int .u8 x254]) from ⟨([.int .u8 x254]), _, rfl, rfl, rdL.nil⟩)) (app_fit r227 (show rdL (eI .u8) ρ ([x254]) ([.int .u8 x254]) from ⟨([.int .u8 x254]), _, rfl, rfl, rdL.nil⟩) ha261a)) rfl rfl ?_
       rintro v262 wd265 ⟨H, hc264⟩
       dsimp only [List.set] at H
       refine nq (Q_assign rfl) rfl rfl <| WL_nil <| x_then <| R_nd <| nq (Q_move rfl) rfl rfl <| nq (Q_assign rfl) rfl rfl <| WL_nil <| x_block ?_
       replace H := H.f1
       replace H := H.drop 1 rfl
       dsimp only [List.eraseIdx] at H
       obtain rfl := Option.some.inj hB249
       refine x_A fun a hf => ⟨_, rfl, v262, (c225 ++ ([.int .u8 x254])), x260, x255, rfl, r263, hf.sub ⟨rfl, rfl, rfl, trivial⟩, H⟩
     ·replace hB249 := itF hb hB249
      refine C_exit <| x_then_exit <| x_then_exit <| x_block_exit ?_
      obtain rfl := Option.some.inj hB249
      obtain rfl := hO250 _ rfl
      refine x_A fun a hf => ⟨v224, c225, x226, rfl, r227, hf.sub ⟨rfl, trivial⟩, H⟩
   ·rintro a wd266 ⟨v200, c201, x202, rfl, r203, hf, H⟩
    try dsimp only at hF
    refine CW.at hf <| C_seq <| R_nd <| nq (Q_move rfl) rfl rfl <| nq (Q_assign rfl) rfl rfl <| nq (Q_assign rfl) rfl rfl <| WL_nil <| x_then <| C_ret ?_
    obtain rfl := Option.some.inj hF
    exact fn_ret (l := [.tmp 2, .tmp 3]) (vs := [v200, .int .i64 0]) rfl rfl rfl ⟨v200, c201, x202, 0, rfl, rfl, r203, H⟩
end Go.Proofs.YticipjjhbebegaaDoor
