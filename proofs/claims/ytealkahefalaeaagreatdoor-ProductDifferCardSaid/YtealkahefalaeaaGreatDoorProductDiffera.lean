/-
  The walks of the law ProductDiffer, printed by my program, part 1: each function of the code computes its pure function.
-/
import Derived.Test.YtealkahefalaeaaGreatDoorProductDifferD1
import Derived.Test.YtealkahefalaeaaGreatDoorProg
import Derived.Test.YtealkahefalaeaaGreatDoorProductDifferP1
namespace Go.Proofs.YtealkahefalaeaaGreatDoor
open Go Go.Eng
set_option maxRecDepth 100000
theorem ty3 : Ty Tryz.prog 3 1 8 (.int .i64 0) false := ⟨by kernel_rfl, by kernel_rfl⟩
theorem ty5 : Ty Tryz.prog 5 1 1 (.int .u8 0) false := ⟨by kernel_rfl, by kernel_rfl⟩
theorem ty23 : Ty Tryz.prog 23 1 24 (.slice none 0 0) false := ⟨by kernel_rfl, by kernel_rfl⟩
theorem ty42 : Ty Tryz.prog 42 1 24 (.slice none 0 0) false := ⟨by kernel_rfl, by kernel_rfl⟩
theorem ty76 : Ty Tryz.prog 76 1 24 (.slice none 0 0) false := ⟨by kernel_rfl, by kernel_rfl⟩
theorem ty78 : Ty Tryz.prog 78 3 72 (.agg ([.slice none 0 0, .slice none 0 0, .slice none 0 0]).toArray) true := ⟨by kernel_rfl, by kernel_rfl⟩
theorem ty79 : Ty Tryz.prog 79 1 24 (.slice none 0 0) false := ⟨by kernel_rfl, by kernel_rfl⟩
theorem ty81 : Ty Tryz.prog 81 3 72 (.agg ([.slice none 0 0, .slice none 0 0, .slice none 0 0]).toArray) true := ⟨by kernel_rfl, by kernel_rfl⟩
theorem ty87 : Ty Tryz.prog 87 256 2048 (.agg (repC 256 [.int .i64 0]).toArray) true := ⟨by kernel_rfl, by kernel_rfl⟩
theorem ty88 : Ty Tryz.prog 88 256 2048 (.agg (repC 256 [.int .i64 0]).toArray) true := ⟨by kernel_rfl, by kernel_rfl⟩
theorem ty90 : Ty Tryz.prog 90 4 48 (.agg ([.int .i64 0, .slice none 0 0, .int .i64 0, .int .i64 0]).toArray) true := ⟨by kernel_rfl, by kernel_rfl⟩
theorem ty162 : Ty Tryz.prog 162 6 144 (.agg ([.slice none 0 0, .slice none 0 0, .slice none 0 0, .slice none 0 0, .slice none 0 0, .slice none 0 0]).toArray) true := ⟨by kernel_rfl, by kernel_rfl⟩
theorem ty164 : Ty Tryz.prog 164 2 16 (.agg ([.int .i64 0, .int .i64 0]).toArray) true := ⟨by kernel_rfl, by kernel_rfl⟩
theorem ty166 : Ty Tryz.prog 166 3 40 (.agg ([.int .i64 0, .int .i64 0, .slice none 0 0]).toArray) true := ⟨by kernel_rfl, by kernel_rfl⟩
theorem st81 : ∃ fs, St Tryz.prog 81 fs [(0, 1), (1, 1), (2, 1)] [.slice none 0 0, .slice none 0 0, .slice none 0 0] := ⟨_, Tryz.underlying81, by kernel_rfl, _, _, _, _, ty81, rfl⟩
theorem st90 : ∃ fs, St Tryz.prog 90 fs [(0, 1), (1, 1), (2, 1), (3, 1)] [.int .i64 0, .slice none 0 0, .int .i64 0, .int .i64 0] := ⟨_, Tryz.underlying90, by kernel_rfl, _, _, _, _, ty90, rfl⟩
theorem st162 : ∃ fs, St Tryz.prog 162 fs [(0, 3), (3, 3)] [.slice none 0 0, .slice none 0 0, .slice none 0 0, .slice none 0 0, .slice none 0 0, .slice none 0 0] := ⟨_, Tryz.underlying162, by kernel_rfl, _, _, _, _, ty162, rfl⟩
theorem st164 : ∃ fs, St Tryz.prog 164 fs [(0, 1), (1, 1)] [.int .i64 0, .int .i64 0] := ⟨_, Tryz.underlying164, by kernel_rfl, _, _, _, _, ty164, rfl⟩
theorem st166 : ∃ fs, St Tryz.prog 166 fs [(0, 2), (2, 1)] [.int .i64 0, .int .i64 0, .slice none 0 0] := ⟨_, Tryz.underlying166, by kernel_rfl, _, _, _, _, ty166, rfl⟩
theorem kp164 : ∃ f0 f1, Tryz.prog.underlying 164 = some (.struct #[f0, f1]) ∧ fchk f0 0 3 = true ∧ fchk f1 1 3 = true := ⟨_, _, Tryz.underlying164, by kernel_rfl, by kernel_rfl⟩
theorem hm0 : Tryz.prog.follows .mixedOrders = true := by kernel_rfl
theorem fn46 : HasFn Tryz.prog 46 := ⟨_, _, Tryz.func46, by kernel_rfl, rfl⟩
theorem fn50 : HasFn Tryz.prog 50 := ⟨_, _, Tryz.func50, by kernel_rfl, rfl⟩
theorem fn51 : HasFn Tryz.prog 51 := ⟨_, _, Tryz.func51, by kernel_rfl, rfl⟩
theorem fn52 : HasFn Tryz.prog 52 := ⟨_, _, Tryz.func52, by kernel_rfl, rfl⟩
theorem fn53 : HasFn Tryz.prog 53 := ⟨_, _, Tryz.func53, by kernel_rfl, rfl⟩
theorem fn54 : HasFn Tryz.prog 54 := ⟨_, _, Tryz.func54, by kernel_rfl, rfl⟩
theorem fn55 : HasFn Tryz.prog 55 := ⟨_, _, Tryz.func55, by kernel_rfl, rfl⟩
theorem fn57 : HasFn Tryz.prog 57 := ⟨_, _, Tryz.func57, by kernel_rfl, rfl⟩
theorem fn76 : HasFn Tryz.prog 76 := ⟨_, _, Tryz.func76, by kernel_rfl, rfl⟩
theorem fn99 : HasFn Tryz.prog 99 := ⟨_, _, Tryz.func99, by kernel_rfl, rfl⟩
theorem fn100 : HasFn Tryz.prog 100 := ⟨_, _, Tryz.func100, by kernel_rfl, rfl⟩
theorem fn101 : HasFn Tryz.prog 101 := ⟨_, _, Tryz.func101, by kernel_rfl, rfl⟩
theorem fn102 : HasFn Tryz.prog 102 := ⟨_, _, Tryz.func102, by kernel_rfl, rfl⟩
theorem fn103 : HasFn Tryz.prog 103 := ⟨_, _, Tryz.func103, by kernel_rfl, rfl⟩
theorem fn104 : HasFn Tryz.prog 104 := ⟨_, _, Tryz.func104, by kernel_rfl, rfl⟩
theorem fn105 : HasFn Tryz.prog 105 := ⟨_, _, Tryz.func105, by kernel_rfl, rfl⟩
theorem fn108 : HasFn Tryz.prog 108 := ⟨_, _, Tryz.func108, by kernel_rfl, rfl⟩
theorem fn109 : HasFn Tryz.prog 109 := ⟨_, _, Tryz.func109, by kernel_rfl, rfl⟩
theorem fn115 : HasFn Tryz.prog 115 := ⟨_, _, Tryz.func115, by kernel_rfl, rfl⟩
theorem fn116 : HasFn Tryz.prog 116 := ⟨_, _, Tryz.func116, by kernel_rfl, rfl⟩
theorem fn128 : HasFn Tryz.prog 128 := ⟨_, _, Tryz.func128, by kernel_rfl, rfl⟩
theorem fn139 : HasFn Tryz.prog 139 := ⟨_, _, Tryz.func139, by kernel_rfl, rfl⟩
theorem fn143 : HasFn Tryz.prog 143 := ⟨_, _, Tryz.func143, by kernel_rfl, rfl⟩
theorem c_108 {N : Nat} {C : Cx} {w : World} {ρ : View} {hs : List Hl} {gV : Nat → Value} {b2 : Nat} {x1 : Int} {x3 : Int} (H : Hp C w ρ (Box b2 [.int .i64 x3] :: hs)) (_gle : GErrs ρ 394 errIds gV) {r : Bool} (hF : F_subset_Right_1 N x1 x3 = some r) :
  Calls Tryz.prog 108 [.int .i64 x1, .pointer (some ⟨b2, 0, none⟩)].toArray w (Rets (fun v w' => (∃ (x7 : Bool), x7 = r ∧ .bool x7 = v ∧ Hp C w' ρ (Box b2 [.int .i64 x3] :: hs)))) := by
 unfold F_subset_Right_1 at hF
 have h0 : Tryz.f108.body = some _ := rfl
 refine fn_calls' Tryz.func108 h0 (n := 11) rfl (by simp) <| C_seq <| R_nd <| nq (Q_assign rfl) rfl rfl <| WL_nil <| x_then ?_
 obtain ⟨o9, ho9, hF⟩ := bnd hF
 refine C_cut (fun a w' => ∃ (x8 : Bool), x8 = o9 ∧ Fr 11 a [(3, .bool x8)] ∧ Hp C w' ρ (Box b2 [.int .i64 x3] :: hs)) ?_ ?_
 ·refine R_nd <| nq (Q_move rfl) rfl rfl <| nq (Q_lss rfl rfl) rfl rfl <| nq (Q_move rfl) rfl rfl ?_
  rcases Bool.eq_false_or_eq_true (decide (x1 < 0)) with hb | hb
  ·rw [hb]
   replace ho9 := itT hb ho9
   refine gs rfl rfl rfl rfl <| gs rfl rfl rfl rfl <| gs rfl rfl rfl rfl <| nq (Q_pickT rfl rfl) rfl rfl <| nq (Q_assign rfl) rfl rfl <| WL_nil ?_
   obtain rfl := Option.some.inj ho9
   refine x_A fun a hf => ⟨true, rfl, hf.sub ⟨rfl, trivial⟩, H⟩
  ·rw [hb]
   replace ho9 := itF hb ho9
   refine gq (Q_move rfl) rfl rfl rfl <| gq (v := .int .i64 x3) (Q_ldB (k := 0) (cs := [.int .i64 x3]) H.ok rfl ty3 rfl rfl rfl (fun _ => rfl) rfl) rfl rfl rfl <| gq (Q_geq rfl rfl) rfl rfl rfl <| nq (Q_pickF rfl rfl) rfl rfl <| nq (Q_assign rfl) rfl rfl <| WL_nil ?_
   obtain rfl := Option.some.inj ho9
   refine x_A fun a hf => ⟨decide (x1 ≥ x3), rfl, hf.sub ⟨rfl, trivial⟩, H⟩
 ·rintro a wd10 ⟨x8, rfl, hf, H⟩
  try dsimp only at hF
  refine CW.at hf <| C_ret ?_
  obtain rfl := Option.some.inj hF
  exact fn_ret (l := [.tmp 3]) (vs := [.bool x8]) rfl rfl rfl ⟨x8, rfl, rfl, H⟩
theorem c_128 {N : Nat} {C : Cx} {w : World} {ρ : View} {hs : List Hl} {gV : Nat → Value} {v1 : Value} {b4 : Nat} {x2 : (List Int)} {x5 : Int} (H : Hp C w ρ (Box b4 [.int .i64 x5] :: hs)) (gle : GErrs ρ 394 errIds gV) (r3 : RdSl ρ (eI .i64) v1 x2) {r : Int} (hF : F_slices_IndexFunc_int_int N x2 x5 = some r) :
  Calls Tryz.prog 128 [v1, .func (.func 108) #[] [.pointer (some ⟨b4, 0, none⟩)].toArray].toArray w (Rets (fun v w' => (∃ (x88 : Int), x88 = r ∧ .int .i64 x88 = v ∧ Hp C w' ρ (Box b4 [.int .i64 x5] :: hs)))) := by
 unfold F_slices_IndexFunc_int_int at hF
 have h0 : Tryz.f128.body = some _ := rfl
 refine fn_calls' Tryz.func128 h0 (n := 19) rfl (by simp) <| C_seq <| R_nd <| nq (Q_assign rfl) rfl rfl <| WL_nil <| x_then <| C_seq <| C_seq <| R_nd <| nq (Q_move rfl) rfl rfl <| nq (Q_len Tryz.underlying23 rfl r3) rfl rfl <| nq (Q_move rfl) rfl rfl <| WL_nil <| x_then ?_
 obtain ⟨o129, ho129, hF⟩ := bnd hF
 refine C_cutQ (fun a w' => .inl () = o129 ∧ Fr 19 a [] ∧ Hp C w' ρ (Box b4 [.int .i64 x5] :: hs)) ?_ ?_
 ·refine C_block ?_
  refine C_iter (f := fun s => F_slices_IndexFunc_int_int_l0 N x2 x5 s) ho129 (fun s a w' => ∃ (x142 : Int), x142 = s ∧ Fr 19 a [(0, v1), (1, .func (.func 108) #[] [.pointer (some ⟨b4, 0, none⟩)].toArray), (7, .int .i64 (x2.length : Int)), (8, .int .i64 x142)] ∧ Hp C w' ρ (Box b4 [.int .i64 x5] :: hs)) ?_ ?_
  ·exact fun a hf => ⟨0, rfl, hf.sub ⟨rfl, rfl, rfl, rfl, trivial⟩, H⟩
  ·rintro s o155 a wd158 ⟨x142, rfl, hf, H⟩ hB156 hO157
   replace hB156 : F_slices_IndexFunc_int_int_l0 N x2 x5 x142 = some o155 := hB156
   unfold F_slices_IndexFunc_int_int_l0 at hB156
   refine CW.at hf <| C_seq <| R_nd <| nq (Q_lss rfl rfl) rfl rfl <| WL_nil <| x_then <| C_seq ?_
   refine C_cond rfl (fun hb => ?_) (fun hb => ?_)
   ·replace hB156 := itT hb hB156
    refine C_skip <| x_then <| C_seq <| C_block <| C_seq <| R_nd <| nq (Q_move rfl) rfl rfl <| nq (Q_assign rfl) rfl rfl <| WL_nil <| x_then <| C_seq <| R_nd <| nq (Q_move rfl) rfl rfl <| nq (Q_move rfl) rfl rfl ?_
    refine nq (Q_move rfl) rfl rfl ?_
    obtain ⟨x159, hx159, hB156⟩ := bnd hB156
    obtain ⟨b160, o161, c162, hc163, ha164, hi165⟩ := idxR r3 hx159
    refine nq (Q_idx hi165 Tryz.underlying23 ty3 rfl rfl) rfl rfl <| nq (v := .int .i64 x159) (Q_ld (show cellsAt _ _ _ [.int .i64 x159] from (show _ = [_] from hc163) ▸ (ha164.up H.ok.view)) ty3 rfl (fun _ => rfl) rfl rfl) rfl rfl ?_
    obtain ⟨q166, hq166, hB156⟩ := bnd hB156
    refine ne (E_callV fn108 rfl rfl (c_108 H gle   hq166)) rfl rfl ?_
    rintro _ wd169 ⟨x168, rfl, rfl, H⟩
    try dsimp only at hB156
    refine WL_nil <| x_then ?_
    refine C_cond rfl (fun hb => ?_) (fun hb => ?_)
    ·replace hB156 := itT hb hB156
     refine C_seq <| R_nd <| nq (Q_move rfl) rfl rfl <| nq (Q_assign rfl) rfl rfl <| WL_nil <| x_then <| C_ret <| x_block_ret <| x_then_ret <| x_then_ret <| x_block_ret <| x_then_ret <| x_then_ret ?_
     obtain rfl := Option.some.inj hB156
     obtain rfl := hO157 _ rfl
     obtain rfl := Option.some.inj (show some _ = some _ from hF)
     exact fn_ret (l := [.tmp 4]) (vs := [.int .i64 x142]) rfl rfl rfl ⟨x142, rfl, rfl, H⟩
    ·replace hB156 := itF hb hB156
     refine C_skip <| x_block <| x_then <| R_nd <| nq (Q_add rfl rfl) rfl rfl <| nq (Q_move rfl) rfl rfl <| WL_nil ?_
     obtain rfl := Option.some.inj hB156
     refine x_A fun a hf => ⟨_, rfl, w64 (x142 + 1), rfl, hf.sub ⟨rfl, rfl, rfl, rfl, trivial⟩, H⟩
   ·replace hB156 := itF hb hB156
    refine C_exit <| x_then_exit <| x_then_exit <| x_block_exit ?_
    obtain rfl := Option.some.inj hB156
    obtain rfl := hO157 _ rfl
    refine x_A fun a hf => ⟨rfl, hf.sub trivial, H⟩
 ·rintro a wd170 ⟨rfl, hf, H⟩
  try dsimp only at hF
  refine XX.at hf <| x_then <| C_seq <| R_nd <| nq (Q_assign rfl) rfl rfl <| WL_nil <| x_then <| C_ret ?_
  obtain rfl := Option.some.inj hF
  exact fn_ret (l := [.tmp 4]) (vs := [.int .i64 (-1)]) rfl rfl rfl ⟨(-1), rfl, rfl, H⟩
theorem c_76 {N : Nat} {C : Cx} {w : World} {ρ : View} {hs : List Hl} {gV : Nat → Value} {v1 : Value} {b4 : Nat} {x2 : (List Int)} {x5 : Int} (H : Hp C w ρ (Box b4 [.int .i64 x5] :: hs)) (gle : GErrs ρ 394 errIds gV) (r3 : RdSl ρ (eI .i64) v1 x2) {r : Bool} (hF : F_slices_ContainsFunc_int_int N x2 x5 = some r) :
  Calls Tryz.prog 76 [v1, .func (.func 108) #[] [.pointer (some ⟨b4, 0, none⟩)].toArray].toArray w (Rets (fun v w' => (∃ (x10 : Bool), x10 = r ∧ .bool x10 = v ∧ Hp C w' ρ (Box b4 [.int .i64 x5] :: hs)))) := by
 unfold F_slices_ContainsFunc_int_int at hF
 have h0 : Tryz.f76.body = some _ := rfl
 refine fn_calls' Tryz.func76 h0 (n := 9) rfl (by simp) <| C_seq <| R_nd <| nq (Q_assign rfl) rfl rfl <| WL_nil <| x_then <| C_seq <| R_nd <| nq (Q_move rfl) rfl rfl <| nq (Q_move rfl) rfl rfl ?_
 obtain ⟨q11, hq11, hF⟩ := bnd hF
 refine ne (E_call fn128 rfl (c_128 H gle  r3 hq11)) rfl rfl ?_
 rintro _ wd14 ⟨x13, rfl, rfl, H⟩
 try dsimp only at hF
 refine nq (Q_geq rfl rfl) rfl rfl <| nq (Q_assign rfl) rfl rfl <| WL_nil <| x_then <| C_ret ?_
 obtain rfl := Option.some.inj hF
 exact fn_ret (l := [.tmp 4]) (vs := [.bool (decide (x13 ≥ 0))]) rfl rfl rfl ⟨decide (x13 ≥ 0), rfl, rfl, H⟩
theorem c_109 {N : Nat} {C : Cx} {w : World} {ρ : View} {hs : List Hl} {gV : Nat → Value} {x1 : Int} (H : Hp C w ρ (hs)) (_gle : GErrs ρ 394 errIds gV) {r : Bool} (hF : F_subset_Right_2 N x1 = some r) :
  Calls Tryz.prog 109 [.int .i64 x1].toArray w (Rets (fun v w' => (∃ (x5 : Bool), x5 = r ∧ .bool x5 = v ∧ Hp C w' ρ (hs)))) := by
 unfold F_subset_Right_2 at hF
 have h0 : Tryz.f109.body = some _ := rfl
 refine fn_calls' Tryz.func109 h0 (n := 9) rfl (by simp) <| C_seq <| R_nd <| nq (Q_assign rfl) rfl rfl <| WL_nil <| x_then ?_
 obtain ⟨o7, ho7, hF⟩ := bnd hF
 refine C_cut (fun a w' => ∃ (x6 : Bool), x6 = o7 ∧ Fr 9 a [(2, .bool x6)] ∧ Hp C w' ρ (hs)) ?_ ?_
 ·refine R_nd <| nq (Q_move rfl) rfl rfl <| nq (Q_lss rfl rfl) rfl rfl <| nq (Q_move rfl) rfl rfl ?_
  rcases Bool.eq_false_or_eq_true (decide (x1 < (-1))) with hb | hb
  ·rw [hb]
   replace ho7 := itT hb ho7
   refine gs rfl rfl rfl rfl <| gs rfl rfl rfl rfl <| nq (Q_pickT rfl rfl) rfl rfl <| nq (Q_assign rfl) rfl rfl <| WL_nil ?_
   obtain rfl := Option.some.inj ho7
   refine x_A fun a hf => ⟨true, rfl, hf.sub ⟨rfl, trivial⟩, H⟩
  ·rw [hb]
   replace ho7 := itF hb ho7
   refine gq (Q_move rfl) rfl rfl rfl <| gq (Q_geq rfl rfl) rfl rfl rfl <| nq (Q_pickF rfl rfl) rfl rfl <| nq (Q_assign rfl) rfl rfl <| WL_nil ?_
   obtain rfl := Option.some.inj ho7
   refine x_A fun a hf => ⟨decide (x1 ≥ 48), rfl, hf.sub ⟨rfl, trivial⟩, H⟩
 ·rintro a wd8 ⟨x6, rfl, hf, H⟩
  try dsimp only at hF
  refine CW.at hf <| C_ret ?_
  obtain rfl := Option.some.inj hF
  exact fn_ret (l := [.tmp 2]) (vs := [.bool x6]) rfl rfl rfl ⟨x6, rfl, rfl, H⟩
theorem c_128_1 {N : Nat} {C : Cx} {w : World} {ρ : View} {hs : List Hl} {gV : Nat → Value} {v1 : Value} {x2 : (List Int)} (H : Hp C w ρ (hs)) (gle : GErrs ρ 394 errIds gV) (r3 : RdSl ρ (eI .i64) v1 x2) {r : Int} (hF : F_slices_IndexFunc_int_int_1 N x2 = some r) :
  Calls Tryz.prog 128 [v1, .func (.func 109) #[] [].toArray].toArray w (Rets (fun v w' => (∃ (x86 : Int), x86 = r ∧ .int .i64 x86 = v ∧ Hp C w' ρ (hs)))) := by
 unfold F_slices_IndexFunc_int_int_1 at hF
 have h0 : Tryz.f128.body = some _ := rfl
 refine fn_calls' Tryz.func128 h0 (n := 19) rfl (by simp) <| C_seq <| R_nd <| nq (Q_assign rfl) rfl rfl <| WL_nil <| x_then <| C_seq <| C_seq <| R_nd <| nq (Q_move rfl) rfl rfl <| nq (Q_len Tryz.underlying23 rfl r3) rfl rfl <| nq (Q_move rfl) rfl rfl <| WL_nil <| x_then ?_
 obtain ⟨o127, ho127, hF⟩ := bnd hF
 refine C_cutQ (fun a w' => .inl () = o127 ∧ Fr 19 a [] ∧ Hp C w' ρ (hs)) ?_ ?_
 ·refine C_block ?_
  refine C_iter (f := fun s => F_slices_IndexFunc_int_int_1_l0 N x2 s) ho127 (fun s a w' => ∃ (x140 : Int), x140 = s ∧ Fr 19 a [(0, v1), (1, .func (.func 109) #[] [].toArray), (7, .int .i64 (x2.length : Int)), (8, .int .i64 x140)] ∧ Hp C w' ρ (hs)) ?_ ?_
  ·exact fun a hf => ⟨0, rfl, hf.sub ⟨rfl, rfl, rfl, rfl, trivial⟩, H⟩
  ·rintro s o153 a wd156 ⟨x140, rfl, hf, H⟩ hB154 hO155
   replace hB154 : F_slices_IndexFunc_int_int_1_l0 N x2 x140 = some o153 := hB154
   unfold F_slices_IndexFunc_int_int_1_l0 at hB154
   refine CW.at hf <| C_seq <| R_nd <| nq (Q_lss rfl rfl) rfl rfl <| WL_nil <| x_then <| C_seq ?_
   refine C_cond rfl (fun hb => ?_) (fun hb => ?_)
   ·replace hB154 := itT hb hB154
    refine C_skip <| x_then <| C_seq <| C_block <| C_seq <| R_nd <| nq (Q_move rfl) rfl rfl <| nq (Q_assign rfl) rfl rfl <| WL_nil <| x_then <| C_seq <| R_nd <| nq (Q_move rfl) rfl rfl <| nq (Q_move rfl) rfl rfl ?_
    refine nq (Q_move rfl) rfl rfl ?_
    obtain ⟨x157, hx157, hB154⟩ := bnd hB154
    obtain ⟨b158, o159, c160, hc161, ha162, hi163⟩ := idxR r3 hx157
    refine nq (Q_idx hi163 Tryz.underlying23 ty3 rfl rfl) rfl rfl <| nq (v := .int .i64 x157) (Q_ld (show cellsAt _ _ _ [.int .i64 x157] from (show _ = [_] from hc161) ▸ (ha162.up H.ok.view)) ty3 rfl (fun _ => rfl) rfl rfl) rfl rfl ?_
    obtain ⟨q164, hq164, hB154⟩ := bnd hB154
    refine ne (E_callV fn109 rfl rfl (c_109 H gle   hq164)) rfl rfl ?_
    rintro _ wd167 ⟨x166, rfl, rfl, H⟩
    try dsimp only at hB154
    refine WL_nil <| x_then ?_
    refine C_cond rfl (fun hb => ?_) (fun hb => ?_)
    ·replace hB154 := itT hb hB154
     refine C_seq <| R_nd <| nq (Q_move rfl) rfl rfl <| nq (Q_assign rfl) rfl rfl <| WL_nil <| x_then <| C_ret <| x_block_ret <| x_then_ret <| x_then_ret <| x_block_ret <| x_then_ret <| x_then_ret ?_
     obtain rfl := Option.some.inj hB154
     obtain rfl := hO155 _ rfl
     obtain rfl := Option.some.inj (show some _ = some _ from hF)
     exact fn_ret (l := [.tmp 4]) (vs := [.int .i64 x140]) rfl rfl rfl ⟨x140, rfl, rfl, H⟩
    ·replace hB154 := itF hb hB154
     refine C_skip <| x_block <| x_then <| R_nd <| nq (Q_add rfl rfl) rfl rfl <| nq (Q_move rfl) rfl rfl <| WL_nil ?_
     obtain rfl := Option.some.inj hB154
     refine x_A fun a hf => ⟨_, rfl, w64 (x140 + 1), rfl, hf.sub ⟨rfl, rfl, rfl, rfl, trivial⟩, H⟩
   ·replace hB154 := itF hb hB154
    refine C_exit <| x_then_exit <| x_then_exit <| x_block_exit ?_
    obtain rfl := Option.some.inj hB154
    obtain rfl := hO155 _ rfl
    refine x_A fun a hf => ⟨rfl, hf.sub trivial, H⟩
 ·rintro a wd168 ⟨rfl, hf, H⟩
  try dsimp only at hF
  refine XX.at hf <| x_then <| C_seq <| R_nd <| nq (Q_assign rfl) rfl rfl <| WL_nil <| x_then <| C_ret ?_
  obtain rfl := Option.some.inj hF
  exact fn_ret (l := [.tmp 4]) (vs := [.int .i64 (-1)]) rfl rfl rfl ⟨(-1), rfl, rfl, H⟩
theorem c_76_1 {N : Nat} {C : Cx} {w : World} {ρ : View} {hs : List Hl} {gV : Nat → Value} {v1 : Value} {x2 : (List Int)} (H : Hp C w ρ (hs)) (gle : GErrs ρ 394 errIds gV) (r3 : RdSl ρ (eI .i64) v1 x2) {r : Bool} (hF : F_slices_ContainsFunc_int_int_1 N x2 = some r) :
  Calls Tryz.prog 76 [v1, .func (.func 109) #[] [].toArray].toArray w (Rets (fun v w' => (∃ (x8 : Bool), x8 = r ∧ .bool x8 = v ∧ Hp C w' ρ (hs)))) := by
 unfold F_slices_ContainsFunc_int_int_1 at hF
 have h0 : Tryz.f76.body = some _ := rfl
 refine fn_calls' Tryz.func76 h0 (n := 9) rfl (by simp) <| C_seq <| R_nd <| nq (Q_assign rfl) rfl rfl <| WL_nil <| x_then <| C_seq <| R_nd <| nq (Q_move rfl) rfl rfl <| nq (Q_move rfl) rfl rfl ?_
 obtain ⟨q9, hq9, hF⟩ := bnd hF
 refine ne (E_call fn128 rfl (c_128_1 H gle  r3 hq9)) rfl rfl ?_
 rintro _ wd12 ⟨x11, rfl, rfl, H⟩
 try dsimp only at hF
 refine nq (Q_geq rfl rfl) rfl rfl <| nq (Q_assign rfl) rfl rfl <| WL_nil <| x_then <| C_ret ?_
 obtain rfl := Option.some.inj hF
 exact fn_ret (l := [.tmp 4]) (vs := [.bool (decide (x11 ≥ 0))]) rfl rfl rfl ⟨decide (x11 ≥ 0), rfl, rfl, H⟩
theorem c_57 {N : Nat} {C : Cx} {w : World} {ρ : View} {hs : List Hl} {gV : Nat → Value} {v1 : Value} {v4 : Value} {v7 : Value} {x2 : (List (List Int))} {x5 : (List Int)} {x8 : (List Int)} (H : Hp C w ρ (hs)) (gle : GErrs ρ 394 errIds gV) (r3 : RdSl ρ (eA 256 (eI .i64)) v1 x2) (r6 : RdSl ρ (eI .i64) v4 x5) (r9 : RdSl ρ (eI .i64) v7 x8) {r : Bool} (hF : F_subset_Right N x2 x5 x8 = some r) :
  Calls Tryz.prog 57 [.agg #[v1, v4, v7]].toArray w (Rets (fun v w' => (∃ (x168 : Bool), x168 = r ∧ .bool x168 = v ∧ Hp C w' ρ (hs)))) := by
 unfold F_subset_Right at hF
 have h0 : Tryz.f57.body = some _ := rfl
 refine fn_calls' Tryz.func57 h0 (n := 71) rfl (by simp) <| C_seq <| R_nd <| ne (E_box H (vs := [v1, v4, v7]) rfl rfl) rfl rfl ?_
 rintro _ wd170 ⟨b169, rfl, H⟩
 refine nq (Q_assign rfl) rfl rfl <| WL_nil <| x_then <| C_seq <| R_nd <| nq (v := .pointer (some ⟨b169, 0, none⟩)) (Q_fld Tryz.underlying78 rfl ty76 (by decide) rfl rfl) rfl rfl <| nq (v := v1) (Q_ldB (k := 0) (cs := [v1]) H.ok rfl ty76 rfl rfl rfl (fun _ => rfl) rfl) rfl rfl <| nq (Q_len Tryz.underlying76 rfl r3) rfl rfl <| ne (E_alloc H ty3 (zs := [.int .i64 0]) rfl) rfl rfl ?_
 rintro _ wd172 ⟨b171, rfl, H⟩
 refine ne (E_stB (k := 0) (cs := [.int .i64 (x2.length : Int)]) (vs' := [.int .i64 (x2.length : Int)]) H rfl ty3 rfl rfl rfl rfl (one_cons rfl one_nil) (by simp) rfl) rfl rfl ?_
 rintro _ wd173 H
 dsimp only [List.set] at H
 refine WL_nil <| x_then <| C_seq ?_
 obtain ⟨o175, ho175, hF⟩ := bnd hF
 refine C_cut (fun a w' => ∃ (x174 : Bool), x174 = o175 ∧ Fr 71 a [(1, .pointer (some ⟨b169, 0, none⟩)), (3, .pointer (some ⟨b171, 0, none⟩)), (35, .bool x174)] ∧ Hp C w' ρ (Box b169 [v1, v4, v7] :: Box b171 [.int .i64 (x2.length : Int)] :: hs)) ?_ ?_
 ·refine R_nd <| nq (v := .int .i64 (x2.length : Int)) (Q_ldB (k := 0) (cs := [.int .i64 (x2.length : Int)]) H.ok rfl ty3 rfl rfl rfl (fun _ => rfl) rfl) rfl rfl <| nq (Q_lss rfl rfl) rfl rfl <| nq (Q_move rfl) rfl rfl ?_
  rcases Bool.eq_false_or_eq_true (decide ((x2.length : Int) < 1)) with hb | hb
  ·rw [hb]
   replace ho175 := itT hb ho175
   refine gs rfl rfl rfl rfl <| gs rfl rfl rfl rfl <| nq (Q_pickT rfl rfl) rfl rfl <| nq (Q_move rfl) rfl rfl <| gs rfl rfl rfl rfl <| gs rfl rfl rfl rfl <| gs rfl rfl rfl rfl <| gs rfl rfl rfl rfl <| gs rfl rfl rfl rfl <| nq (Q_pickT rfl rfl) rfl rfl <| nq (Q_move rfl) rfl rfl <| gs rfl rfl rfl rfl <| gs rfl rfl rfl rfl <| gs rfl rfl rfl rfl ?_
   refine gs rfl rfl rfl rfl <| nq (Q_pickT rfl rfl) rfl rfl <| nq (Q_move rfl) rfl rfl <| gs rfl rfl rfl rfl <| gs rfl rfl rfl rfl <| gs rfl rfl rfl rfl <| gs rfl rfl rfl rfl <| nq (Q_pickT rfl rfl) rfl rfl <| WL_nil ?_
   replace H := H.f1
   obtain rfl := Option.some.inj ho175
   refine x_A fun a hf => ⟨true, rfl, hf.sub ⟨rfl, rfl, rfl, trivial⟩, H⟩
  ·rw [hb]
   replace ho175 := itF hb ho175
   refine gq (v := .int .i64 (x2.length : Int)) (Q_ldB (k := 0) (cs := [.int .i64 (x2.length : Int)]) H.ok rfl ty3 rfl rfl rfl (fun _ => rfl) rfl) rfl rfl rfl <| gq (Q_gtr rfl rfl) rfl rfl rfl <| nq (Q_pickF rfl rfl) rfl rfl <| nq (Q_move rfl) rfl rfl ?_
   rcases Bool.eq_false_or_eq_true (decide ((x2.length : Int) > 200)) with hb | hb
   ·rw [hb]
    replace ho175 := itT hb ho175
    refine gs rfl rfl rfl rfl <| gs rfl rfl rfl rfl <| gs rfl rfl rfl rfl <| gs rfl rfl rfl rfl <| gs rfl rfl rfl rfl <| nq (Q_pickT rfl rfl) rfl rfl <| nq (Q_move rfl) rfl rfl <| gs rfl rfl rfl rfl <| gs rfl rfl rfl rfl <| gs rfl rfl rfl rfl <| gs rfl rfl rfl rfl <| nq (Q_pickT rfl rfl) rfl rfl <| nq (Q_move rfl) rfl rfl <| gs rfl rfl rfl rfl ?_
    refine gs rfl rfl rfl rfl <| gs rfl rfl rfl rfl <| gs rfl rfl rfl rfl <| nq (Q_pickT rfl rfl) rfl rfl <| WL_nil ?_
    replace H := H.f1
    obtain rfl := Option.some.inj ho175
    refine x_A fun a hf => ⟨true, rfl, hf.sub ⟨rfl, rfl, rfl, trivial⟩, H⟩
   ·rw [hb]
    replace ho175 := itF hb ho175
    refine gq (v := .pointer (some ⟨b169, 1, none⟩)) (Q_fld Tryz.underlying78 rfl ty23 (by decide) rfl rfl) rfl rfl rfl <| gq (v := v4) (Q_ldB (k := 1) (cs := [v4]) H.ok rfl ty23 rfl rfl rfl (fun _ => rfl) rfl) rfl rfl rfl <| gq (Q_len Tryz.underlying23 rfl r6) rfl rfl rfl <| gq (v := .int .i64 (x2.length : Int)) (Q_ldB (k := 0) (cs := [.int .i64 (x2.length : Int)]) H.ok rfl ty3 rfl rfl rfl (fun _ => rfl) rfl) rfl rfl rfl <| gq (Q_neq rfl rfl) rfl rfl rfl <| nq (Q_pickF rfl rfl) rfl rfl <| nq (Q_move rfl) rfl rfl ?_
    rcases Bool.eq_false_or_eq_true ((x5.length : Int) != (x2.length : Int)) with hb | hb
    ·rw [hb]
     replace ho175 := itT hb ho175
     refine gs rfl rfl rfl rfl <| gs rfl rfl rfl rfl <| gs rfl rfl rfl rfl <| gs rfl rfl rfl rfl <| nq (Q_pickT rfl rfl) rfl rfl <| nq (Q_move rfl) rfl rfl <| gs rfl rfl rfl rfl <| gs rfl rfl rfl rfl <| gs rfl rfl rfl rfl <| gs rfl rfl rfl rfl <| nq (Q_pickT rfl rfl) rfl rfl <| WL_nil ?_
     replace H := H.f1
     obtain rfl := Option.some.inj ho175
     refine x_A fun a hf => ⟨true, rfl, hf.sub ⟨rfl, rfl, rfl, trivial⟩, H⟩
    ·rw [hb]
     replace ho175 := itF hb ho175
     refine gq (v := .pointer (some ⟨b169, 2, none⟩)) (Q_fld Tryz.underlying78 rfl ty23 (by decide) rfl rfl) rfl rfl rfl <| gq (v := v7) (Q_ldB (k := 1) (cs := [v7]) H.ok rfl ty23 rfl rfl rfl (fun _ => rfl) rfl) rfl rfl rfl <| gq (Q_len Tryz.underlying23 rfl r9) rfl rfl rfl <| gq (Q_lss rfl rfl) rfl rfl rfl <| nq (Q_pickF rfl rfl) rfl rfl <| nq (Q_move rfl) rfl rfl ?_
     rcases Bool.eq_false_or_eq_true (decide ((x8.length : Int) < 1)) with hb | hb
     ·rw [hb]
      replace ho175 := itT hb ho175
      refine gs rfl rfl rfl rfl <| gs rfl rfl rfl rfl <| gs rfl rfl rfl rfl <| gs rfl rfl rfl rfl <| nq (Q_pickT rfl rfl) rfl rfl <| WL_nil ?_
      replace H := H.f1
      obtain rfl := Option.some.inj ho175
      refine x_A fun a hf => ⟨true, rfl, hf.sub ⟨rfl, rfl, rfl, trivial⟩, H⟩
     ·rw [hb]
      replace ho175 := itF hb ho175
      refine gq (v := .pointer (some ⟨b169, 2, none⟩)) (Q_fld Tryz.underlying78 rfl ty23 (by decide) rfl rfl) rfl rfl rfl <| gq (v := v7) (Q_ldB (k := 1) (cs := [v7]) H.ok rfl ty23 rfl rfl rfl (fun _ => rfl) rfl) rfl rfl rfl <| gq (Q_len Tryz.underlying23 rfl r9) rfl rfl rfl <| gq (Q_gtr rfl rfl) rfl rfl rfl <| nq (Q_pickF rfl rfl) rfl rfl <| WL_nil ?_
      replace H := H.f1
      obtain rfl := Option.some.inj ho175
      refine x_A fun a hf => ⟨decide ((x8.length : Int) > 8), rfl, hf.sub ⟨rfl, rfl, rfl, trivial⟩, H⟩
 ·rintro a wd176 ⟨x174, rfl, hf, H⟩
  try dsimp only at hF
  refine CW.at hf ?_
  refine C_cond rfl (fun hb => ?_) (fun hb => ?_)
  ·replace hF := itT hb hF
   refine C_seq <| R_nd <| nq (Q_assign rfl) rfl rfl <| WL_nil <| x_then <| C_ret <| x_then_ret ?_
   replace H := H.e1.e0
   obtain rfl := Option.some.inj hF
   exact fn_ret (l := [.tmp 2]) (vs := [.bool false]) rfl rfl rfl ⟨false, rfl, rfl, H⟩
  ·replace hF := itF hb hF
   refine C_skip <| x_then <| C_seq <| R_nd <| nq (v := .func (.func 108) #[] [.pointer (some ⟨b171, 0, none⟩)].toArray) (Q_func rfl) rfl rfl <| nq (Q_assign rfl) rfl rfl <| WL_nil <| x_then <| C_seq <| C_seq <| R_nd <| nq (v := .pointer (some ⟨b169, 0, none⟩)) (Q_fld Tryz.underlying78 rfl ty76 (by decide) rfl rfl) rfl rfl <| nq (v := v1) (Q_ldB (k := 0) (cs := [v1]) H.ok rfl ty76 rfl rfl rfl (fun _ => rfl) rfl) rfl rfl <| nq (Q_len Tryz.underlying76 rfl r3) rfl rfl ?_
   refine nq (Q_move rfl) rfl rfl <| WL_nil <| x_then ?_
   obtain ⟨o226, ho226, hF⟩ := bnd hF
   refine C_cutQ (fun a w' => .inl () = o226 ∧ Fr 71 a [(1, .pointer (some ⟨b169, 0, none⟩)), (4, .func (.func 108) #[] [.pointer (some ⟨b171, 0, none⟩)].toArray)] ∧ Hp C w' ρ (Box b169 [v1, v4, v7] :: Box b171 [.int .i64 (x2.length : Int)] :: hs)) ?_ ?_
   ·refine C_block ?_
    refine C_iter (f := fun s => F_subset_Right_l0 N x2 s) ho226 (fun s a w' => ∃ (x242 : Int), x242 = s ∧ Fr 71 a [(1, .pointer (some ⟨b169, 0, none⟩)), (4, .func (.func 108) #[] [.pointer (some ⟨b171, 0, none⟩)].toArray), (38, v1), (39, .int .i64 (x2.length : Int)), (40, .int .i64 x242)] ∧ Hp C w' ρ (Box b169 [v1, v4, v7] :: Box b171 [.int .i64 (x2.length : Int)] :: hs)) ?_ ?_
    ·exact fun a hf => ⟨0, rfl, hf.sub ⟨rfl, rfl, rfl, rfl, rfl, trivial⟩, H⟩
    ·rintro s o258 a wd261 ⟨x242, rfl, hf, H⟩ hB259 hO260
     replace hB259 : F_subset_Right_l0 N x2 x242 = some o258 := hB259
     unfold F_subset_Right_l0 at hB259
     refine CW.at hf <| C_seq <| R_nd <| nq (Q_lss rfl rfl) rfl rfl <| WL_nil <| x_then <| C_seq ?_
     refine C_cond rfl (fun hb => ?_) (fun hb => ?_)
     ·replace hB259 := itT hb hB259
      refine C_skip <| x_then <| C_seq <| C_block <| C_seq <| R_nd ?_
      obtain ⟨x262, hx262, hB259⟩ := bnd hB259
      obtain ⟨b263, o264, c265, hc266, ha267, hi268⟩ := idxR r3 hx262
      refine nq (Q_idx hi268 Tryz.underlying76 ty88 rfl rfl) rfl rfl <| nq (v := .agg c265.toArray) (Q_ld (ha267.up H.ok.view) ty88 ((eA 256 (eI .i64)).len hc266) (fun h => nomatch h) rfl rfl) rfl rfl <| ne (E_allocA (N := 256) (n := 1) (zs := (repC 256 [.int .i64 0])) H ty88 rfl (by simp [repC_length])) rfl rfl ?_
      rintro _ wd270 ⟨b269, rfl, H⟩
      refine ne (E_stW (k := 0) H rfl ty88 rfl rfl (rdL.one hc266.2) (arr_clen (rdL_rep (e:=(eI .i64)) (ρ:=ρ) (rfl) 256) List.length_replicate) (arr_clen hc266.2 hc266.1)) rfl rfl ?_
      rintro _ wd271 H
      dsimp only [List.set] at H
      refine WL_nil <| x_then <| C_seq <| R_nd <| nq (v := (.slice (some ⟨b269, 0, none⟩) 256 256)) (Q_slA Tryz.underlying88 ty3 rfl) rfl rfl <| nq (Q_move rfl) rfl rfl ?_
      replace H := H.f2
      obtain ⟨q272, hq272, hB259⟩ := bnd hB259
      obtain ⟨C', ρ', hl273, HA, hL, hback⟩ := Hp.lend (A := [Box b171 [.int .i64 (x2.length : Int)]]) (L := [Arr (.slice (some ⟨b269, 0, none⟩) 256 256) 1 c265]) (F := Box b169 [v1, v4, v7] :: hs) H
      refine ne (E_call fn76 rfl (c_76 HA (gle.up hl273)  (arr_rd (by decide) hl273 (hL (Arr (.slice (some ⟨b269, 0, none⟩) 256 256) 1 c265) (by simp)) hc266.2) hq272)) rfl rfl ?_
      rintro _ wd275 ⟨x274, rfl, rfl, H⟩
      try dsimp only at hB259
      replace H := hback H
      dsimp only [List.cons_append, List.nil_append] at H
      refine WL_nil <| x_then ?_
      refine C_cond rfl (fun hb => ?_) (fun hb => ?_)
      ·replace hB259 := itT hb hB259
       refine C_seq <| R_nd <| nq (Q_assign rfl) rfl rfl <| WL_nil <| x_then <| C_ret <| x_block_ret <| x_then_ret <| x_then_ret <| x_block_ret <| x_then_ret <| x_then_ret ?_
       replace H := H.e2.e1.e0
       obtain rfl := Option.some.inj hB259
       obtain rfl := hO260 _ rfl
       obtain rfl := Option.some.inj (show some _ = some _ from hF)
       exact fn_ret (l := [.tmp 2]) (vs := [.bool false]) rfl rfl rfl ⟨false, rfl, rfl, H⟩
      ·replace hB259 := itF hb hB259
       refine C_skip <| x_block <| x_then <| R_nd <| nq (Q_add rfl rfl) rfl rfl <| nq (Q_move rfl) rfl rfl <| WL_nil ?_
       replace H := H.e1.f1
       obtain rfl := Option.some.inj hB259
       refine x_A fun a hf => ⟨_, rfl, w64 (x242 + 1), rfl, hf.sub ⟨rfl, rfl, rfl, rfl, rfl, trivial⟩, H⟩
     ·replace hB259 := itF hb hB259
      refine C_exit <| x_then_exit <| x_then_exit <| x_block_exit ?_
      obtain rfl := Option.some.inj hB259
      obtain rfl := hO260 _ rfl
      refine x_A fun a hf => ⟨rfl, hf.sub ⟨rfl, rfl, trivial⟩, H⟩
   ·rintro a wd276 ⟨rfl, hf, H⟩
    try dsimp only at hF
    refine XX.at hf <| x_then <| C_seq <| R_nd <| nq (Q_assign rfl) rfl rfl <| WL_nil <| x_then <| C_seq ?_
    obtain ⟨o286, ho286, hF⟩ := bnd hF
    refine C_cut (fun a w' => ∃ (x285 : Bool), x285 = o286 ∧ Fr 71 a [(1, .pointer (some ⟨b169, 0, none⟩)), (57, .bool x285)] ∧ Hp C w' ρ (Box b169 [v1, v4, v7] :: hs)) ?_ ?_
    ·refine R_nd <| nq (v := .pointer (some ⟨b169, 1, none⟩)) (Q_fld Tryz.underlying78 rfl ty23 (by decide) rfl rfl) rfl rfl <| nq (v := v4) (Q_ldB (k := 0) (cs := [v4]) H.ok rfl ty23 rfl rfl rfl (fun _ => rfl) rfl) rfl rfl <| nq (Q_move rfl) rfl rfl ?_
     obtain ⟨q287, hq287, ho286⟩ := bnd ho286
     refine ne (E_call fn76 rfl (c_76_1 H gle  r6 hq287)) rfl rfl ?_
     rintro _ wd290 ⟨x289, rfl, rfl, H⟩
     try dsimp only at ho286
     refine nq (Q_move rfl) rfl rfl ?_
     rcases Bool.eq_false_or_eq_true x289 with hb | hb
     ·rw [hb]
      replace ho286 := itT hb ho286
      refine gs rfl rfl rfl rfl <| gs rfl rfl rfl rfl <| gs rfl rfl rfl rfl <| gs rfl rfl rfl rfl <| nq (Q_pickT rfl rfl) rfl rfl <| WL_nil ?_
      replace H := H.e1
      obtain rfl := Option.some.inj ho286
      refine x_A fun a hf => ⟨true, rfl, hf.sub ⟨rfl, rfl, trivial⟩, H⟩
     ·rw [hb]
      replace ho286 := itF hb ho286
      refine gq (v := .pointer (some ⟨b169, 2, none⟩)) (Q_fld Tryz.underlying78 rfl ty23 (by decide) rfl rfl) rfl rfl rfl <| gq (v := v7) (Q_ldB (k := 0) (cs := [v7]) H.ok rfl ty23 rfl rfl rfl (fun _ => rfl) rfl) rfl rfl rfl <| gq (Q_move rfl) rfl rfl rfl ?_
      replace H := H.f1
      obtain ⟨q291, hq291, ho286⟩ := bnd ho286
      refine ge (E_call fn76 rfl (c_76 H gle  r9 hq291)) rfl rfl rfl ?_
      rintro _ wd294 ⟨x293, rfl, rfl, H⟩
      try dsimp only at ho286
      refine nq (Q_pickF rfl rfl) rfl rfl <| WL_nil ?_
      replace H := H.e0
      obtain rfl := Option.some.inj ho286
      refine x_A fun a hf => ⟨x293, rfl, hf.sub ⟨rfl, rfl, trivial⟩, H⟩
    ·rintro a wd295 ⟨x285, rfl, hf, H⟩
     try dsimp only at hF
     refine CW.at hf ?_
     refine C_cond rfl (fun hb => ?_) (fun hb => ?_)
     ·replace hF := itT hb hF
      refine C_seq <| R_nd <| nq (Q_assign rfl) rfl rfl <| WL_nil <| x_then <| C_ret <| x_then_ret ?_
      replace H := H.e0
      obtain rfl := Option.some.inj hF
      exact fn_ret (l := [.tmp 2]) (vs := [.bool false]) rfl rfl rfl ⟨false, rfl, rfl, H⟩
     ·replace hF := itF hb hF
      refine C_skip <| x_then ?_
      obtain ⟨o311, ho311, hF⟩ := bnd hF
      refine C_cut (fun a w' => ∃ (x310 : Bool), x310 = o311 ∧ Fr 71 a [(2, .bool x310)] ∧ Hp C w' ρ (hs)) ?_ ?_
      ·refine R_nd <| nq (v := .pointer (some ⟨b169, 0, none⟩)) (Q_fld Tryz.underlying78 rfl ty76 (by decide) rfl rfl) rfl rfl <| nq (v := v1) (Q_ldB (k := 0) (cs := [v1]) H.ok rfl ty76 rfl rfl rfl (fun _ => rfl) rfl) rfl rfl ?_
       obtain ⟨x312, hx312, ho311⟩ := bnd ho311
       obtain ⟨b313, o314, c315, hc316, ha317, hi318⟩ := idxR r3 hx312
       refine nq (Q_idx hi318 Tryz.underlying76 ty88 rfl rfl) rfl rfl <| nq (v := .agg c315.toArray) (Q_ld (ha317.up H.ok.view) ty88 ((eA 256 (eI .i64)).len hc316) (fun h => nomatch h) rfl rfl) rfl rfl <| nq (v := .agg (repC 256 [.int .i64 0]).toArray) (Q_build0 (zs := (repC 256 [.int .i64 0])) ty88 Tryz.underlying88 ty3 rfl) rfl rfl <| nq (v := .bool (x312 == (List.replicate 256 0))) (Q_eqlA Tryz.underlying88 ty3 (by kernel_rfl) Tryz.underlying3 hc316.2 hc316.1 (rdL_rep (e:=(eI .i64)) (ρ:=ρ) (rfl) 256) List.length_replicate rfl rfl) rfl rfl <| nq (Q_move rfl) rfl rfl ?_
       rcases Bool.eq_false_or_eq_true (x312 == (List.replicate 256 0)) with hb | hb
       ·rw [hb]
        replace ho311 := itT hb ho311
        refine gq (v := .pointer (some ⟨b169, 1, none⟩)) (Q_fld Tryz.underlying78 rfl ty23 (by decide) rfl rfl) rfl rfl rfl <| gq (v := v4) (Q_ldB (k := 0) (cs := [v4]) H.ok rfl ty23 rfl rfl rfl (fun _ => rfl) rfl) rfl rfl rfl ?_
        obtain ⟨x319, hx319, ho311⟩ := bnd ho311
        obtain ⟨b320, o321, c322, hc323, ha324, hi325⟩ := idxR r6 hx319
        refine gq (Q_idx hi325 Tryz.underlying23 ty3 rfl rfl) rfl rfl rfl <| gq (v := .int .i64 x319) (Q_ld (show cellsAt _ _ _ [.int .i64 x319] from (show _ = [_] from hc323) ▸ (ha324.up H.ok.view)) ty3 rfl (fun _ => rfl) rfl rfl) rfl rfl rfl <| gq (Q_eql rfl rfl) rfl rfl rfl <| nq (Q_pickT rfl rfl) rfl rfl <| nq (Q_assign rfl) rfl rfl <| WL_nil ?_
        replace H := H.e0
        obtain rfl := Option.some.inj ho311
        refine x_A fun a hf => ⟨x319 == (-1), rfl, hf.sub ⟨rfl, trivial⟩, H⟩
       ·rw [hb]
        replace ho311 := itF hb ho311
        refine gs rfl rfl rfl rfl <| gs rfl rfl rfl rfl <| gs rfl rfl rfl rfl <| gs rfl rfl rfl rfl <| gs rfl rfl rfl rfl <| nq (Q_pickF rfl rfl) rfl rfl <| nq (Q_assign rfl) rfl rfl <| WL_nil ?_
        replace H := H.e0
        obtain rfl := Option.some.inj ho311
        refine x_A fun a hf => ⟨false, rfl, hf.sub ⟨rfl, trivial⟩, H⟩
      ·rintro a wd326 ⟨x310, rfl, hf, H⟩
       try dsimp only at hF
       refine CW.at hf <| C_ret ?_
       obtain rfl := Option.some.inj hF
       exact fn_ret (l := [.tmp 2]) (vs := [.bool x310]) rfl rfl rfl ⟨x310, rfl, rfl, H⟩
theorem c_100 {N : Nat} {C : Cx} {w : World} {ρ : View} {hs : List Hl} {gV : Nat → Value} {v1 : Value} {v4 : Value} {v7 : Value} {v10 : Value} {v13 : Value} {v16 : Value} {x2 : (List (List Int))} {x5 : (List Int)} {x8 : (List Int)} {x11 : (List (List Int))} {x14 : (List Int)} {x17 : (List Int)} (H : Hp C w ρ (hs)) (gle : GErrs ρ 394 errIds gV) (r3 : RdSl ρ (eA 256 (eI .i64)) v1 x2) (r6 : RdSl ρ (eI .i64) v4 x5) (r9 : RdSl ρ (eI .i64) v7 x8) (r12 : RdSl ρ (eA 256 (eI .i64)) v10 x11) (r15 : RdSl ρ (eI .i64) v13 x14) (r18 : RdSl ρ (eI .i64) v16 x17) {r : Bool} (hF : F_product_two_right N x2 x5 x8 x11 x14 x17 = some r) :
  Calls Tryz.prog 100 [.agg #[v1, v4, v7, v10, v13, v16]].toArray w (Rets (fun v w' => (∃ (x40 : Bool), x40 = r ∧ .bool x40 = v ∧ Hp C w' ρ (hs)))) := by
 unfold F_product_two_right at hF
 have h0 : Tryz.f100.body = some _ := rfl
 refine fn_calls' Tryz.func100 h0 (n := 11) rfl (by simp) <| C_seq <| R_nd <| ne (E_box H (vs := [v1, v4, v7, v10, v13, v16]) rfl rfl) rfl rfl ?_
 rintro _ wd42 ⟨b41, rfl, H⟩
 refine nq (Q_assign rfl) rfl rfl <| WL_nil <| x_then ?_
 obtain ⟨o52, ho52, hF⟩ := bnd hF
 refine C_cut (fun a w' => ∃ (x51 : Bool), x51 = o52 ∧ Fr 11 a [(2, .bool x51)] ∧ Hp C w' ρ (hs)) ?_ ?_
 ·refine R_nd <| nq (v := .pointer (some ⟨b41, 0, none⟩)) (Q_fld Tryz.underlying162 rfl ty78 (by decide) rfl rfl) rfl rfl <| nq (v := .agg #[v1, v4, v7]) (Q_ldB (k := 0) (cs := [v1, v4, v7]) H.ok rfl ty78 rfl rfl rfl (fun h => nomatch h) rfl) rfl rfl ?_
  obtain ⟨q53, hq53, ho52⟩ := bnd ho52
  refine ne (E_call fn57 rfl (c_57 H gle  r3 r6 r9 hq53)) rfl rfl ?_
  rintro _ wd56 ⟨x55, rfl, rfl, H⟩
  try dsimp only at ho52
  refine nq (Q_move rfl) rfl rfl ?_
  rcases Bool.eq_false_or_eq_true x55 with hb | hb
  ·rw [hb]
   replace ho52 := itT hb ho52
   refine gq (v := .pointer (some ⟨b41, 3, none⟩)) (Q_fld Tryz.underlying162 rfl ty78 (by decide) rfl rfl) rfl rfl rfl <| gq (v := .agg #[v10, v13, v16]) (Q_ldB (k := 0) (cs := [v10, v13, v16]) H.ok rfl ty78 rfl rfl rfl (fun h => nomatch h) rfl) rfl rfl rfl ?_
   obtain ⟨q57, hq57, ho52⟩ := bnd ho52
   refine ge (E_call fn57 rfl (c_57 H gle  r12 r15 r18 hq57)) rfl rfl rfl ?_
   rintro _ wd60 ⟨x59, rfl, rfl, H⟩
   try dsimp only at ho52
   refine nq (Q_pickT rfl rfl) rfl rfl <| nq (Q_assign rfl) rfl rfl <| WL_nil ?_
   replace H := H.e0
   obtain rfl := Option.some.inj ho52
   refine x_A fun a hf => ⟨x59, rfl, hf.sub ⟨rfl, trivial⟩, H⟩
  ·rw [hb]
   replace ho52 := itF hb ho52
   refine gs rfl rfl rfl rfl <| gs rfl rfl rfl rfl <| gs rfl rfl rfl rfl <| nq (Q_pickF rfl rfl) rfl rfl <| nq (Q_assign rfl) rfl rfl <| WL_nil ?_
   replace H := H.e0
   obtain rfl := Option.some.inj ho52
   refine x_A fun a hf => ⟨false, rfl, hf.sub ⟨rfl, trivial⟩, H⟩
 ·rintro a wd61 ⟨x51, rfl, hf, H⟩
  try dsimp only at hF
  refine CW.at hf <| C_ret ?_
  obtain rfl := Option.some.inj hF
  exact fn_ret (l := [.tmp 2]) (vs := [.bool x51]) rfl rfl rfl ⟨x51, rfl, rfl, H⟩
theorem c_143 {N : Nat} {C : Cx} {w : World} {ρ : View} {hs : List Hl} {gV : Nat → Value} {v1 : Value} {v4 : Value} {v7 : Value} {x2 : (List (List Int))} {x5 : (List Int)} {x8 : (List Int)} {x10 : Int} (H : Hp C w ρ (hs)) (_gle : GErrs ρ 394 errIds gV) (_r3 : RdSl ρ (eA 256 (eI .i64)) v1 x2) (_r6 : RdSl ρ (eI .i64) v4 x5) (r9 : RdSl ρ (eI .i64) v7 x8) {r : Int} (hF : F_product_entry N x2 x5 x8 x10 = some r) :
  Calls Tryz.prog 143 [.agg #[v1, v4, v7], .int .i64 x10].toArray w (Rets (fun v w' => (∃ (x23 : Int), x23 = r ∧ .int .i64 x23 = v ∧ Hp C w' ρ (hs)))) := by
 unfold F_product_entry at hF
 have h0 : Tryz.f143.body = some _ := rfl
 refine fn_calls' Tryz.func143 h0 (n := 19) rfl (by simp) <| C_seq <| R_nd <| ne (E_box H (vs := [v1, v4, v7]) rfl rfl) rfl rfl ?_
 rintro _ wd25 ⟨b24, rfl, H⟩
 refine nq (Q_assign rfl) rfl rfl <| WL_nil <| x_then <| C_seq ?_
 obtain ⟨o27, ho27, hF⟩ := bnd hF
 refine C_cut (fun a w' => ∃ (x26 : Bool), x26 = o27 ∧ Fr 19 a [(1, .int .i64 x10), (2, .pointer (some ⟨b24, 0, none⟩)), (13, .bool x26)] ∧ Hp C w' ρ (Box b24 [v1, v4, v7] :: hs)) ?_ ?_
 ·refine R_nd <| nq (Q_move rfl) rfl rfl <| nq (Q_lss rfl rfl) rfl rfl <| nq (Q_move rfl) rfl rfl ?_
  rcases Bool.eq_false_or_eq_true (decide (x10 < 0)) with hb | hb
  ·rw [hb]
   replace ho27 := itT hb ho27
   refine gs rfl rfl rfl rfl <| gs rfl rfl rfl rfl <| gs rfl rfl rfl rfl <| gs rfl rfl rfl rfl <| gs rfl rfl rfl rfl <| nq (Q_pickT rfl rfl) rfl rfl <| WL_nil ?_
   obtain rfl := Option.some.inj ho27
   refine x_A fun a hf => ⟨true, rfl, hf.sub ⟨rfl, rfl, rfl, trivial⟩, H⟩
  ·rw [hb]
   replace ho27 := itF hb ho27
   refine gq (Q_move rfl) rfl rfl rfl <| gq (v := .pointer (some ⟨b24, 2, none⟩)) (Q_fld Tryz.underlying78 rfl ty23 (by decide) rfl rfl) rfl rfl rfl <| gq (v := v7) (Q_ldB (k := 0) (cs := [v7]) H.ok rfl ty23 rfl rfl rfl (fun _ => rfl) rfl) rfl rfl rfl <| gq (Q_len Tryz.underlying23 rfl r9) rfl rfl rfl <| gq (Q_geq rfl rfl) rfl rfl rfl <| nq (Q_pickF rfl rfl) rfl rfl <| WL_nil ?_
   obtain rfl := Option.some.inj ho27
   refine x_A fun a hf => ⟨decide (x10 ≥ (x8.length : Int)), rfl, hf.sub ⟨rfl, rfl, rfl, trivial⟩, H⟩
 ·rintro a wd28 ⟨x26, rfl, hf, H⟩
  try dsimp only at hF
  refine CW.at hf ?_
  refine C_cond rfl (fun hb => ?_) (fun hb => ?_)
  ·replace hF := itT hb hF
   refine C_seq <| R_nd <| nq (Q_assign rfl) rfl rfl <| WL_nil <| x_then <| C_ret <| x_then_ret ?_
   replace H := H.e0
   obtain rfl := Option.some.inj hF
   exact fn_ret (l := [.tmp 4]) (vs := [.int .i64 0]) rfl rfl rfl ⟨0, rfl, rfl, H⟩
  ·replace hF := itF hb hF
   refine C_skip <| x_then <| C_seq <| R_nd <| nq (v := .pointer (some ⟨b24, 2, none⟩)) (Q_fld Tryz.underlying78 rfl ty23 (by decide) rfl rfl) rfl rfl <| nq (v := v7) (Q_ldB (k := 0) (cs := [v7]) H.ok rfl ty23 rfl rfl rfl (fun _ => rfl) rfl) rfl rfl <| nq (Q_move rfl) rfl rfl ?_
   obtain ⟨x29, hx29, hF⟩ := bnd hF
   obtain ⟨b30, o31, c32, hc33, ha34, hi35⟩ := idxR r9 hx29
   refine nq (Q_idx hi35 Tryz.underlying23 ty3 rfl rfl) rfl rfl <| nq (v := .int .i64 x29) (Q_ld (show cellsAt _ _ _ [.int .i64 x29] from (show _ = [_] from hc33) ▸ (ha34.up H.ok.view)) ty3 rfl (fun _ => rfl) rfl rfl) rfl rfl <| nq (Q_assign rfl) rfl rfl <| WL_nil <| x_then <| C_ret ?_
   replace H := H.e0
   obtain rfl := Option.some.inj hF
   exact fn_ret (l := [.tmp 4]) (vs := [.int .i64 x29]) rfl rfl rfl ⟨x29, rfl, rfl, H⟩
theorem c_115 {N : Nat} {C : Cx} {w : World} {ρ : View} {hs : List Hl} {gV : Nat → Value} {v1 : Value} {v4 : Value} {v7 : Value} {v10 : Value} {v13 : Value} {v16 : Value} {x2 : (List (List Int))} {x5 : (List Int)} {x8 : (List Int)} {x11 : (List (List Int))} {x14 : (List Int)} {x17 : (List Int)} {x19 : Int} (H : Hp C w ρ (hs)) (gle : GErrs ρ 394 errIds gV) (r3 : RdSl ρ (eA 256 (eI .i64)) v1 x2) (r6 : RdSl ρ (eI .i64) v4 x5) (r9 : RdSl ρ (eI .i64) v7 x8) (r12 : RdSl ρ (eA 256 (eI .i64)) v10 x11) (r15 : RdSl ρ (eI .i64) v13 x14) (r18 : RdSl ρ (eI .i64) v16 x17) {r : (Int × Int)} (hF : F_product_two_begin N x2 x5 x8 x11 x14 x17 x19 = some r) :
  Calls Tryz.prog 115 [.agg #[v1, v4, v7, v10, v13, v16], .int .i64 x19].toArray w (Rets (fun v w' => (∃ (x46 : Int) (x47 : Int), (x46, x47) = r ∧ .agg #[.int .i64 x46, .int .i64 x47] = v ∧ Hp C w' ρ (hs)))) := by
 unfold F_product_two_begin at hF
 have h0 : Tryz.f115.body = some _ := rfl
 refine fn_calls' Tryz.func115 h0 (n := 14) rfl (by simp) <| C_seq <| R_nd <| ne (E_box H (vs := [v1, v4, v7, v10, v13, v16]) rfl rfl) rfl rfl ?_
 rintro _ wd49 ⟨b48, rfl, H⟩
 refine ne (E_alloc H ty164 (zs := [.int .i64 0, .int .i64 0]) rfl) rfl rfl ?_
 rintro _ wd51 ⟨b50, rfl, H⟩
 refine WL_nil <| x_then ?_
 obtain ⟨o63, ho63, hF⟩ := bnd hF
 refine C_cut (fun a w' => ∃ (x61 : Int) (x62 : Int), (x61, x62) = o63 ∧ Fr 14 a [(4, .pointer (some ⟨b50, 0, none⟩))] ∧ Hp C w' ρ (Box b50 [.int .i64 x61, .int .i64 x62] :: hs)) ?_ ?_
 ·refine R_dr (.take 0 (.take 1 (.take 2 (.take 4 (.take 5 (.take 6 (.one 3 (.bar 7 (some 9) (.take 8 (.bar 9 none .done)))))))))) (some 7) (S := fun w' => Ok w' ρ [Box b50 [.int .i64 0, .int .i64 0], Box b48 [v1, v4, v7, v10, v13, v16]]) hm0 (by kernel_rfl) (H.drew.okS (by simp)) ?_
  replace H := H.drew
  refine dq (v := .pointer (some ⟨b48, 0, none⟩)) rfl (fun _ _ => Q_fld Tryz.underlying162 rfl ty78 (by decide) rfl rfl) rfl rfl <| dq (v := .agg #[v1, v4, v7]) rfl (fun _ hw => Q_ldB (k := 1) (cs := [v1, v4, v7]) hw rfl ty78 rfl rfl rfl (fun h => nomatch h) rfl) rfl rfl <| dq rfl (fun _ _ => Q_move rfl) rfl rfl <| dq (v := .pointer (some ⟨b48, 3, none⟩)) rfl (fun _ _ => Q_fld Tryz.underlying162 rfl ty78 (by decide) rfl rfl) rfl rfl <| dq (v := .agg #[v10, v13, v16]) rfl (fun _ hw => Q_ldB (k := 1) (cs := [v10, v13, v16]) hw rfl ty78 rfl rfl rfl (fun h => nomatch h) rfl) rfl rfl <| dq rfl (fun _ _ => Q_move rfl) rfl rfl ?_
  obtain ⟨q64, hq64, ho63⟩ := bnd ho63
  refine d1 (de rfl (E_call fn143 rfl (c_143 H gle  r3 r6 r9 hq64)) rfl rfl ?_)
  rintro _ wd67 ⟨x66, rfl, rfl, H⟩
  try dsimp only at ho63
  refine ⟨H.okS (by simp), ?_⟩
  obtain ⟨q68, hq68, ho63⟩ := bnd ho63
  refine db rfl (E_call fn143 rfl (c_143 H gle  r12 r15 r18 hq68)) rfl rfl ?_
  rintro _ wd71 ⟨x70, rfl, rfl, H⟩
  try dsimp only at ho63
  refine H.okF <| dq (v := .agg #[.int .i64 x66, .int .i64 x70]) rfl (fun _ _ => Q_buildS st164.choose_spec (ps := [(0, [.int .i64 x66]), (1, [.int .i64 x70])]) rfl ⟨rfl, rfl, by simp, ⟨rfl, rfl, by simp, trivial⟩⟩ rfl) rfl rfl <| db rfl (E_stB (k := 0) (cs := [.int .i64 x66, .int .i64 x70]) (vs' := [.int .i64 x66, .int .i64 x70]) H rfl ty164 rfl rfl rfl rfl (one_cons rfl (one_cons rfl one_nil)) (by simp) rfl) rfl rfl ?_
  rintro _ wd72 H
  dsimp only [List.set] at H
  refine H.okF <| DL_nil ?_
  replace H := H.e1
  obtain rfl := Option.some.inj ho63
  refine x_A fun a hf => ⟨x66, x70, rfl, hf.sub ⟨rfl, trivial⟩, H⟩
 ·rintro a wd73 ⟨x61, x62, rfl, hf, H⟩
  try dsimp only at hF
  refine CW.at hf <| C_ret ?_
  have hRV : RV Tryz.prog wd73 [(4, .pointer (some ⟨b50, 0, none⟩))] [.cell 4 164] [.agg #[.int .i64 x61, .int .i64 x62]] := ⟨⟨_, rfl, run_ldv ty164 rfl (fun h => nomatch h) (box_at (H.ok.get (k := 0) rfl) 0 2)⟩, trivial⟩
  replace H := H.e0
  obtain rfl := Option.some.inj hF
  exact fn_retV (rs := [.cell 4 164]) (vs := [.agg #[.int .i64 x61, .int .i64 x62]]) rfl hRV ⟨x61, x62, rfl, rfl, H⟩
theorem c_103 {N : Nat} {C : Cx} {w : World} {ρ : View} {hs : List Hl} {gV : Nat → Value} {v1 : Value} {v4 : Value} {v7 : Value} {v10 : Value} {v13 : Value} {v16 : Value} {x2 : (List (List Int))} {x5 : (List Int)} {x8 : (List Int)} {x11 : (List (List Int))} {x14 : (List Int)} {x17 : (List Int)} {x19 : Int} {x20 : Int} (H : Hp C w ρ (hs)) (_gle : GErrs ρ 394 errIds gV) (_r3 : RdSl ρ (eA 256 (eI .i64)) v1 x2) (r6 : RdSl ρ (eI .i64) v4 x5) (_r9 : RdSl ρ (eI .i64) v7 x8) (_r12 : RdSl ρ (eA 256 (eI .i64)) v10 x11) (r15 : RdSl ρ (eI .i64) v13 x14) (_r18 : RdSl ρ (eI .i64) v16 x17) {r : (Int × Int)} (hF : F_product_two_rules N x2 x5 x8 x11 x14 x17 x19 x20 = some r) :
  Calls Tryz.prog 103 [.agg #[v1, v4, v7, v10, v13, v16], .agg #[.int .i64 x19, .int .i64 x20]].toArray w (Rets (fun v w' => (∃ (x39 : Int) (x40 : Int), (x39, x40) = r ∧ .tuple [.int .i64 x39, .int .i64 x40].toArray = v ∧ Hp C w' ρ (hs)))) := by
 unfold F_product_two_rules at hF
 have h0 : Tryz.f103.body = some _ := rfl
 refine fn_calls' Tryz.func103 h0 (n := 20) rfl (by simp) <| C_seq <| R_nd <| ne (E_box H (vs := [v1, v4, v7, v10, v13, v16]) rfl rfl) rfl rfl ?_
 rintro _ wd42 ⟨b41, rfl, H⟩
 refine ne (E_box H (vs := [.int .i64 x19, .int .i64 x20]) rfl rfl) rfl rfl ?_
 rintro _ wd44 ⟨b43, rfl, H⟩
 refine nq (Q_assign rfl) rfl rfl <| nq (Q_assign rfl) rfl rfl <| WL_nil <| x_then <| C_seq <| H.dr (.take 0 (.take 1 (.take 2 (.take 3 (.take 4 (.take 5 (.take 6 (.take 7 (.take 8 (.take 9 (.take 10 (.take 11 (.take 12 (.take 13 (.take 14 (.take 15 .done)))))))))))))))) none hm0 (by kernel_rfl) ?_
 replace H := H.drew
 refine dq (v := .pointer (some ⟨b41, 0, none⟩)) rfl (fun _ _ => Q_fld Tryz.underlying162 rfl ty78 (by decide) rfl rfl) rfl rfl <| dq (v := .pointer (some ⟨b41, 1, none⟩)) rfl (fun _ _ => Q_fld Tryz.underlying78 rfl ty23 (by decide) rfl rfl) rfl rfl <| dq (v := v4) rfl (fun _ hw => Q_ldB (k := 1) (cs := [v4]) hw rfl ty23 rfl rfl rfl (fun _ => rfl) rfl) rfl rfl <| dq (v := .pointer (some ⟨b43, 0, none⟩)) rfl (fun _ _ => Q_fld Tryz.underlying164 rfl ty3 (by decide) rfl rfl) rfl rfl <| dq (v := .int .i64 x19) rfl (fun _ hw => Q_ldB (k := 0) (cs := [.int .i64 x19]) hw rfl ty3 rfl rfl rfl (fun _ => rfl) rfl) rfl rfl ?_
 obtain ⟨x45, hx45, hF⟩ := bnd hF
 obtain ⟨b46, o47, c48, hc49, ha50, hi51⟩ := idxR r6 hx45
 refine dq rfl (fun _ _ => Q_idx hi51 Tryz.underlying23 ty3 rfl rfl) rfl rfl <| dq (v := .int .i64 x45) rfl (fun _ hw => Q_ld (show cellsAt _ _ _ [.int .i64 x45] from (show _ = [_] from hc49) ▸ (ha50.up hw.view)) ty3 rfl (fun _ => rfl) rfl rfl) rfl rfl <| dq (v := .pointer (some ⟨b41, 3, none⟩)) rfl (fun _ _ => Q_fld Tryz.underlying162 rfl ty78 (by decide) rfl rfl) rfl rfl <| dq (v := .pointer (some ⟨b41, 4, none⟩)) rfl (fun _ _ => Q_fld Tryz.underlying78 rfl ty23 (by decide) rfl rfl) rfl rfl <| dq (v := v13) rfl (fun _ hw => Q_ldB (k := 1) (cs := [v13]) hw rfl ty23 rfl rfl rfl (fun _ => rfl) rfl) rfl rfl <| dq (v := .pointer (some ⟨b43, 1, none⟩)) rfl (fun _ _ => Q_fld Tryz.underlying164 rfl ty3 (by decide) rfl rfl) rfl rfl <| dq (v := .int .i64 x20) rfl (fun _ hw => Q_ldB (k := 0) (cs := [.int .i64 x20]) hw rfl ty3 rfl rfl rfl (fun _ => rfl) rfl) rfl rfl ?_
 obtain ⟨x52, hx52, hF⟩ := bnd hF
 obtain ⟨b53, o54, c55, hc56, ha57, hi58⟩ := idxR r15 hx52
 refine dq rfl (fun _ _ => Q_idx hi58 Tryz.underlying23 ty3 rfl rfl) rfl rfl <| dq (v := .int .i64 x52) rfl (fun _ hw => Q_ld (show cellsAt _ _ _ [.int .i64 x52] from (show _ = [_] from hc56) ▸ (ha57.up hw.view)) ty3 rfl (fun _ => rfl) rfl rfl) rfl rfl <| dq rfl (fun _ _ => Q_assign rfl) rfl rfl <| dq rfl (fun _ _ => Q_assign rfl) rfl rfl <| DL_nil <| x_then <| C_ret ?_
 replace H := H.e1.e0
 obtain rfl := Option.some.inj hF
 exact fn_ret (l := [.tmp 4, .tmp 5]) (vs := [.int .i64 x45, .int .i64 x52]) rfl rfl rfl ⟨x45, x52, rfl, rfl, H⟩
theorem c_102 {N : Nat} {C : Cx} {w : World} {ρ : View} {hs : List Hl} {gV : Nat → Value} {x1 : Int} {x2 : Int} (H : Hp C w ρ (hs)) (_gle : GErrs ρ 394 errIds gV) {r : Unit} (hF : F_product_Differ_1 N x1 x2 = some r) :
  Calls Tryz.prog 102 [.int .i64 x1, .int .i64 x2].toArray w (Rets (fun v w' => (() = r ∧ .bool (x1 != x2) = v ∧ Hp C w' ρ (hs)))) := by
 unfold F_product_Differ_1 at hF
 have h0 : Tryz.f102.body = some _ := rfl
 refine fn_calls' Tryz.func102 h0 (n := 8) rfl (by simp) <| C_seq <| R_nd <| nq (Q_assign rfl) rfl rfl <| WL_nil <| x_then <| C_seq <| R_nd <| nq (Q_move rfl) rfl rfl <| nq (Q_move rfl) rfl rfl <| nq (Q_neq rfl rfl) rfl rfl <| nq (Q_assign rfl) rfl rfl <| WL_nil <| x_then ?_
 refine C_ret ?_
 obtain rfl := Option.some.inj hF
 exact fn_ret (l := [.tmp 4]) (vs := [.bool (x1 != x2)]) rfl rfl rfl ⟨rfl, rfl, H⟩
theorem c_116 {N : Nat} {C : Cx} {w : World} {ρ : View} {hs : List Hl} {gV : Nat → Value} {v1 : Value} {v4 : Value} {v7 : Value} {v10 : Value} {v13 : Value} {v16 : Value} {x2 : (List (List Int))} {x5 : (List Int)} {x8 : (List Int)} {x11 : (List (List Int))} {x14 : (List Int)} {x17 : (List Int)} {x19 : Int} {x20 : Int} {x21 : Int} (H : Hp C w ρ (hs)) (_gle : GErrs ρ 394 errIds gV) (r3 : RdSl ρ (eA 256 (eI .i64)) v1 x2) (_r6 : RdSl ρ (eI .i64) v4 x5) (_r9 : RdSl ρ (eI .i64) v7 x8) (r12 : RdSl ρ (eA 256 (eI .i64)) v10 x11) (_r15 : RdSl ρ (eI .i64) v13 x14) (_r18 : RdSl ρ (eI .i64) v16 x17) {r : (Int × Int)} (hF : F_product_two_next N x2 x5 x8 x11 x14 x17 x19 x20 x21 = some r) :
  Calls Tryz.prog 116 [.agg #[v1, v4, v7, v10, v13, v16], .agg #[.int .i64 x19, .int .i64 x20], .int .i64 x21].toArray w (Rets (fun v w' => (∃ (x82 : Int) (x83 : Int), (x82, x83) = r ∧ .agg #[.int .i64 x82, .int .i64 x83] = v ∧ Hp C w' ρ (hs)))) := by
 unfold F_product_two_next at hF
 have h0 : Tryz.f116.body = some _ := rfl
 refine fn_calls' Tryz.func116 h0 (n := 26) rfl (by simp) <| C_seq <| R_nd <| ne (E_box H (vs := [v1, v4, v7, v10, v13, v16]) rfl rfl) rfl rfl ?_
 rintro _ wd85 ⟨b84, rfl, H⟩
 refine ne (E_box H (vs := [.int .i64 x19, .int .i64 x20]) rfl rfl) rfl rfl ?_
 rintro _ wd87 ⟨b86, rfl, H⟩
 refine ne (E_alloc H ty164 (zs := [.int .i64 0, .int .i64 0]) rfl) rfl rfl ?_
 rintro _ wd89 ⟨b88, rfl, H⟩
 refine WL_nil <| x_then ?_
 obtain ⟨o117, ho117, hF⟩ := bnd hF
 refine C_cut (fun a w' => ∃ (x115 : Int) (x116 : Int), (x115, x116) = o117 ∧ Fr 26 a [(6, .pointer (some ⟨b88, 0, none⟩))] ∧ Hp C w' ρ (Box b88 [.int .i64 x115, .int .i64 x116] :: hs)) ?_ ?_
 ·refine H.dr (.take 0 (.take 1 (.take 2 (.take 3 (.take 4 (.take 5 (.take 6 (.take 7 (.take 8 (.take 9 (.take 10 (.take 11 (.take 12 (.take 13 (.take 14 (.take 15 (.take 16 (.take 17 (.take 18 (.bar 19 none .done)))))))))))))))))))) (some 19) hm0 (by kernel_rfl) ?_
  replace H := H.drew
  refine dq (v := .pointer (some ⟨b84, 0, none⟩)) rfl (fun _ _ => Q_fld Tryz.underlying162 rfl ty78 (by decide) rfl rfl) rfl rfl <| dq (v := .pointer (some ⟨b84, 0, none⟩)) rfl (fun _ _ => Q_fld Tryz.underlying78 rfl ty76 (by decide) rfl rfl) rfl rfl <| dq (v := v1) rfl (fun _ hw => Q_ldB (k := 2) (cs := [v1]) hw rfl ty76 rfl rfl rfl (fun _ => rfl) rfl) rfl rfl <| dq (v := .pointer (some ⟨b86, 0, none⟩)) rfl (fun _ _ => Q_fld Tryz.underlying164 rfl ty3 (by decide) rfl rfl) rfl rfl <| dq (v := .int .i64 x19) rfl (fun _ hw => Q_ldB (k := 1) (cs := [.int .i64 x19]) hw rfl ty3 rfl rfl rfl (fun _ => rfl) rfl) rfl rfl <| dq rfl (fun _ _ => Q_move rfl) rfl rfl ?_
  obtain ⟨x118, hx118, ho117⟩ := bnd ho117
  obtain ⟨b119, o120, c121, hc122, ha123, hi124⟩ := idxR r3 hx118
  refine dq rfl (fun _ _ => Q_idx hi124 Tryz.underlying76 ty88 rfl rfl) rfl rfl ?_
  obtain ⟨x125, hx125, ho117⟩ := bnd ho117
  have hn126 := idx_lt hc122.1 hx125
  refine dq rfl (fun _ _ => Q_idxA hn126.1 hn126.2 Tryz.underlying88 ty3 rfl rfl) rfl rfl ?_
  obtain ⟨c127, hc128, ha129, _⟩ := arrR hc122 ha123 hx125
  refine dq (v := .int .i64 x125) rfl (fun _ hw => Q_ld (show cellsAt _ _ _ [.int .i64 x125] from (show _ = [_] from hc128) ▸ (ha129.up hw.view)) ty3 rfl (fun _ => rfl) rfl rfl) rfl rfl <| dq (v := .pointer (some ⟨b84, 3, none⟩)) rfl (fun _ _ => Q_fld Tryz.underlying162 rfl ty78 (by decide) rfl rfl) rfl rfl <| dq (v := .pointer (some ⟨b84, 3, none⟩)) rfl (fun _ _ => Q_fld Tryz.underlying78 rfl ty76 (by decide) rfl rfl) rfl rfl <| dq (v := v10) rfl (fun _ hw => Q_ldB (k := 2) (cs := [v10]) hw rfl ty76 rfl rfl rfl (fun _ => rfl) rfl) rfl rfl <| dq (v := .pointer (some ⟨b86, 1, none⟩)) rfl (fun _ _ => Q_fld Tryz.underlying164 rfl ty3 (by decide) rfl rfl) rfl rfl <| dq (v := .int .i64 x20) rfl (fun _ hw => Q_ldB (k := 1) (cs := [.int .i64 x20]) hw rfl ty3 rfl rfl rfl (fun _ => rfl) rfl) rfl rfl <| dq rfl (fun _ _ => Q_move rfl) rfl rfl ?_
  obtain ⟨x130, hx130, ho117⟩ := bnd ho117
  obtain ⟨b131, o132, c133, hc134, ha135, hi136⟩ := idxR r12 hx130
  refine dq rfl (fun _ _ => Q_idx hi136 Tryz.underlying76 ty88 rfl rfl) rfl rfl ?_
  obtain ⟨x137, hx137, ho117⟩ := bnd ho117
  have hn138 := idx_lt hc134.1 hx137
  refine dq rfl (fun _ _ => Q_idxA hn138.1 hn138.2 Tryz.underlying88 ty3 rfl rfl) rfl rfl ?_
  obtain ⟨c139, hc140, ha141, _⟩ := arrR hc134 ha135 hx137
  refine dq (v := .int .i64 x137) rfl (fun _ hw => Q_ld (show cellsAt _ _ _ [.int .i64 x137] from (show _ = [_] from hc140) ▸ (ha141.up hw.view)) ty3 rfl (fun _ => rfl) rfl rfl) rfl rfl <| dq (v := .agg #[.int .i64 x125, .int .i64 x137]) rfl (fun _ _ => Q_buildS st164.choose_spec (ps := [(0, [.int .i64 x125]), (1, [.int .i64 x137])]) rfl ⟨rfl, rfl, by simp, ⟨rfl, rfl, by simp, trivial⟩⟩ rfl) rfl rfl <| db rfl (E_stB (k := 0) (cs := [.int .i64 x125, .int .i64 x137]) (vs' := [.int .i64 x125, .int .i64 x137]) H rfl ty164 rfl rfl rfl rfl (one_cons rfl (one_cons rfl one_nil)) (by simp) rfl) rfl rfl ?_
  rintro _ wd142 H
  dsimp only [List.set] at H
  refine H.okF <| DL_nil ?_
  replace H := H.e2.e1
  obtain rfl := Option.some.inj ho117
  refine x_A fun a hf => ⟨x125, x137, rfl, hf.sub ⟨rfl, trivial⟩, H⟩
 ·rintro a wd143 ⟨x115, x116, rfl, hf, H⟩
  try dsimp only at hF
  refine CW.at hf <| C_ret ?_
  have hRV : RV Tryz.prog wd143 [(6, .pointer (some ⟨b88, 0, none⟩))] [.cell 6 164] [.agg #[.int .i64 x115, .int .i64 x116]] := ⟨⟨_, rfl, run_ldv ty164 rfl (fun h => nomatch h) (box_at (H.ok.get (k := 0) rfl) 0 2)⟩, trivial⟩
  replace H := H.e0
  obtain rfl := Option.some.inj hF
  exact fn_retV (rs := [.cell 6 164]) (vs := [.agg #[.int .i64 x115, .int .i64 x116]]) rfl hRV ⟨x115, x116, rfl, rfl, H⟩
theorem c_139 {N : Nat} {C : Cx} {w : World} {ρ : View} {hs : List Hl} {v : Value} {x : (List Int)} (H : Hp C w ρ (hs)) (r3 : RdSl ρ (eI .u8) v x) {r : (List Int)} (hF : F_clone_139 N x = some r) :
  Calls Tryz.prog 139 [v].toArray w (Rets (fun v w' => (∃ (v1 : Value) (c1 : List Value) (x1 : (List Int)), x1 = r ∧ v1 = v ∧ rdL (eI .u8) ρ x1 c1 ∧ Hp C w' ρ (Arr v1 1 c1 :: hs)))) := by
 unfold F_clone_139 at hF
 refine fn_calls' (args := [v]) Tryz.func139 rfl (n := 8) rfl (by simp) ?_
 refine C_seq ?_
 refine R_nd ?_
 refine nq (v := .slice none 0 0) (Q_assign rfl) rfl rfl ?_
 refine WL_nil ?_
 refine x_then ?_
 refine C_seq ?_
 refine C_seq ?_
 refine R_nd ?_
 refine nq (v := v) (Q_move rfl) rfl rfl ?_
 obtain ⟨o, c, news, rfl, hn, hs3⟩ : ∃ o c news, v = .slice o x.length c ∧ rdL (eI .u8) ρ x news ∧ (o = none → x = []) ∧ ∀ h', View.le ρ h' → Eng.Src h' v 1 news := by
  rcases r3 with ⟨ad, cap, rfl, rfl⟩ | ⟨b, o, cap, cs, rfl, _, h2, h3⟩
  ·exact ⟨ad, cap, [], rfl, rdL.nil, fun _ => rfl, fun _ _ => .inl ⟨ad, cap, rfl, rfl⟩⟩
  ·exact ⟨_, cap, cs, rfl, h2, fun h => (nomatch h), fun _ hl => .inr ⟨b, o, _, cap, rfl, h2.len, h3.up hl⟩⟩
 obtain ⟨hs3, hs4⟩ := hs3
 cases o with
 | none =>
  obtain rfl := hs3 rfl
  refine nq (v := .bool true) (Q_eqlS (o := none) Tryz.underlying42 rfl) rfl rfl ?_
  refine WL_nil ?_
  refine x_then ?_
  refine C_cond rfl (fun _ => ?_) (fun h => nomatch h)
  refine C_seq ?_
  refine R_nd ?_
  refine nq (v := .slice none 0 0) (Q_assign rfl) rfl rfl ?_
  refine WL_nil ?_
  refine x_then ?_
  refine C_ret ?_
  refine x_then_ret ?_
  obtain ⟨_, rfl⟩ := app_some hF
  exact fn_ret (l := [.tmp 2]) (vs := [.slice none 0 0]) rfl rfl rfl ⟨_, [], _, rfl, rfl, rdL.nil, H.nilArr 1⟩
 | some a =>
  refine nq (v := .bool false) (Q_eqlS (o := some a) Tryz.underlying42 rfl) rfl rfl ?_
  refine WL_nil ?_
  refine x_then ?_
  refine C_cond rfl (fun h => nomatch h) (fun _ => ?_)
  refine C_skip ?_
  refine x_then ?_
  obtain ⟨ha, rfl⟩ := app_some hF
  refine C_seq ?_
  refine R_nd ?_
  refine ne (E_bslice0 H Tryz.underlying42 ty5) rfl rfl ?_
  rintro _ w1 ⟨b1, rfl, H1⟩
  refine nq (Q_move rfl) rfl rfl ?_
  have hs5 := hs4 _ H1.view
  refine ne (E_append (k := 0) (cs := []) (news := news) H1 rfl Tryz.underlying42 ty5 rfl (by decide) (by decide) rfl rfl hs5 (rdL.one hn) (app_fit rdL.nil hn ha)) rfl rfl ?_
  rintro v2 w2 ⟨H2, _⟩
  refine nq (v := v2) (Q_assign rfl) rfl rfl ?_
  refine WL_nil ?_
  refine x_then ?_
  refine C_ret ?_
  exact fn_ret (l := [.tmp 2]) (vs := [v2]) rfl rfl rfl ⟨v2, _, _, rfl, rfl, rdL.app rdL.nil hn, H2⟩
theorem c_101 {N : Nat} {C : Cx} {w : World} {ρ : View} {hs : List Hl} {gV : Nat → Value} {v1 : Value} {v4 : Value} {v7 : Value} {v10 : Value} {v13 : Value} {v16 : Value} {x2 : (List (List Int))} {x5 : (List Int)} {x8 : (List Int)} {x11 : (List (List Int))} {x14 : (List Int)} {x17 : (List Int)} {x19 : Int} (H : Hp C w ρ (hs)) (gle : GErrs ρ 394 errIds gV) (r3 : RdSl ρ (eA 256 (eI .i64)) v1 x2) (r6 : RdSl ρ (eI .i64) v4 x5) (r9 : RdSl ρ (eI .i64) v7 x8) (r12 : RdSl ρ (eA 256 (eI .i64)) v10 x11) (r15 : RdSl ρ (eI .i64) v13 x14) (r18 : RdSl ρ (eI .i64) v16 x17) {r : ((Int × Int × (List Int)) ⊕ Unit)} (hF : F_product_two_find N x2 x5 x8 x11 x14 x17 x19 = some r) :
  Calls Tryz.prog 101 [.agg #[v1, v4, v7, v10, v13, v16], .int .i64 x19, .func (.func 102) #[] [].toArray].toArray w (Rets (fun v w' => (∃ (ρ' : View) (v19507 : Value) (x19505 : Int) (x19506 : Int) (x19508 : (List Int)), .inl (x19505, x19506, x19508) = r ∧ .tuple [.agg #[.int .i64 x19505, .int .i64 x19506, v19507], .bool true].toArray = v ∧ View.le ρ ρ' ∧ RdSl ρ' (eI .u8) v19507 x19508 ∧ Hp C w' ρ' (hs)) ∨ (∃ (ρ' : View), .inr () = r ∧ .tuple [.agg #[.int .i64 0, .int .i64 0, (.slice none 0 0)], .bool false].toArray = v ∧ View.le ρ ρ' ∧ Hp C w' ρ' (Arr (.slice none 0 0) 1 ([]) :: hs)))) := by
 unfold F_product_two_find at hF
 have h0 : Tryz.f101.body = some _ := rfl
 refine fn_calls' Tryz.func101 h0 (n := 73) rfl (by simp) <| C_seq <| R_nd <| ne (E_box H (vs := [v1, v4, v7, v10, v13, v16]) rfl rfl) rfl rfl ?_
 rintro _ wd19511 ⟨b19510, rfl, H⟩
 refine ne (E_alloc H ty166 (zs := [.int .i64 0, .int .i64 0, .slice none 0 0]) rfl) rfl rfl ?_
 rintro _ wd19513 ⟨b19512, rfl, H⟩
 refine nq (Q_assign rfl) rfl rfl <| WL_nil <| x_then <| C_seq <| R_nd <| nq (v := .agg #[v1, v4, v7, v10, v13, v16]) (Q_ldB (k := 1) (cs := [v1, v4, v7, v10, v13, v16]) H.ok rfl ty162 rfl rfl rfl (fun h => nomatch h) rfl) rfl rfl <| nq (Q_move rfl) rfl rfl ?_
 obtain ⟨q19514, hq19514, hF⟩ := bnd hF
 refine ne (E_call fn115 rfl (c_115 H gle  r3 r6 r9 r12 r15 r18 hq19514)) rfl rfl ?_
 rintro _ wd19518 ⟨x19516, x19517, rfl, rfl, H⟩
 try dsimp only at hF
 refine nq (v := .agg #[.int .i64 x19516, .int .i64 x19517, .slice none 0 0]) (Q_buildS st166.choose_spec (ps := [(0, [.int .i64 x19516, .int .i64 x19517])]) rfl ⟨rfl, rfl, by simp, trivial⟩ rfl) rfl rfl <| ne (E_alloc H ty166 (zs := [.int .i64 0, .int .i64 0, .slice none 0 0]) rfl) rfl rfl ?_
 rintro _ wd19520 ⟨b19519, rfl, H⟩
 refine ne (E_stB (k := 0) (cs := [.int .i64 x19516, .int .i64 x19517, .slice none 0 0]) (vs' := [.int .i64 x19516, .int .i64 x19517, .slice none 0 0]) H rfl ty166 rfl rfl rfl rfl (one_cons rfl (one_cons rfl (one_cons rfl one_nil))) (by simp) rfl) rfl rfl ?_
 rintro _ wd19521 H
 dsimp only [List.set] at H
 refine WL_nil <| x_then <| C_seq <| R_nd <| ne (E_makeMap (kP2 .i64) (Value.int .i64) H) rfl rfl ?_
 rintro _ wd19523 ⟨b19522, rfl, H⟩
 refine nq (v := .pointer (some ⟨b19519, 0, none⟩)) (Q_fld Tryz.underlying166 rfl ty164 (by decide) rfl rfl) rfl rfl <| nq (v := .agg #[.int .i64 x19516, .int .i64 x19517]) (Q_ldB (k := 1) (cs := [.int .i64 x19516, .int .i64 x19517]) H.ok rfl ty164 rfl rfl rfl (fun h => nomatch h) rfl) rfl rfl <| ne (E_minsert (b := 1) (k := 0) H rfl Tryz.underlying184 (kOk_P2 (k := .i64) kp164 (by kernel_rfl) ty3 Tryz.underlying3) trivial rfl (kP_ev rfl) rfl) rfl rfl ?_
 rintro _ wd19524 H
 dsimp only [List.set] at H
 refine nq (Q_move rfl) rfl rfl <| nq (Q_assign rfl) rfl rfl <| WL_nil <| x_then <| C_seq <| C_seq <| R_nd <| nq (v := .agg #[.int .i64 x19516, .int .i64 x19517, .slice none 0 0]) (Q_ldB (k := 1) (cs := [.int .i64 x19516, .int .i64 x19517, .slice none 0 0]) H.ok rfl ty166 rfl rfl rfl (fun h => nomatch h) rfl) rfl rfl <| ne (E_bslice (xs := [.tmp 22]) (vs := [.agg #[.int .i64 x19516, .int .i64 x19517, .slice none 0 0]]) H Tryz.underlying223 ty166 (by decide) (cs := [.int .i64 x19516, .int .i64 x19517, .slice none 0 0]) rfl (sz_cons rfl sz_nil) rfl (by simp) (by simp) rfl rfl) rfl rfl ?_
 rintro _ wd19526 ⟨b19525, rfl, H⟩
 refine nq (Q_assign rfl) rfl rfl <| WL_nil <| x_then ?_
 obtain ⟨o29258, ho29258, hF⟩ := bnd hF
 refine C_cutQ (fun a w' => ∃ (ρ' : View), View.le ρ ρ' ∧ .inl () = o29258 ∧ Fr 73 a [(6, .pointer (some ⟨b19512, 0, none⟩))] ∧ Hp C w' ρ' (Box b19512 [.int .i64 0, .int .i64 0, .slice none 0 0] :: hs)) ?_ ?_
 ·refine C_block ?_
  replace H := H.e2.f2.f3.f2
  refine C_iter (f := fun s => F_product_two_find_l0 N x2 x5 x8 x11 x14 x17 s.1 s.2) ho29258 (fun s a w' => ∃ (ρ' : View) (v32501 : Value) (c32502 : (List Value)) (x32503 : (List ((Int × Int) × (List Int)))) (x32505 : (List ((Int × Int) × Int))), View.le ρ ρ' ∧ (x32503, x32505) = s ∧ rdL (eP (eP (eI .i64) (eI .i64)) (eL (eI .u8))) ρ' x32503 c32502 ∧ Fr 73 a [(2, .func (.func 102) #[] [].toArray), (3, .pointer (some ⟨b19510, 0, none⟩)), (6, .pointer (some ⟨b19512, 0, none⟩)), (9, .map (some b19522)), (10, v32501)] ∧ Hp C w' ρ' (Arr v32501 3 c32502 :: Box b19510 [v1, v4, v7, v10, v13, v16] :: Box b19512 [.int .i64 0, .int .i64 0, .slice none 0 0] :: Mp (kP2 .i64) (Value.int .i64) b19522 x32505 :: hs)) ?_ ?_
  ·exact fun a hf => ⟨ρ, (.slice (some ⟨b19525, 0, none⟩) 1 1), [.int .i64 x19516, .int .i64 x19517, .slice none 0 0], [((x19516, x19517), [])], (mset ([] : List ((Int × Int) × Int)) (x19516, x19517) 1), (View.le_refl _), rfl, (show rdL (eP (eP (eI .i64) (eI .i64)) (eL (eI .u8))) ρ ([((x19516, x19517), [])]) ([.int .i64 x19516, .int .i64 x19517, .slice none 0 0]) from ⟨([.int .i64 x19516, .int .i64 x19517, .slice none 0 0]), _, rfl, ⟨[.int .i64 x19516, .int .i64 x19517], _, rfl, ⟨[.int .i64 x19516], _, rfl, rfl, rfl⟩, ⟨_, rfl, RdSl.nil⟩⟩, rdL.nil⟩), hf.sub ⟨rfl, rfl, rfl, rfl, rfl, trivial⟩, H⟩
  ·rintro s o35748 a wd35751 ⟨ρ, v32501, c32502, x32503, x32505, lw35752, rfl, r32504, hf, H⟩ hB35749 hO35750
   replace hB35749 : F_product_two_find_l0 N x2 x5 x8 x11 x14 x17 x32503 x32505 = some o35748 := hB35749
   unfold F_product_two_find_l0 at hB35749
   refine CW.at hf ?_
   replace r3 := RdSl.up lw35752 r3
   replace r6 := RdSl.up lw35752 r6
   replace r9 := RdSl.up lw35752 r9
   replace r12 := RdSl.up lw35752 r12
   replace r15 := RdSl.up lw35752 r15
   replace r18 := RdSl.up lw35752 r18
   replace gle := GErrs.up lw35752 gle
   refine C_seq <| C_seq <| R_nd <| nq (Q_move rfl) rfl rfl <| nq (Q_lenA (k := 0) H.ok rfl r32504 (by decide) Tryz.underlying223 rfl) rfl rfl <| nq (Q_gtr rfl rfl) rfl rfl <| WL_nil <| x_then ?_
   refine C_cond rfl (fun hb => ?_) (fun hb => ?_)
   ·replace hB35749 := itT hb hB35749
    refine C_skip <| x_then <| C_seq <| C_block <| C_seq <| R_nd <| nq (Q_move rfl) rfl rfl ?_
    obtain ⟨x35753, hx35753, hB35749⟩ := bnd hB35749
    obtain ⟨b35754, o35755, hi35759, hc35757, ha35758⟩ := arr_at (hs := [Arr v32501 3 c32502]) (k := 0) (by decide) (H.okS (by simp)) rfl r32504 hx35753
    refine nq (Q_idx hi35759 Tryz.underlying223 ty166 rfl rfl) rfl rfl ?_
    obtain ⟨c35760, c35761, he35762, hc35763, hc35764⟩ := (id hc35757)
    obtain ⟨c35765, c35766, he35767, hc35768, hc35769⟩ := hc35763
    obtain ⟨v35770, he35771, r35772⟩ := hc35764
    refine nq (v := .agg #[.int .i64 x35753.1.1, .int .i64 x35753.1.2, v35770]) (Q_ld (show cellsAt _ _ _ [.int .i64 x35753.1.1, .int .i64 x35753.1.2, v35770] from cellsAt.cg (cat2 he35762 (cat2 he35767 (rdI hc35768) (rdI hc35769)) he35771) (ha35758 _ (Ok.subS (by simp) H.ok))) ty166 rfl (fun h => nomatch h) rfl rfl) rfl rfl <| ne (E_alloc H ty166 (zs := [.int .i64 0, .int .i64 0, .slice none 0 0]) rfl) rfl rfl ?_
    rintro _ wd35774 ⟨b35773, rfl, H⟩
    refine ne (E_stB (k := 0) (cs := [.int .i64 x35753.1.1, .int .i64 x35753.1.2, v35770]) (vs' := [.int .i64 x35753.1.1, .int .i64 x35753.1.2, v35770]) H rfl ty166 rfl rfl rfl rfl (one_cons rfl (one_cons rfl (one_cons (RdSl.one r35772) one_nil))) (by simp) rfl) rfl rfl ?_
    rintro _ wd35775 H
    dsimp only [List.set] at H
    refine WL_nil <| x_then <| C_seq <| C_seq <| R_nd <| nq (Q_move rfl) rfl rfl <| nq (v := .agg #[v1, v4, v7, v10, v13, v16]) (Q_ldB (k := 2) (cs := [v1, v4, v7, v10, v13, v16]) H.ok rfl ty162 rfl rfl rfl (fun h => nomatch h) rfl) rfl rfl <| nq (v := .pointer (some ⟨b35773, 0, none⟩)) (Q_fld Tryz.underlying166 rfl ty164 (by decide) rfl rfl) rfl rfl <| nq (v := .agg #[.int .i64 x35753.1.1, .int .i64 x35753.1.2]) (Q_ldB (k := 0) (cs := [.int .i64 x35753.1.1, .int .i64 x35753.1.2]) H.ok rfl ty164 rfl rfl rfl (fun h => nomatch h) rfl) rfl rfl ?_
    obtain ⟨q35776, hq35776, hB35749⟩ := bnd hB35749
    refine ne (E_call fn103 rfl (c_103 H gle  r3 r6 r9 r12 r15 r18 hq35776)) rfl rfl ?_
    rintro _ wd35780 ⟨x35778, x35779, rfl, rfl, H⟩
    try dsimp only at hB35749
    refine nq (Q_extract rfl rfl) rfl rfl <| nq (Q_extract rfl rfl) rfl rfl ?_
    obtain ⟨q35781, hq35781, hB35749⟩ := bnd hB35749
    refine ne (E_callV fn102 rfl rfl (c_102 H gle   hq35781)) rfl rfl ?_
    rintro _ wd35783 ⟨rfl, rfl, H⟩
    try dsimp only at hB35749
    refine WL_nil <| x_then ?_
    refine C_cond rfl (fun hb => ?_) (fun hb => ?_)
    ·replace hB35749 := itT hb hB35749
     refine C_seq <| R_nd <| nq (v := .agg #[.int .i64 x35753.1.1, .int .i64 x35753.1.2, v35770]) (Q_ldB (k := 0) (cs := [.int .i64 x35753.1.1, .int .i64 x35753.1.2, v35770]) H.ok rfl ty166 rfl rfl rfl (fun h => nomatch h) rfl) rfl rfl <| ne (E_stB (k := 3) (cs := [.int .i64 x35753.1.1, .int .i64 x35753.1.2, v35770]) (vs' := [.int .i64 x35753.1.1, .int .i64 x35753.1.2, v35770]) H rfl ty166 rfl rfl rfl rfl (one_cons rfl (one_cons rfl (one_cons (RdSl.one r35772) one_nil))) (by simp) rfl) rfl rfl ?_
     rintro _ wd35784 H
     dsimp only [List.set] at H
     refine nq (Q_assign rfl) rfl rfl <| WL_nil <| x_then <| C_ret <| x_then_ret <| x_block_ret <| x_then_ret <| x_then_ret <| x_block_ret <| x_then_ret <| x_then_ret ?_
     have hRV : RV Tryz.prog wd35784 [(6, .pointer (some ⟨b19512, 0, none⟩)), (7, .bool true)] [.cell 6 166, .tmp 7] [.agg #[.int .i64 x35753.1.1, .int .i64 x35753.1.2, v35770], .bool true] := ⟨⟨_, rfl, run_ldv ty166 rfl (fun h => nomatch h) (box_at (H.ok.get (k := 3) rfl) 0 3)⟩, rfl, trivial⟩
     replace H := H.e4.e3.e2.e1.e0
     obtain rfl := Option.some.inj hB35749
     obtain rfl := hO35750 _ rfl
     obtain rfl := Option.some.inj (show some _ = some _ from hF)
     exact fn_retV (rs := [.cell 6 166, .tmp 7]) (vs := [.agg #[.int .i64 x35753.1.1, .int .i64 x35753.1.2, v35770], .bool true]) rfl hRV (.inl ⟨ρ, v35770, x35753.1.1, x35753.1.2, x35753.2, rfl, rfl, lw35752, r35772, H⟩)
    ·replace hB35749 := itF hb hB35749
     refine C_skip <| x_then <| C_seq <| R_nd <| nq (Q_move rfl) rfl rfl <| WL_nil <| x_then ?_
     obtain ⟨o37385, ho37385, hB35749⟩ := bnd hB35749
     refine C_cutQ (fun a w' => ∃ (ρ' : View) (v37380 : Value) (c37381 : (List Value)) (x37382 : (List ((Int × Int) × (List Int)))) (x37384 : (List ((Int × Int) × Int))), View.le ρ ρ' ∧ (x37382, x37384) = o37385 ∧ rdL (eP (eP (eI .i64) (eI .i64)) (eL (eI .u8))) ρ' x37382 c37381 ∧ Fr 73 a [(2, .func (.func 102) #[] [].toArray), (3, .pointer (some ⟨b19510, 0, none⟩)), (6, .pointer (some ⟨b19512, 0, none⟩)), (9, .map (some b19522)), (10, v37380)] ∧ Hp C w' ρ' (Arr v37380 3 c37381 :: Box b19510 [v1, v4, v7, v10, v13, v16] :: Box b19512 [.int .i64 0, .int .i64 0, .slice none 0 0] :: Mp (kP2 .i64) (Value.int .i64) b19522 x37384 :: hs)) ?_ ?_
     ·refine C_block ?_
      replace H := H.f1
      refine C_iter (f := fun s => F_product_two_find_l1 N x2 x5 x8 x11 x14 x17 x35753 s.1 s.2.1 s.2.2) ho37385 (fun s a w' => ∃ (ρ' : View) (v37916 : Value) (c37917 : (List Value)) (x37918 : (List ((Int × Int) × (List Int)))) (x37920 : Int) (x37921 : (List ((Int × Int) × Int))), View.le ρ ρ' ∧ (x37918, x37920, x37921) = s ∧ rdL (eP (eP (eI .i64) (eI .i64)) (eL (eI .u8))) ρ' x37918 c37917 ∧ Fr 73 a [(2, .func (.func 102) #[] [].toArray), (3, .pointer (some ⟨b19510, 0, none⟩)), (6, .pointer (some ⟨b19512, 0, none⟩)), (9, .map (some b19522)), (10, v37916), (11, .pointer (some ⟨b35773, 0, none⟩)), (41, .int .i64 x37920)] ∧ Hp C w' ρ' (Arr v37916 3 c37917 :: Box b35773 [.int .i64 x35753.1.1, .int .i64 x35753.1.2, v35770] :: Box b19510 [v1, v4, v7, v10, v13, v16] :: Box b19512 [.int .i64 0, .int .i64 0, .slice none 0 0] :: Mp (kP2 .i64) (Value.int .i64) b19522 x37921 :: hs)) ?_ ?_
      ·exact fun a hf => ⟨ρ, v32501, c32502, x32503, 0, x32505, (View.le_refl _), rfl, r32504, hf.sub ⟨rfl, rfl, rfl, rfl, rfl, rfl, rfl, trivial⟩, H⟩
      ·rintro s o38452 a wd38455 ⟨ρ, v37916, c37917, x37918, x37920, x37921, lw38456, rfl, r37919, hf, H⟩ hB38453 hO38454
       replace hB38453 : F_product_two_find_l1 N x2 x5 x8 x11 x14 x17 x35753 x37918 x37920 x37921 = some o38452 := hB38453
       unfold F_product_two_find_l1 at hB38453
       refine CW.at hf ?_
       replace r35772 := RdSl.up lw38456 r35772
       replace r3 := RdSl.up lw38456 r3
       replace r6 := RdSl.up lw38456 r6
       replace r9 := RdSl.up lw38456 r9
       replace r12 := RdSl.up lw38456 r12
       replace r15 := RdSl.up lw38456 r15
       replace r18 := RdSl.up lw38456 r18
       replace gle := GErrs.up lw38456 gle
       refine C_seq <| R_nd <| nq (Q_lss rfl rfl) rfl rfl <| WL_nil <| x_then <| C_seq ?_
       refine C_cond rfl (fun hb => ?_) (fun hb => ?_)
       ·replace hB38453 := itT hb hB38453
        refine C_skip <| x_then ?_
        obtain ⟨o38720, ho38720, hB38453⟩ := bnd hB38453
        refine C_cut (fun a w' => ∃ (ρ' : View) (v38715 : Value) (c38716 : (List Value)) (x38717 : (List ((Int × Int) × (List Int)))) (x38719 : (List ((Int × Int) × Int))), View.le ρ ρ' ∧ (x38717, x38719) = o38720 ∧ rdL (eP (eP (eI .i64) (eI .i64)) (eL (eI .u8))) ρ' x38717 c38716 ∧ Fr 73 a [(2, .func (.func 102) #[] [].toArray), (3, .pointer (some ⟨b19510, 0, none⟩)), (6, .pointer (some ⟨b19512, 0, none⟩)), (9, .map (some b19522)), (10, v38715), (11, .pointer (some ⟨b35773, 0, none⟩)), (41, .int .i64 x37920)] ∧ Hp C w' ρ' (Arr v38715 3 c38716 :: Box b35773 [.int .i64 x35753.1.1, .int .i64 x35753.1.2, v35770] :: Box b19510 [v1, v4, v7, v10, v13, v16] :: Box b19512 [.int .i64 0, .int .i64 0, .slice none 0 0] :: Mp (kP2 .i64) (Value.int .i64) b19522 x38719 :: hs)) ?_ ?_
        ·refine C_block <| C_seq <| R_nd <| nq (Q_move rfl) rfl rfl <| nq (Q_assign rfl) rfl rfl <| WL_nil <| x_then <| C_seq <| R_nd <| nq (v := .agg #[v1, v4, v7, v10, v13, v16]) (Q_ldB (k := 2) (cs := [v1, v4, v7, v10, v13, v16]) H.ok rfl ty162 rfl rfl rfl (fun h => nomatch h) rfl) rfl rfl <| nq (v := .pointer (some ⟨b35773, 0, none⟩)) (Q_fld Tryz.underlying166 rfl ty164 (by decide) rfl rfl) rfl rfl <| nq (v := .agg #[.int .i64 x35753.1.1, .int .i64 x35753.1.2]) (Q_ldB (k := 1) (cs := [.int .i64 x35753.1.1, .int .i64 x35753.1.2]) H.ok rfl ty164 rfl rfl rfl (fun h => nomatch h) rfl) rfl rfl <| nq (Q_move rfl) rfl rfl ?_
         obtain ⟨q38721, hq38721, ho38720⟩ := bnd ho38720
         refine ne (E_call fn116 rfl (c_116 H gle  r3 r6 r9 r12 r15 r18 hq38721)) rfl rfl ?_
         rintro _ wd38725 ⟨x38723, x38724, rfl, rfl, H⟩
         try dsimp only at ho38720
         refine ne (E_alloc H ty164 (zs := [.int .i64 0, .int .i64 0]) rfl) rfl rfl ?_
         rintro _ wd38727 ⟨b38726, rfl, H⟩
         refine ne (E_stB (k := 0) (cs := [.int .i64 x38723, .int .i64 x38724]) (vs' := [.int .i64 x38723, .int .i64 x38724]) H rfl ty164 rfl rfl rfl rfl (one_cons rfl (one_cons rfl one_nil)) (by simp) rfl) rfl rfl ?_
         rintro _ wd38728 H
         dsimp only [List.set] at H
         refine WL_nil <| x_then <| C_seq <| R_nd <| nq (Q_move rfl) rfl rfl <| nq (v := .agg #[.int .i64 x38723, .int .i64 x38724]) (Q_ldB (k := 0) (cs := [.int .i64 x38723, .int .i64 x38724]) H.ok rfl ty164 rfl rfl rfl (fun h => nomatch h) rfl) rfl rfl <| nq (v := .int .i64 ((mget x37921 (x38723, x38724)).getD 0)) (Q_look1 (zp := 0) (k := 5) H.ok rfl Tryz.underlying184 (kOk_P2 (k := .i64) kp164 (by kernel_rfl) ty3 Tryz.underlying3) trivial ty3 rfl rfl (kP_ev rfl)) rfl rfl <| nq (Q_eql rfl rfl) rfl rfl <| WL_nil <| x_then ?_
         obtain ⟨o38855, ho38855, ho38720⟩ := bnd ho38720
         refine C_cutQ (fun a w' => ∃ (ρ' : View) (v38850 : Value) (c38851 : (List Value)) (x38852 : (List ((Int × Int) × (List Int)))) (x38854 : (List ((Int × Int) × Int))), View.le ρ ρ' ∧ (x38852, x38854) = o38855 ∧ rdL (eP (eP (eI .i64) (eI .i64)) (eL (eI .u8))) ρ' x38852 c38851 ∧ Fr 73 a [(2, .func (.func 102) #[] [].toArray), (3, .pointer (some ⟨b19510, 0, none⟩)), (6, .pointer (some ⟨b19512, 0, none⟩)), (9, .map (some b19522)), (10, v38850), (11, .pointer (some ⟨b35773, 0, none⟩)), (41, .int .i64 x37920)] ∧ Hp C w' ρ' (Arr v38850 3 c38851 :: Box b35773 [.int .i64 x35753.1.1, .int .i64 x35753.1.2, v35770] :: Box b19510 [v1, v4, v7, v10, v13, v16] :: Box b19512 [.int .i64 0, .int .i64 0, .slice none 0 0] :: Mp (kP2 .i64) (Value.int .i64) b19522 x38854 :: hs)) ?_ ?_
         ·refine C_cond rfl (fun hb => ?_) (fun hb => ?_)
          ·replace ho38855 := itT hb ho38855
           obtain ⟨o38862, ho38862, ho38855⟩ := bnd ho38855
           refine C_cut (fun a w' => Fr 73 a [(2, .func (.func 102) #[] [].toArray), (3, .pointer (some ⟨b19510, 0, none⟩)), (6, .pointer (some ⟨b19512, 0, none⟩)), (9, .map (some b19522)), (10, v37916), (11, .pointer (some ⟨b35773, 0, none⟩)), (12, .int .i64 x37920), (13, .pointer (some ⟨b38726, 0, none⟩)), (41, .int .i64 x37920)] ∧ Hp C w' ρ (Arr v37916 3 c37917 :: Box b35773 [.int .i64 x35753.1.1, .int .i64 x35753.1.2, v35770] :: Box b38726 [.int .i64 x38723, .int .i64 x38724] :: Box b19510 [v1, v4, v7, v10, v13, v16] :: Box b19512 [.int .i64 0, .int .i64 0, .slice none 0 0] :: Mp (kP2 .i64) (Value.int .i64) b19522 (mset (mset x37921 (x38723, x38724) ((mget x37921 (x38723, x38724)).getD 0)) (x38723, x38724) (w64 (((mget x37921 (x38723, x38724)).getD 0) + 1))) :: hs)) ?_ ?_
           ·refine R_dr (.take 0 (.take 1 (.two 2 4 (.take 3 (.one 4 (.take 5 (.bar 6 none .done)))) (.take 5 (.one 2 (.take 3 (.bar 6 none .done))))))) (some 6) (S := fun w' => Ok w' ρ [Box b38726 [.int .i64 x38723, .int .i64 x38724], Arr v37916 3 c37917, Box b35773 [.int .i64 x35753.1.1, .int .i64 x35753.1.2, v35770], Box b19510 [v1, v4, v7, v10, v13, v16], Box b19512 [.int .i64 0, .int .i64 0, .slice none 0 0]]) hm0 (by kernel_rfl) (H.drew.okS (by simp)) ?_
            replace H := H.drew
            refine dq rfl (fun _ _ => Q_move rfl) rfl rfl <| dq (v := .agg #[.int .i64 x38723, .int .i64 x38724]) rfl (fun _ hw => Q_ldB (k := 0) (cs := [.int .i64 x38723, .int .i64 x38724]) hw rfl ty164 rfl rfl rfl (fun h => nomatch h) rfl) rfl rfl ?_
            refine d2 ?_ ?_
            ·refine de rfl (Eff.quiet (v := .int .i64 ((mget x37921 (x38723, x38724)).getD 0)) (Q_look1 (zp := 0) (k := 5) H.ok rfl Tryz.underlying184 (kOk_P2 (k := .i64) kp164 (by kernel_rfl) ty3 Tryz.underlying3) trivial ty3 rfl rfl (kP_ev rfl))) rfl rfl ?_
             rintro _ _ ⟨rfl, rfl⟩
             refine ⟨H.okS (by simp), ?_⟩
             refine dq rfl (fun _ _ => Q_add rfl rfl) rfl rfl ?_
             refine d1 (de rfl (E_mentry (zp := 0) (k := 5) H rfl Tryz.underlying184 (kOk_P2 (k := .i64) kp164 (by kernel_rfl) ty3 Tryz.underlying3) trivial ty3 rfl rfl (kP_ev rfl)) rfl rfl ?_)
             rintro _ wd38864 ⟨n38863, rfl, H⟩
             refine ⟨H.okS (by simp), ?_⟩
             dsimp only [List.set] at H
             refine dq rfl (fun _ _ => Q_extract rfl rfl) rfl rfl <| db rfl (E_estore (b := (w64 (((mget x37921 (x38723, x38724)).getD 0) + 1))) (k := 5) (kOk_P2 (k := .i64) kp164 (by kernel_rfl) ty3 Tryz.underlying3).law H rfl rfl rfl rfl) rfl rfl ?_
             rintro _ wd38865 H
             refine H.okF ?_
             dsimp only [List.set] at H
             refine DL_nil ?_
             replace H := H.f2.f2
             obtain rfl := Option.some.inj ho38862
             refine x_A fun a hf => ⟨hf.sub ⟨rfl, rfl, rfl, rfl, rfl, rfl, rfl, rfl, rfl, trivial⟩, H⟩
            ·refine de rfl (E_mentry (zp := 0) (k := 5) H rfl Tryz.underlying184 (kOk_P2 (k := .i64) kp164 (by kernel_rfl) ty3 Tryz.underlying3) trivial ty3 rfl rfl (kP_ev rfl)) rfl rfl ?_
             rintro _ wd38867 ⟨n38866, rfl, H⟩
             refine ⟨H.okS (by simp), ?_⟩
             dsimp only [List.set] at H
             refine dq rfl (fun _ _ => Q_extract rfl rfl) rfl rfl ?_
             refine d1 (de rfl (Eff.quiet (v := .int .i64 ((mget x37921 (x38723, x38724)).getD 0)) (Q_look1E (m := x37921) (zp := 0) (k := 5) H.ok rfl Tryz.underlying184 (kOk_P2 (k := .i64) kp164 (by kernel_rfl) ty3 Tryz.underlying3) trivial ty3 rfl rfl (kP_ev rfl))) rfl rfl ?_)
             rintro _ _ ⟨rfl, rfl⟩
             refine ⟨H.okS (by simp), ?_⟩
             refine dq rfl (fun _ _ => Q_add rfl rfl) rfl rfl <| db rfl (E_estore (b := (w64 (((mget x37921 (x38723, x38724)).getD 0) + 1))) (k := 5) (kOk_P2 (k := .i64) kp164 (by kernel_rfl) ty3 Tryz.underlying3).law H rfl rfl rfl rfl) rfl rfl ?_
             rintro _ wd38868 H
             refine H.okF ?_
             dsimp only [List.set] at H
             refine DL_nil ?_
             replace H := H.f2.f2
             obtain rfl := Option.some.inj ho38862
             refine x_A fun a hf => ⟨hf.sub ⟨rfl, rfl, rfl, rfl, rfl, rfl, rfl, rfl, rfl, trivial⟩, H⟩
           ·rintro a wd38869 ⟨hf, H⟩
            try dsimp only at ho38855
            refine CW.at hf ?_
            obtain ⟨o38924, ho38924, ho38855⟩ := bnd ho38855
            refine C_cutQ (fun a w' => ∃ (ρ' : View) (v38920 : Value) (c38921 : (List Value)) (x38922 : (List ((Int × Int) × (List Int)))), View.le ρ ρ' ∧ x38922 = o38924 ∧ rdL (eP (eP (eI .i64) (eI .i64)) (eL (eI .u8))) ρ' x38922 c38921 ∧ Fr 73 a [(2, .func (.func 102) #[] [].toArray), (3, .pointer (some ⟨b19510, 0, none⟩)), (6, .pointer (some ⟨b19512, 0, none⟩)), (9, .map (some b19522)), (10, v38920), (11, .pointer (some ⟨b35773, 0, none⟩)), (41, .int .i64 x37920)] ∧ Hp C w' ρ' (Arr v38920 3 c38921 :: Box b35773 [.int .i64 x35753.1.1, .int .i64 x35753.1.2, v35770] :: Box b19510 [v1, v4, v7, v10, v13, v16] :: Box b19512 [.int .i64 0, .int .i64 0, .slice none 0 0] :: Mp (kP2 .i64) (Value.int .i64) b19522 (mset (mset x37921 (x38723, x38724) ((mget x37921 (x38723, x38724)).getD 0)) (x38723, x38724) (w64 (((mget x37921 (x38723, x38724)).getD 0) + 1))) :: hs)) ?_ ?_
            ·refine R_dr (.take 0 (.take 1 (.take 2 (.take 3 (.take 5 (.take 6 (.two 4 7 (.one 7 (.one 8 (.take 9 (.one 10 (.bar 11 none (.take 12 .done)))))) (.one 4 (.one 8 (.take 9 (.one 10 (.bar 11 none (.take 12 .done))))))))))))) (some 11) (S := fun w' => Ok w' ρ [Arr v37916 3 c37917, Box b35773 [.int .i64 x35753.1.1, .int .i64 x35753.1.2, v35770], Box b38726 [.int .i64 x38723, .int .i64 x38724], Box b19510 [v1, v4, v7, v10, v13, v16], Box b19512 [.int .i64 0, .int .i64 0, .slice none 0 0], Mp (kP2 .i64) (Value.int .i64) b19522 (mset (mset x37921 (x38723, x38724) ((mget x37921 (x38723, x38724)).getD 0)) (x38723, x38724) (w64 (((mget x37921 (x38723, x38724)).getD 0) + 1)))]) hm0 (by kernel_rfl) (H.drew.okS (by simp)) ?_
             replace H := H.drew
             refine dq rfl (fun _ _ => Q_move rfl) rfl rfl <| dq (v := .agg #[.int .i64 x38723, .int .i64 x38724]) rfl (fun _ hw => Q_ldB (k := 2) (cs := [.int .i64 x38723, .int .i64 x38724]) hw rfl ty164 rfl rfl rfl (fun h => nomatch h) rfl) rfl rfl <| dq (v := .pointer (some ⟨b35773, 2, none⟩)) rfl (fun _ _ => Q_fld Tryz.underlying166 rfl ty42 (by decide) rfl rfl) rfl rfl <| dq (v := v35770) rfl (fun _ hw => Q_ldB (k := 1) (cs := [v35770]) hw rfl ty42 rfl rfl rfl (fun _ => rfl) rfl) rfl rfl <| dq rfl (fun _ _ => Q_move rfl) rfl rfl <| dq rfl (fun _ _ => Q_cvI ⟨_, Tryz.underlying3⟩ Tryz.underlying5 rfl) rfl rfl ?_
             refine d2 ?_ ?_
             ·obtain ⟨q38925, hq38925, ho38924⟩ := bnd ho38924
              refine de rfl (E_call fn139 rfl (c_139 H  r35772 hq38925)) rfl rfl ?_
              rintro _ wd38931 ⟨v38927, c38928, x38929, rfl, rfl, r38930, H⟩
              try dsimp only at ho38924
              refine ⟨H.okS (by simp), ?_⟩
              refine d1 (de rfl (E_bslice (xs := [.tmp 65]) (vs := [.int .u8 (IntKind.wrap .u8 x37920)]) H Tryz.underlying42 ty5 (by decide) (cs := [.int .u8 (IntKind.wrap .u8 x37920)]) rfl (sz_cons rfl sz_nil) rfl (by simp) (by simp) rfl rfl) rfl rfl ?_)
              rintro _ wd38933 ⟨b38932, rfl, H⟩
              refine ⟨H.okS (by simp), ?_⟩
              obtain ⟨x38934, hx38934, ho38924⟩ := bnd ho38924
              obtain ⟨ha38935a, ha38935b⟩ := app_some hx38934
              have r38937 : rdL (eI .u8) ρ x38934 (c38928 ++ ([.int .u8 (IntKind.wrap .u8 x37920)])) := ha38935b ▸ rdL.app r38930 (show rdL (eI .u8) ρ ([IntKind.wrap .u8 x37920]) ([.int .u8 (IntKind.wrap .u8 x37920)]) from ⟨([.int .u8 (IntKind.wrap .u8 x37920)]), _, rfl, rfl, rdL.nil⟩)
              refine d1 (de rfl (E_append (k := 1) H rfl Tryz.underlying42 ty5 rfl (by decide) (by decide) rfl rfl (Src.ofArr (k := 0) H.ok rfl) (rdL.one (show rdL (eI .u8) ρ ([IntKind.wrap .u8 x37920]) ([.int .u8 (IntKind.wrap .u8 x37920)]) from ⟨([.int .u8 (IntKind.wrap .u8 x37920)]), _, rfl, rfl, rdL.nil⟩)) (app_fit r38930 (show rdL (eI .u8) ρ ([IntKind.wrap .u8 x37920]) ([.int .u8 (IntKind.wrap .u8 x37920)]) from ⟨([.int .u8 (IntKind.wrap .u8 x37920)]), _, rfl, rfl, rdL.nil⟩) ha38935a)) rfl rfl ?_)
              rintro v38936 wd38939 ⟨H, hc38938⟩
              dsimp only [List.set] at H
              refine ⟨H.okS (by simp), ?_⟩
              refine dq (v := .agg #[.int .i64 x38723, .int .i64 x38724, v38936]) rfl (fun _ _ => Q_buildS st166.choose_spec (ps := [(0, [.int .i64 x38723, .int .i64 x38724]), (2, [v38936])]) rfl ⟨rfl, rfl, by simp, ⟨rfl, (arr_cells (H.ok.get (k := 1) rfl)).1, by simp, trivial⟩⟩ rfl) rfl rfl ?_
              replace H := H.f1
              obtain ⟨ρ, lw38940, H, r38941⟩ := Hp.frz (en := (eI .u8)) H (by decide) r38937
              replace r37919 := rdL.up lw38940 r37919
              replace r35772 := RdSl.up lw38940 r35772
              replace r3 := RdSl.up lw38940 r3
              replace r6 := RdSl.up lw38940 r6
              replace r9 := RdSl.up lw38940 r9
              replace r12 := RdSl.up lw38940 r12
              replace r15 := RdSl.up lw38940 r15
              replace r18 := RdSl.up lw38940 r18
              replace gle := GErrs.up lw38940 gle
              refine d1 (de rfl (E_bslice (xs := [.tmp 68]) (vs := [.agg #[.int .i64 x38723, .int .i64 x38724, v38936]]) H Tryz.underlying223 ty166 (by decide) (cs := [.int .i64 x38723, .int .i64 x38724, v38936]) rfl (sz_cons rfl sz_nil) rfl (by simp) (by simp) rfl rfl) rfl rfl ?_)
              rintro _ wd38943 ⟨b38942, rfl, H⟩
              refine ⟨(H.okS (by simp)).low lw38940, ?_⟩
              obtain ⟨x38944, hx38944, ho38924⟩ := bnd ho38924
              obtain ⟨ha38945a, ha38945b⟩ := app_some hx38944
              have r38947 : rdL (eP (eP (eI .i64) (eI .i64)) (eL (eI .u8))) ρ x38944 (c37917 ++ ([.int .i64 x38723, .int .i64 x38724, v38936])) := ha38945b ▸ rdL.app r37919 (show rdL (eP (eP (eI .i64) (eI .i64)) (eL (eI .u8))) ρ ([((x38723, x38724), x38934)]) ([.int .i64 x38723, .int .i64 x38724, v38936]) from ⟨([.int .i64 x38723, .int .i64 x38724, v38936]), _, rfl, ⟨[.int .i64 x38723, .int .i64 x38724], _, rfl, ⟨[.int .i64 x38723], _, rfl, rfl, rfl⟩, ⟨_, rfl, r38941⟩⟩, rdL.nil⟩)
              refine db rfl (E_append (k := 2) H rfl Tryz.underlying223 ty166 rfl (by decide) (by decide) rfl rfl (Src.ofArr (k := 0) H.ok rfl) (rdL.one (show rdL (eP (eP (eI .i64) (eI .i64)) (eL (eI .u8))) ρ ([((x38723, x38724), x38934)]) ([.int .i64 x38723, .int .i64 x38724, v38936]) from ⟨([.int .i64 x38723, .int .i64 x38724, v38936]), _, rfl, ⟨[.int .i64 x38723, .int .i64 x38724], _, rfl, ⟨[.int .i64 x38723], _, rfl, rfl, rfl⟩, ⟨_, rfl, r38941⟩⟩, rdL.nil⟩)) (app_fit r37919 (show rdL (eP (eP (eI .i64) (eI .i64)) (eL (eI .u8))) ρ ([((x38723, x38724), x38934)]) ([.int .i64 x38723, .int .i64 x38724, v38936]) from ⟨([.int .i64 x38723, .int .i64 x38724, v38936]), _, rfl, ⟨[.int .i64 x38723, .int .i64 x38724], _, rfl, ⟨[.int .i64 x38723], _, rfl, rfl, rfl⟩, ⟨_, rfl, r38941⟩⟩, rdL.nil⟩) ha38945a)) rfl rfl ?_
              rintro v38946 wd38949 ⟨H, hc38948⟩
              dsimp only [List.set] at H
              refine H.okF <| dq rfl (fun _ _ => Q_assign rfl) rfl rfl <| DL_nil ?_
              replace H := H.e4.e1.e0
              obtain rfl := Option.some.inj ho38924
              refine x_A fun a hf => ⟨ρ, v38946, (c37917 ++ ([.int .i64 x38723, .int .i64 x38724, v38936])), x38944, lw38940, rfl, r38947, hf.sub ⟨rfl, rfl, rfl, rfl, rfl, rfl, rfl, trivial⟩, H⟩
             ·refine de rfl (E_bslice (xs := [.tmp 65]) (vs := [.int .u8 (IntKind.wrap .u8 x37920)]) H Tryz.underlying42 ty5 (by decide) (cs := [.int .u8 (IntKind.wrap .u8 x37920)]) rfl (sz_cons rfl sz_nil) rfl (by simp) (by simp) rfl rfl) rfl rfl ?_
              rintro _ wd38951 ⟨b38950, rfl, H⟩
              refine ⟨H.okS (by simp), ?_⟩
              obtain ⟨q38952, hq38952, ho38924⟩ := bnd ho38924
              refine d1 (de rfl (E_call fn139 rfl (c_139 H  r35772 hq38952)) rfl rfl ?_)
              rintro _ wd38958 ⟨v38954, c38955, x38956, rfl, rfl, r38957, H⟩
              try dsimp only at ho38924
              refine ⟨H.okS (by simp), ?_⟩
              obtain ⟨x38959, hx38959, ho38924⟩ := bnd ho38924
              obtain ⟨ha38960a, ha38960b⟩ := app_some hx38959
              have r38962 : rdL (eI .u8) ρ x38959 (c38955 ++ ([.int .u8 (IntKind.wrap .u8 x37920)])) := ha38960b ▸ rdL.app r38957 (show rdL (eI .u8) ρ ([IntKind.wrap .u8 x37920]) ([.int .u8 (IntKind.wrap .u8 x37920)]) from ⟨([.int .u8 (IntKind.wrap .u8 x37920)]), _, rfl, rfl, rdL.nil⟩)
              refine d1 (de rfl (E_append (k := 0) H rfl Tryz.underlying42 ty5 rfl (by decide) (by decide) rfl rfl (Src.ofArr (k := 1) H.ok rfl) (rdL.one (show rdL (eI .u8) ρ ([IntKind.wrap .u8 x37920]) ([.int .u8 (IntKind.wrap .u8 x37920)]) from ⟨([.int .u8 (IntKind.wrap .u8 x37920)]), _, rfl, rfl, rdL.nil⟩)) (app_fit r38957 (show rdL (eI .u8) ρ ([IntKind.wrap .u8 x37920]) ([.int .u8 (IntKind.wrap .u8 x37920)]) from ⟨([.int .u8 (IntKind.wrap .u8 x37920)]), _, rfl, rfl, rdL.nil⟩) ha38960a)) rfl rfl ?_)
              rintro v38961 wd38964 ⟨H, hc38963⟩
              dsimp only [List.set] at H
              refine ⟨H.okS (by simp), ?_⟩
              refine dq (v := .agg #[.int .i64 x38723, .int .i64 x38724, v38961]) rfl (fun _ _ => Q_buildS st166.choose_spec (ps := [(0, [.int .i64 x38723, .int .i64 x38724]), (2, [v38961])]) rfl ⟨rfl, rfl, by simp, ⟨rfl, (arr_cells (H.ok.get (k := 0) rfl)).1, by simp, trivial⟩⟩ rfl) rfl rfl ?_
              obtain ⟨ρ, lw38965, H, r38966⟩ := Hp.frz (en := (eI .u8)) H (by decide) r38962
              replace r37919 := rdL.up lw38965 r37919
              replace r35772 := RdSl.up lw38965 r35772
              replace r3 := RdSl.up lw38965 r3
              replace r6 := RdSl.up lw38965 r6
              replace r9 := RdSl.up lw38965 r9
              replace r12 := RdSl.up lw38965 r12
              replace r15 := RdSl.up lw38965 r15
              replace r18 := RdSl.up lw38965 r18
              replace gle := GErrs.up lw38965 gle
              refine d1 (de rfl (E_bslice (xs := [.tmp 68]) (vs := [.agg #[.int .i64 x38723, .int .i64 x38724, v38961]]) H Tryz.underlying223 ty166 (by decide) (cs := [.int .i64 x38723, .int .i64 x38724, v38961]) rfl (sz_cons rfl sz_nil) rfl (by simp) (by simp) rfl rfl) rfl rfl ?_)
              rintro _ wd38968 ⟨b38967, rfl, H⟩
              refine ⟨(H.okS (by simp)).low lw38965, ?_⟩
              obtain ⟨x38969, hx38969, ho38924⟩ := bnd ho38924
              obtain ⟨ha38970a, ha38970b⟩ := app_some hx38969
              have r38972 : rdL (eP (eP (eI .i64) (eI .i64)) (eL (eI .u8))) ρ x38969 (c37917 ++ ([.int .i64 x38723, .int .i64 x38724, v38961])) := ha38970b ▸ rdL.app r37919 (show rdL (eP (eP (eI .i64) (eI .i64)) (eL (eI .u8))) ρ ([((x38723, x38724), x38959)]) ([.int .i64 x38723, .int .i64 x38724, v38961]) from ⟨([.int .i64 x38723, .int .i64 x38724, v38961]), _, rfl, ⟨[.int .i64 x38723, .int .i64 x38724], _, rfl, ⟨[.int .i64 x38723], _, rfl, rfl, rfl⟩, ⟨_, rfl, r38966⟩⟩, rdL.nil⟩)
              refine db rfl (E_append (k := 2) H rfl Tryz.underlying223 ty166 rfl (by decide) (by decide) rfl rfl (Src.ofArr (k := 0) H.ok rfl) (rdL.one (show rdL (eP (eP (eI .i64) (eI .i64)) (eL (eI .u8))) ρ ([((x38723, x38724), x38959)]) ([.int .i64 x38723, .int .i64 x38724, v38961]) from ⟨([.int .i64 x38723, .int .i64 x38724, v38961]), _, rfl, ⟨[.int .i64 x38723, .int .i64 x38724], _, rfl, ⟨[.int .i64 x38723], _, rfl, rfl, rfl⟩, ⟨_, rfl, r38966⟩⟩, rdL.nil⟩)) (app_fit r37919 (show rdL (eP (eP (eI .i64) (eI .i64)) (eL (eI .u8))) ρ ([((x38723, x38724), x38959)]) ([.int .i64 x38723, .int .i64 x38724, v38961]) from ⟨([.int .i64 x38723, .int .i64 x38724, v38961]), _, rfl, ⟨[.int .i64 x38723, .int .i64 x38724], _, rfl, ⟨[.int .i64 x38723], _, rfl, rfl, rfl⟩, ⟨_, rfl, r38966⟩⟩, rdL.nil⟩) ha38970a)) rfl rfl ?_
              rintro v38971 wd38974 ⟨H, hc38973⟩
              dsimp only [List.set] at H
              refine H.okF <| dq rfl (fun _ _ => Q_assign rfl) rfl rfl <| DL_nil ?_
              replace H := H.e4.e1.e0
              obtain rfl := Option.some.inj ho38924
              refine x_A fun a hf => ⟨ρ, v38971, (c37917 ++ ([.int .i64 x38723, .int .i64 x38724, v38961])), x38969, lw38965, rfl, r38972, hf.sub ⟨rfl, rfl, rfl, rfl, rfl, rfl, rfl, trivial⟩, H⟩
            ·rintro a wd38975 ⟨ρ, v38920, c38921, x38922, lw38976, rfl, r38923, hf, H⟩
             try dsimp only at ho38855
             replace r35772 := RdSl.up lw38976 r35772
             replace r3 := RdSl.up lw38976 r3
             replace r6 := RdSl.up lw38976 r6
             replace r9 := RdSl.up lw38976 r9
             replace r12 := RdSl.up lw38976 r12
             replace r15 := RdSl.up lw38976 r15
             replace r18 := RdSl.up lw38976 r18
             replace gle := GErrs.up lw38976 gle
             refine XX.at hf ?_
             obtain rfl := Option.some.inj ho38855
             refine x_A fun a hf => ⟨ρ, v38920, c38921, x38922, (mset (mset x37921 (x38723, x38724) ((mget x37921 (x38723, x38724)).getD 0)) (x38723, x38724) (w64 (((mget x37921 (x38723, x38724)).getD 0) + 1))), lw38976, rfl, r38923, hf.sub ⟨rfl, rfl, rfl, rfl, rfl, rfl, rfl, trivial⟩, H⟩
          ·replace ho38855 := itF hb ho38855
           refine C_skip ?_
           replace H := H.e0
           obtain rfl := Option.some.inj ho38855
           refine x_A fun a hf => ⟨ρ, v37916, c37917, x37918, x37921, (View.le_refl _), rfl, r37919, hf.sub ⟨rfl, rfl, rfl, rfl, rfl, rfl, rfl, trivial⟩, H⟩
         ·rintro a wd38977 ⟨ρ, v38850, c38851, x38852, x38854, lw38978, rfl, r38853, hf, H⟩
          try dsimp only at ho38720
          replace r35772 := RdSl.up lw38978 r35772
          replace r3 := RdSl.up lw38978 r3
          replace r6 := RdSl.up lw38978 r6
          replace r9 := RdSl.up lw38978 r9
          replace r12 := RdSl.up lw38978 r12
          replace r15 := RdSl.up lw38978 r15
          replace r18 := RdSl.up lw38978 r18
          replace gle := GErrs.up lw38978 gle
          refine XX.at hf <| x_block ?_
          obtain rfl := Option.some.inj ho38720
          refine x_A fun a hf => ⟨ρ, v38850, c38851, x38852, x38854, lw38978, rfl, r38853, hf.sub ⟨rfl, rfl, rfl, rfl, rfl, rfl, rfl, trivial⟩, H⟩
        ·rintro a wd38979 ⟨ρ, v38715, c38716, x38717, x38719, lw38980, rfl, r38718, hf, H⟩
         try dsimp only at hB38453
         replace r35772 := RdSl.up lw38980 r35772
         replace r3 := RdSl.up lw38980 r3
         replace r6 := RdSl.up lw38980 r6
         replace r9 := RdSl.up lw38980 r9
         replace r12 := RdSl.up lw38980 r12
         replace r15 := RdSl.up lw38980 r15
         replace r18 := RdSl.up lw38980 r18
         replace gle := GErrs.up lw38980 gle
         refine CW.at hf <| R_nd <| nq (Q_add rfl rfl) rfl rfl <| nq (Q_move rfl) rfl rfl <| WL_nil ?_
         obtain rfl := Option.some.inj hB38453
         refine x_A fun a hf => ⟨_, rfl, ρ, v38715, c38716, x38717, w64 (x37920 + 1), x38719, (View.le_trans lw38456 lw38980), rfl, r38718, hf.sub ⟨rfl, rfl, rfl, rfl, rfl, rfl, rfl, trivial⟩, H⟩
       ·replace hB38453 := itF hb hB38453
        refine C_exit <| x_then_exit <| x_then_exit <| x_block_exit ?_
        replace H := H.e1
        obtain rfl := Option.some.inj hB38453
        obtain rfl := hO38454 _ rfl
        refine x_A fun a hf => ⟨ρ, v37916, c37917, x37918, x37921, lw38456, rfl, r37919, hf.sub ⟨rfl, rfl, rfl, rfl, rfl, trivial⟩, H⟩
     ·rintro a wd38981 ⟨ρ, v37380, c37381, x37382, x37384, lw38982, rfl, r37383, hf, H⟩
      try dsimp only at hB35749
      replace r3 := RdSl.up lw38982 r3
      replace r6 := RdSl.up lw38982 r6
      replace r9 := RdSl.up lw38982 r9
      replace r12 := RdSl.up lw38982 r12
      replace r15 := RdSl.up lw38982 r15
      replace r18 := RdSl.up lw38982 r18
      replace gle := GErrs.up lw38982 gle
      refine XX.at hf <| x_block <| x_then <| R_nd <| nq (Q_move rfl) rfl rfl ?_
      obtain ⟨x38983, hx38983, hB35749⟩ := bnd hB35749
      obtain ⟨v38985, c38988, H, r38986, hq38989⟩ := sliceW (P := Tryz.prog) (en := (eP (eP (eI .i64) (eI .i64)) (eL (eI .u8)))) (k := 0) H rfl (by decide) r37383 hx38983
      dsimp only [List.set] at H
      replace H : Hp C _ ρ (Arr v38985 3 c38988 :: Box b19510 [v1, v4, v7, v10, v13, v16] :: Box b19512 [.int .i64 0, .int .i64 0, .slice none 0 0] :: Mp (kP2 .i64) (Value.int .i64) b19522 x37384 :: hs) := H
      refine nq (v := v38985) (hq38989 _ _ _ _ _ _ _ _ _ _ _ _ _ _ _ Tryz.underlying223 ty166 rfl ⟨_, rfl⟩ rfl) rfl rfl <| nq (Q_assign rfl) rfl rfl <| WL_nil ?_
      obtain rfl := Option.some.inj hB35749
      refine x_A fun a hf => ⟨_, rfl, ρ, v38985, c38988, x38983, x37384, (View.le_trans lw35752 lw38982), rfl, r38986, hf.sub ⟨rfl, rfl, rfl, rfl, rfl, trivial⟩, H⟩
   ·replace hB35749 := itF hb hB35749
    refine C_exit <| x_then_exit <| x_then_exit <| x_block_exit ?_
    replace H := H.e3.e1.e0
    obtain rfl := Option.some.inj hB35749
    obtain rfl := hO35750 _ rfl
    refine x_A fun a hf => ⟨ρ, lw35752, rfl, hf.sub ⟨rfl, trivial⟩, H⟩
 ·rintro a wd38990 ⟨ρ, lw38991, rfl, hf, H⟩
  try dsimp only at hF
  replace gle := GErrs.up lw38991 gle
  refine XX.at hf <| x_then <| C_seq <| R_nd <| nq (v := .agg #[.int .i64 0, .int .i64 0, .slice none 0 0]) (Q_buildS st166.choose_spec (ps := []) rfl trivial rfl) rfl rfl <| ne (E_stB (k := 0) (cs := [.int .i64 0, .int .i64 0, .slice none 0 0]) (vs' := [.int .i64 0, .int .i64 0, .slice none 0 0]) H rfl ty166 rfl rfl rfl rfl (one_cons rfl (one_cons rfl (one_cons rfl one_nil))) (by simp) rfl) rfl rfl ?_
  rintro _ wd38992 H
  dsimp only [List.set] at H
  refine nq (Q_assign rfl) rfl rfl <| WL_nil <| x_then <| C_ret ?_
  have H := H.nilArr 1
  have hRV : RV Tryz.prog wd38992 [(6, .pointer (some ⟨b19512, 0, none⟩)), (7, .bool false)] [.cell 6 166, .tmp 7] [.agg #[.int .i64 0, .int .i64 0, (.slice none 0 0)], .bool false] := ⟨⟨_, rfl, run_ldv ty166 rfl (fun h => nomatch h) (box_at (H.ok.get (k := 1) rfl) 0 3)⟩, rfl, trivial⟩
  replace H := H.e1
  obtain rfl := Option.some.inj hF
  exact fn_retV (rs := [.cell 6 166, .tmp 7]) (vs := [.agg #[.int .i64 0, .int .i64 0, (.slice none 0 0)], .bool false]) rfl hRV (.inr ⟨ρ, rfl, rfl, lw38991, H⟩)
theorem c_51 {N : Nat} {C : Cx} {w : World} {ρ : View} {hs : List Hl} {gV : Nat → Value} {v1 : Value} {v4 : Value} {v7 : Value} {v10 : Value} {v13 : Value} {v16 : Value} {x2 : (List (List Int))} {x5 : (List Int)} {x8 : (List Int)} {x11 : (List (List Int))} {x14 : (List Int)} {x17 : (List Int)} (H : Hp C w ρ (hs)) (gle : GErrs ρ 394 errIds gV) (r3 : RdSl ρ (eA 256 (eI .i64)) v1 x2) (r6 : RdSl ρ (eI .i64) v4 x5) (r9 : RdSl ρ (eI .i64) v7 x8) (r12 : RdSl ρ (eA 256 (eI .i64)) v10 x11) (r15 : RdSl ρ (eI .i64) v13 x14) (r18 : RdSl ρ (eI .i64) v16 x17) {r : (Unit ⊕ (Int × (List Int) × Int × Int))} (hF : F_product_Differ N x2 x5 x8 x11 x14 x17 = some r) :
  Calls Tryz.prog 51 [.agg #[v1, v4, v7], .agg #[v10, v13, v16]].toArray w (Rets (fun v w' => (∃ (ρ' : View), .inl () = r ∧ .tuple [.agg #[.int .i64 0, (.slice none 0 0), .int .i64 0, .int .i64 0], .bool false].toArray = v ∧ View.le ρ ρ' ∧ Hp C w' ρ' (Arr (.slice none 0 0) 1 ([]) :: hs)) ∨ (∃ (ρ' : View) (v186 : Value) (x185 : Int) (x187 : (List Int)) (x189 : Int) (x190 : Int), .inr (x185, x187, x189, x190) = r ∧ .tuple [.agg #[.int .i64 x185, v186, .int .i64 x189, .int .i64 x190], .bool true].toArray = v ∧ View.le ρ ρ' ∧ RdSl ρ' (eI .u8) v186 x187 ∧ Hp C w' ρ' (hs)))) := by
 unfold F_product_Differ at hF
 have h0 : Tryz.f51.body = some _ := rfl
 refine fn_calls' Tryz.func51 h0 (n := 51) rfl (by simp) <| C_seq <| R_nd <| ne (E_box H (vs := [v1, v4, v7]) rfl rfl) rfl rfl ?_
 rintro _ wd192 ⟨b191, rfl, H⟩
 refine ne (E_box H (vs := [v10, v13, v16]) rfl rfl) rfl rfl ?_
 rintro _ wd194 ⟨b193, rfl, H⟩
 refine ne (E_alloc H ty90 (zs := [.int .i64 0, .slice none 0 0, .int .i64 0, .int .i64 0]) rfl) rfl rfl ?_
 rintro _ wd196 ⟨b195, rfl, H⟩
 refine nq (Q_assign rfl) rfl rfl <| WL_nil <| x_then <| C_seq <| R_nd <| nq (v := .agg #[v1, v4, v7]) (Q_ldB (k := 2) (cs := [v1, v4, v7]) H.ok rfl ty78 rfl rfl rfl (fun h => nomatch h) rfl) rfl rfl <| nq (v := .agg #[v10, v13, v16]) (Q_ldB (k := 1) (cs := [v10, v13, v16]) H.ok rfl ty78 rfl rfl rfl (fun h => nomatch h) rfl) rfl rfl <| nq (v := .agg #[v1, v4, v7, v10, v13, v16]) (Q_buildS st162.choose_spec (ps := [(0, [v1, v4, v7]), (3, [v10, v13, v16])]) rfl ⟨rfl, rfl, by simp, ⟨rfl, rfl, by simp, trivial⟩⟩ rfl) rfl rfl <| ne (E_alloc H ty162 (zs := [.slice none 0 0, .slice none 0 0, .slice none 0 0, .slice none 0 0, .slice none 0 0, .slice none 0 0]) rfl) rfl rfl ?_
 rintro _ wd198 ⟨b197, rfl, H⟩
 refine ne (E_stB (k := 0) (cs := [v1, v4, v7, v10, v13, v16]) (vs' := [v1, v4, v7, v10, v13, v16]) H rfl ty162 rfl rfl rfl rfl (one_cons (RdSl.one r3) (one_cons (RdSl.one r6) (one_cons (RdSl.one r9) (one_cons (RdSl.one r12) (one_cons (RdSl.one r15) (one_cons (RdSl.one r18) one_nil)))))) (by simp) rfl) rfl rfl ?_
 rintro _ wd199 H
 dsimp only [List.set] at H
 refine WL_nil <| x_then <| C_seq <| C_seq <| R_nd <| nq (v := .agg #[v1, v4, v7, v10, v13, v16]) (Q_ldB (k := 0) (cs := [v1, v4, v7, v10, v13, v16]) H.ok rfl ty162 rfl rfl rfl (fun h => nomatch h) rfl) rfl rfl ?_
 obtain ⟨q200, hq200, hF⟩ := bnd hF
 refine ne (E_call fn100 rfl (c_100 H gle  r3 r6 r9 r12 r15 r18 hq200)) rfl rfl ?_
 rintro _ wd203 ⟨x202, rfl, rfl, H⟩
 try dsimp only at hF
 refine nq (Q_not rfl) rfl rfl <| WL_nil <| x_then ?_
 refine C_cond rfl (fun hb => ?_) (fun hb => ?_)
 ·replace hF := itT hb hF
  refine C_seq <| R_nd <| nq (v := .agg #[.int .i64 0, .slice none 0 0, .int .i64 0, .int .i64 0]) (Q_buildS st90.choose_spec (ps := []) rfl trivial rfl) rfl rfl <| ne (E_stB (k := 1) (cs := [.int .i64 0, .slice none 0 0, .int .i64 0, .int .i64 0]) (vs' := [.int .i64 0, .slice none 0 0, .int .i64 0, .int .i64 0]) H rfl ty90 rfl rfl rfl rfl (one_cons rfl (one_cons rfl (one_cons rfl (one_cons rfl one_nil)))) (by simp) rfl) rfl rfl ?_
  rintro _ wd204 H
  dsimp only [List.set] at H
  refine nq (Q_assign rfl) rfl rfl <| WL_nil <| x_then <| C_ret <| x_then_ret ?_
  have H := H.nilArr 1
  have hRV : RV Tryz.prog wd204 [(4, .pointer (some ⟨b195, 0, none⟩)), (5, .bool false)] [.cell 4 90, .tmp 5] [.agg #[.int .i64 0, (.slice none 0 0), .int .i64 0, .int .i64 0], .bool false] := ⟨⟨_, rfl, run_ldv ty90 rfl (fun h => nomatch h) (box_at (H.ok.get (k := 2) rfl) 0 4)⟩, rfl, trivial⟩
  replace H := H.e4.e3.e2.e1
  obtain rfl := Option.some.inj hF
  exact fn_retV (rs := [.cell 4 90, .tmp 5]) (vs := [.agg #[.int .i64 0, (.slice none 0 0), .int .i64 0, .int .i64 0], .bool false]) rfl hRV (.inl ⟨ρ, rfl, rfl, (View.le_refl _), H⟩)
 ·replace hF := itF hb hF
  refine C_skip <| x_then <| C_seq <| C_seq <| R_nd <| nq (v := .pointer (some ⟨b191, 2, none⟩)) (Q_fld Tryz.underlying78 rfl ty23 (by decide) rfl rfl) rfl rfl <| nq (v := v7) (Q_ldB (k := 3) (cs := [v7]) H.ok rfl ty23 rfl rfl rfl (fun _ => rfl) rfl) rfl rfl <| nq (Q_len Tryz.underlying23 rfl r9) rfl rfl <| nq (v := .pointer (some ⟨b193, 2, none⟩)) (Q_fld Tryz.underlying78 rfl ty23 (by decide) rfl rfl) rfl rfl <| nq (v := v16) (Q_ldB (k := 2) (cs := [v16]) H.ok rfl ty23 rfl rfl rfl (fun _ => rfl) rfl) rfl rfl <| nq (Q_len Tryz.underlying23 rfl r18) rfl rfl <| nq (v := .int .i64 (imax (x8.length : Int) (x17.length : Int))) (Q_max rfl rfl) rfl rfl <| nq (Q_move rfl) rfl rfl <| WL_nil ?_
  refine x_then ?_
  obtain ⟨o279, ho279, hF⟩ := bnd hF
  refine C_cutQ (fun a w' => ∃ (ρ' : View), View.le ρ ρ' ∧ .inl () = o279 ∧ Fr 51 a [(4, .pointer (some ⟨b195, 0, none⟩))] ∧ Hp C w' ρ' (Box b195 [.int .i64 0, .slice none 0 0, .int .i64 0, .int .i64 0] :: hs)) ?_ ?_
  ·refine C_block ?_
   replace H := H.e3.e2.f1
   refine C_iter (f := fun s => F_product_Differ_l0 N x2 x5 x8 x11 x14 x17 s) ho279 (fun s a w' => ∃ (ρ' : View) (x303 : Int), View.le ρ ρ' ∧ x303 = s ∧ Fr 51 a [(4, .pointer (some ⟨b195, 0, none⟩)), (6, .pointer (some ⟨b197, 0, none⟩)), (25, .int .i64 (imax (x8.length : Int) (x17.length : Int))), (26, .int .i64 x303)] ∧ Hp C w' ρ' (Box b195 [.int .i64 0, .slice none 0 0, .int .i64 0, .int .i64 0] :: Box b197 [v1, v4, v7, v10, v13, v16] :: hs)) ?_ ?_
   ·exact fun a hf => ⟨ρ, 0, (View.le_refl _), rfl, hf.sub ⟨rfl, rfl, rfl, rfl, trivial⟩, H⟩
   ·rintro s o327 a wd330 ⟨ρ, x303, lw331, rfl, hf, H⟩ hB328 hO329
    replace hB328 : F_product_Differ_l0 N x2 x5 x8 x11 x14 x17 x303 = some o327 := hB328
    unfold F_product_Differ_l0 at hB328
    refine CW.at hf ?_
    replace r3 := RdSl.up lw331 r3
    replace r6 := RdSl.up lw331 r6
    replace r9 := RdSl.up lw331 r9
    replace r12 := RdSl.up lw331 r12
    replace r15 := RdSl.up lw331 r15
    replace r18 := RdSl.up lw331 r18
    replace gle := GErrs.up lw331 gle
    refine C_seq <| R_nd <| nq (Q_lss rfl rfl) rfl rfl <| WL_nil <| x_then <| C_seq ?_
    refine C_cond rfl (fun hb => ?_) (fun hb => ?_)
    ·replace hB328 := itT hb hB328
     refine C_skip <| x_then <| C_seq <| C_block <| C_seq <| R_nd <| nq (Q_move rfl) rfl rfl <| nq (Q_assign rfl) rfl rfl <| WL_nil <| x_then <| C_seq <| R_nd <| nq (v := .agg #[v1, v4, v7, v10, v13, v16]) (Q_ldB (k := 1) (cs := [v1, v4, v7, v10, v13, v16]) H.ok rfl ty162 rfl rfl rfl (fun h => nomatch h) rfl) rfl rfl <| nq (Q_move rfl) rfl rfl ?_
     obtain ⟨q332, hq332, hB328⟩ := bnd hB328
     refine ne (E_call fn101 rfl (c_101 H gle  r3 r6 r9 r12 r15 r18 hq332)) rfl rfl ?_
     rintro _ wd341 (⟨ρ, v334, x335, x336, x337, rfl, rfl, lw338, r339, H⟩ | ⟨ρ, rfl, rfl, lw340, H⟩)
     ·try dsimp only at hB328
      replace r3 := RdSl.up lw338 r3
      replace r6 := RdSl.up lw338 r6
      replace r9 := RdSl.up lw338 r9
      replace r12 := RdSl.up lw338 r12
      replace r15 := RdSl.up lw338 r15
      replace r18 := RdSl.up lw338 r18
      replace gle := GErrs.up lw338 gle
      refine nq (Q_move rfl) rfl rfl <| nq (Q_extract rfl rfl) rfl rfl <| nq (Q_extract rfl rfl) rfl rfl <| ne (E_alloc H ty166 (zs := [.int .i64 0, .int .i64 0, .slice none 0 0]) rfl) rfl rfl ?_
      rintro _ wd343 ⟨b342, rfl, H⟩
      refine ne (E_stB (k := 0) (cs := [.int .i64 x335, .int .i64 x336, v334]) (vs' := [.int .i64 x335, .int .i64 x336, v334]) H rfl ty166 rfl rfl rfl rfl (one_cons rfl (one_cons rfl (one_cons (RdSl.one r339) one_nil))) (by simp) rfl) rfl rfl ?_
      rintro _ wd344 H
      dsimp only [List.set] at H
      refine nq (Q_assign rfl) rfl rfl <| WL_nil <| x_then <| C_seq <| R_nd <| nq (Q_move rfl) rfl rfl <| WL_nil <| x_then ?_
      refine C_cond rfl (fun _ => ?_) (fun h => nomatch h)
      refine C_seq <| R_nd <| nq (v := .agg #[v1, v4, v7, v10, v13, v16]) (Q_ldB (k := 2) (cs := [v1, v4, v7, v10, v13, v16]) H.ok rfl ty162 rfl rfl rfl (fun h => nomatch h) rfl) rfl rfl <| nq (v := .pointer (some ⟨b342, 0, none⟩)) (Q_fld Tryz.underlying166 rfl ty164 (by decide) rfl rfl) rfl rfl <| nq (v := .agg #[.int .i64 x335, .int .i64 x336]) (Q_ldB (k := 0) (cs := [.int .i64 x335, .int .i64 x336]) H.ok rfl ty164 rfl rfl rfl (fun h => nomatch h) rfl) rfl rfl ?_
      obtain ⟨q345, hq345, hB328⟩ := bnd hB328
      refine ne (E_call fn103 rfl (c_103 H gle  r3 r6 r9 r12 r15 r18 hq345)) rfl rfl ?_
      rintro _ wd349 ⟨x347, x348, rfl, rfl, H⟩
      try dsimp only at hB328
      refine nq (Q_move rfl) rfl rfl <| nq (Q_extract rfl rfl) rfl rfl <| nq (Q_extract rfl rfl) rfl rfl <| nq (Q_assign rfl) rfl rfl <| nq (Q_assign rfl) rfl rfl <| WL_nil <| x_then <| C_seq <| R_nd <| nq (Q_move rfl) rfl rfl <| nq (v := .pointer (some ⟨b342, 2, none⟩)) (Q_fld Tryz.underlying166 rfl ty42 (by decide) rfl rfl) rfl rfl <| nq (v := v334) (Q_ldB (k := 0) (cs := [v334]) H.ok rfl ty42 rfl rfl rfl (fun _ => rfl) rfl) rfl rfl <| nq (Q_move rfl) rfl rfl <| nq (Q_move rfl) rfl rfl ?_
      refine nq (v := .agg #[.int .i64 x303, v334, .int .i64 x347, .int .i64 x348]) (Q_buildS st90.choose_spec (ps := [(0, [.int .i64 x303]), (1, [v334]), (2, [.int .i64 x347]), (3, [.int .i64 x348])]) rfl ⟨rfl, rfl, by simp, ⟨rfl, (RdSl.cells r339), by simp, ⟨rfl, rfl, by simp, ⟨rfl, rfl, by simp, trivial⟩⟩⟩⟩ rfl) rfl rfl <| ne (E_stB (k := 1) (cs := [.int .i64 x303, v334, .int .i64 x347, .int .i64 x348]) (vs' := [.int .i64 x303, v334, .int .i64 x347, .int .i64 x348]) H rfl ty90 rfl rfl rfl rfl (one_cons rfl (one_cons (RdSl.one r339) (one_cons rfl (one_cons rfl one_nil)))) (by simp) rfl) rfl rfl ?_
      rintro _ wd350 H
      dsimp only [List.set] at H
      refine nq (Q_assign rfl) rfl rfl <| WL_nil <| x_then <| C_ret <| x_block_ret <| x_then_ret <| x_then_ret <| x_block_ret <| x_then_ret <| x_then_ret ?_
      have hRV : RV Tryz.prog wd350 [(4, .pointer (some ⟨b195, 0, none⟩)), (5, .bool true)] [.cell 4 90, .tmp 5] [.agg #[.int .i64 x303, v334, .int .i64 x347, .int .i64 x348], .bool true] := ⟨⟨_, rfl, run_ldv ty90 rfl (fun h => nomatch h) (box_at (H.ok.get (k := 1) rfl) 0 4)⟩, rfl, trivial⟩
      replace H := H.e2.e1.e0
      obtain rfl := Option.some.inj hB328
      obtain rfl := hO329 _ rfl
      obtain rfl := Option.some.inj (show some _ = some _ from hF)
      exact fn_retV (rs := [.cell 4 90, .tmp 5]) (vs := [.agg #[.int .i64 x303, v334, .int .i64 x347, .int .i64 x348], .bool true]) rfl hRV (.inr ⟨ρ, v334, x303, x337, x347, x348, rfl, rfl, (View.le_trans lw331 lw338), r339, H⟩)
     ·try dsimp only at hB328
      replace r3 := RdSl.up lw340 r3
      replace r6 := RdSl.up lw340 r6
      replace r9 := RdSl.up lw340 r9
      replace r12 := RdSl.up lw340 r12
      replace r15 := RdSl.up lw340 r15
      replace r18 := RdSl.up lw340 r18
      replace gle := GErrs.up lw340 gle
      refine nq (Q_move rfl) rfl rfl <| nq (Q_extract rfl rfl) rfl rfl <| nq (Q_extract rfl rfl) rfl rfl <| ne (E_alloc H ty166 (zs := [.int .i64 0, .int .i64 0, .slice none 0 0]) rfl) rfl rfl ?_
      rintro _ wd352 ⟨b351, rfl, H⟩
      refine ne (E_stB (k := 0) (cs := [.int .i64 0, .int .i64 0, (.slice none 0 0)]) (vs' := [.int .i64 0, .int .i64 0, (.slice none 0 0)]) H rfl ty166 rfl rfl rfl rfl (one_cons rfl (one_cons rfl (one_cons (arr_cells (H.ok.get (k := 1) rfl)).2 one_nil))) (by simp) rfl) rfl rfl ?_
      rintro _ wd353 H
      dsimp only [List.set] at H
      refine nq (Q_assign rfl) rfl rfl <| WL_nil <| x_then <| C_seq <| R_nd <| nq (Q_move rfl) rfl rfl <| WL_nil <| x_then ?_
      refine C_cond rfl (fun h => nomatch h) (fun _ => ?_)
      refine C_skip <| x_block <| x_then <| R_nd <| nq (Q_add rfl rfl) rfl rfl <| nq (Q_move rfl) rfl rfl <| WL_nil ?_
      replace H := H.e1.e0
      obtain rfl := Option.some.inj hB328
      refine x_A fun a hf => ⟨_, rfl, ρ, w64 (x303 + 1), (View.le_trans lw331 lw340), rfl, hf.sub ⟨rfl, rfl, rfl, rfl, trivial⟩, H⟩
    ·replace hB328 := itF hb hB328
     refine C_exit <| x_then_exit <| x_then_exit <| x_block_exit ?_
     replace H := H.e1
     obtain rfl := Option.some.inj hB328
     obtain rfl := hO329 _ rfl
     refine x_A fun a hf => ⟨ρ, lw331, rfl, hf.sub ⟨rfl, trivial⟩, H⟩
  ·rintro a wd354 ⟨ρ, lw355, rfl, hf, H⟩
   try dsimp only at hF
   replace gle := GErrs.up lw355 gle
   refine XX.at hf <| x_then <| C_seq <| R_nd <| nq (v := .agg #[.int .i64 0, .slice none 0 0, .int .i64 0, .int .i64 0]) (Q_buildS st90.choose_spec (ps := []) rfl trivial rfl) rfl rfl <| ne (E_stB (k := 0) (cs := [.int .i64 0, .slice none 0 0, .int .i64 0, .int .i64 0]) (vs' := [.int .i64 0, .slice none 0 0, .int .i64 0, .int .i64 0]) H rfl ty90 rfl rfl rfl rfl (one_cons rfl (one_cons rfl (one_cons rfl (one_cons rfl one_nil)))) (by simp) rfl) rfl rfl ?_
   rintro _ wd356 H
   dsimp only [List.set] at H
   refine nq (Q_assign rfl) rfl rfl <| WL_nil <| x_then <| C_ret ?_
   have H := H.nilArr 1
   have hRV : RV Tryz.prog wd356 [(4, .pointer (some ⟨b195, 0, none⟩)), (5, .bool false)] [.cell 4 90, .tmp 5] [.agg #[.int .i64 0, (.slice none 0 0), .int .i64 0, .int .i64 0], .bool false] := ⟨⟨_, rfl, run_ldv ty90 rfl (fun h => nomatch h) (box_at (H.ok.get (k := 1) rfl) 0 4)⟩, rfl, trivial⟩
   replace H := H.e1
   obtain rfl := Option.some.inj hF
   exact fn_retV (rs := [.cell 4 90, .tmp 5]) (vs := [.agg #[.int .i64 0, (.slice none 0 0), .int .i64 0, .int .i64 0], .bool false]) rfl hRV (.inl ⟨ρ, rfl, rfl, lw355, H⟩)
theorem c_50 {N : Nat} {C : Cx} {w : World} {ρ : View} {hs : List Hl} {gV : Nat → Value} (H : Hp C w ρ (hs)) (gle : GErrs ρ 394 errIds gV) (gl18 : GTab ρ 18 .u8 tab_math_bits_deBruijn64tab) {r : Bool} (hF : F_dofferlaw21_alive N = some r) :
  Calls Tryz.prog 50 [].toArray w (Rets (fun v w' => (∃ (ρ' : View) (x41 : Bool), x41 = r ∧ .bool x41 = v ∧ View.le ρ ρ' ∧ Hp C w' ρ' (hs)))) := by
 unfold F_dofferlaw21_alive at hF
 have h0 : Tryz.f50.body = some _ := rfl
 refine fn_calls' Tryz.func50 h0 (n := 31) rfl (by simp) <| C_seq <| R_nd <| nq (Q_assign rfl) rfl rfl <| WL_nil <| x_then <| C_seq <| R_nd <| ne (E_call fn99 rfl (Cr.c_runD runD99_0 Cr.R256.up (fun hl => GTab.up hl gl18) H)) rfl rfl ?_
 rintro _ wd49 ⟨ρ, lw45, ⟨v42, v43, v44, rfl, r46, r47, r48⟩, H⟩
 replace gle := GErrs.up lw45 gle
 replace gl18 := GTab.up lw45 gl18
 refine ne (E_call fn99 rfl (Cr.c_runD runD99_1 Cr.R256.up (fun hl => GTab.up hl gl18) H)) rfl rfl ?_
 rintro _ wd57 ⟨ρ, lw53, ⟨v50, v51, v52, rfl, r54, r55, r56⟩, H⟩
 replace r46 := RdSl.up lw53 r46
 replace r47 := RdSl.up lw53 r47
 replace r48 := RdSl.up lw53 r48
 replace gle := GErrs.up lw53 gle
 replace gl18 := GTab.up lw53 gl18
 obtain ⟨q58, hq58, hF⟩ := bnd hF
 refine ne (E_call fn51 rfl (c_51 H gle  r46 r47 r48 r54 r55 r56 hq58)) rfl rfl ?_
 rintro _ wd68 (⟨ρ, rfl, rfl, lw60, H⟩ | ⟨ρ, v61, x62, x63, x64, x65, rfl, rfl, lw66, r67, H⟩)
 ·try dsimp only at hF
  replace r46 := RdSl.up lw60 r46
  replace r47 := RdSl.up lw60 r47
  replace r48 := RdSl.up lw60 r48
  replace r54 := RdSl.up lw60 r54
  replace r55 := RdSl.up lw60 r55
  replace r56 := RdSl.up lw60 r56
  replace gle := GErrs.up lw60 gle
  replace gl18 := GTab.up lw60 gl18
  refine nq (Q_move rfl) rfl rfl <| nq (Q_extract rfl rfl) rfl rfl <| nq (Q_extract rfl rfl) rfl rfl <| ne (E_alloc H ty90 (zs := [.int .i64 0, .slice none 0 0, .int .i64 0, .int .i64 0]) rfl) rfl rfl ?_
  rintro _ wd70 ⟨b69, rfl, H⟩
  refine ne (E_stB (k := 0) (cs := [.int .i64 0, (.slice none 0 0), .int .i64 0, .int .i64 0]) (vs' := [.int .i64 0, (.slice none 0 0), .int .i64 0, .int .i64 0]) H rfl ty90 rfl rfl rfl rfl (one_cons rfl (one_cons (arr_cells (H.ok.get (k := 1) rfl)).2 (one_cons rfl (one_cons rfl one_nil)))) (by simp) rfl) rfl rfl ?_
  rintro _ wd71 H
  dsimp only [List.set] at H
  refine nq (Q_assign rfl) rfl rfl <| WL_nil <| x_then ?_
  obtain ⟨o72, ho72, hF⟩ := bnd hF
  refine C_cut (fun a w' => Fr 31 a [(0, .bool false)] ∧ Hp C w' ρ (hs)) ?_ ?_
  ·refine R_nd <| nq (Q_move rfl) rfl rfl <| nq (Q_move rfl) rfl rfl <| gs rfl rfl rfl rfl <| gs rfl rfl rfl rfl <| gs rfl rfl rfl rfl <| nq (Q_pickF rfl rfl) rfl rfl <| nq (Q_move rfl) rfl rfl <| gs rfl rfl rfl rfl <| gs rfl rfl rfl rfl <| gs rfl rfl rfl rfl <| gs rfl rfl rfl rfl <| nq (Q_pickF rfl rfl) rfl rfl <| nq (Q_move rfl) rfl rfl ?_
   refine gs rfl rfl rfl rfl <| gs rfl rfl rfl rfl <| gs rfl rfl rfl rfl <| nq (Q_pickF rfl rfl) rfl rfl <| nq (Q_move rfl) rfl rfl <| gs rfl rfl rfl rfl <| gs rfl rfl rfl rfl <| gs rfl rfl rfl rfl <| nq (Q_pickF rfl rfl) rfl rfl <| nq (Q_assign rfl) rfl rfl <| WL_nil ?_
   replace H := H.e1.e0
   obtain rfl := Option.some.inj ho72
   refine x_A fun a hf => ⟨hf.sub ⟨rfl, trivial⟩, H⟩
  ·rintro a wd73 ⟨hf, H⟩
   try dsimp only at hF
   refine CW.at hf <| C_ret ?_
   obtain rfl := Option.some.inj hF
   exact fn_ret (l := [.tmp 0]) (vs := [.bool false]) rfl rfl rfl ⟨ρ, false, rfl, rfl, (View.le_trans lw45 (View.le_trans lw53 lw60)), H⟩
 ·try dsimp only at hF
  replace r46 := RdSl.up lw66 r46
  replace r47 := RdSl.up lw66 r47
  replace r48 := RdSl.up lw66 r48
  replace r54 := RdSl.up lw66 r54
  replace r55 := RdSl.up lw66 r55
  replace r56 := RdSl.up lw66 r56
  replace gle := GErrs.up lw66 gle
  replace gl18 := GTab.up lw66 gl18
  refine nq (Q_move rfl) rfl rfl <| nq (Q_extract rfl rfl) rfl rfl <| nq (Q_extract rfl rfl) rfl rfl <| ne (E_alloc H ty90 (zs := [.int .i64 0, .slice none 0 0, .int .i64 0, .int .i64 0]) rfl) rfl rfl ?_
  rintro _ wd75 ⟨b74, rfl, H⟩
  refine ne (E_stB (k := 0) (cs := [.int .i64 x62, v61, .int .i64 x64, .int .i64 x65]) (vs' := [.int .i64 x62, v61, .int .i64 x64, .int .i64 x65]) H rfl ty90 rfl rfl rfl rfl (one_cons rfl (one_cons (RdSl.one r67) (one_cons rfl (one_cons rfl one_nil)))) (by simp) rfl) rfl rfl ?_
  rintro _ wd76 H
  dsimp only [List.set] at H
  refine nq (Q_assign rfl) rfl rfl <| WL_nil <| x_then ?_
  obtain ⟨o79, ho79, hF⟩ := bnd hF
  refine C_cut (fun a w' => ∃ (x78 : Bool), x78 = o79 ∧ Fr 31 a [(0, .bool x78)] ∧ Hp C w' ρ (hs)) ?_ ?_
  ·refine R_nd <| nq (Q_move rfl) rfl rfl <| nq (Q_move rfl) rfl rfl <| gq (v := .pointer (some ⟨b74, 0, none⟩)) (Q_fld Tryz.underlying90 rfl ty3 (by decide) rfl rfl) rfl rfl rfl <| gq (v := .int .i64 x62) (Q_ldB (k := 0) (cs := [.int .i64 x62]) H.ok rfl ty3 rfl rfl rfl (fun _ => rfl) rfl) rfl rfl rfl <| gq (Q_eql rfl rfl) rfl rfl rfl <| nq (Q_pickT rfl rfl) rfl rfl <| nq (Q_move rfl) rfl rfl ?_
   rcases Bool.eq_false_or_eq_true (x62 == 0) with hb | hb
   ·rw [hb]
    replace ho79 := itT hb ho79
    refine gq (v := .pointer (some ⟨b74, 1, none⟩)) (Q_fld Tryz.underlying90 rfl ty42 (by decide) rfl rfl) rfl rfl rfl <| gq (v := v61) (Q_ldB (k := 0) (cs := [v61]) H.ok rfl ty42 rfl rfl rfl (fun _ => rfl) rfl) rfl rfl rfl <| ge (E_bstrR H Tryz.underlying42 Tryz.underlying5 Tryz.underlying9 rfl r67) rfl rfl rfl ?_
    rintro _ wd80 ⟨rfl, rfl⟩
    refine gq (v := .bool ((bstr x63).toList == (⟨#[97]⟩ : ByteArray).toList)) (Q_eqlStr Tryz.underlying9 rfl rfl) rfl rfl rfl <| nq (Q_pickT rfl rfl) rfl rfl <| nq (Q_move rfl) rfl rfl ?_
    rcases Bool.eq_false_or_eq_true ((bstr x63).toList == (⟨#[97]⟩ : ByteArray).toList) with hb | hb
    ·rw [hb]
     replace ho79 := itT hb ho79
     refine gq (v := .pointer (some ⟨b74, 2, none⟩)) (Q_fld Tryz.underlying90 rfl ty3 (by decide) rfl rfl) rfl rfl rfl <| gq (v := .int .i64 x64) (Q_ldB (k := 0) (cs := [.int .i64 x64]) H.ok rfl ty3 rfl rfl rfl (fun _ => rfl) rfl) rfl rfl rfl <| gq (Q_eql rfl rfl) rfl rfl rfl <| nq (Q_pickT rfl rfl) rfl rfl <| nq (Q_move rfl) rfl rfl ?_
     rcases Bool.eq_false_or_eq_true (x64 == 0) with hb | hb
     ·rw [hb]
      replace ho79 := itT hb ho79
      refine gq (v := .pointer (some ⟨b74, 3, none⟩)) (Q_fld Tryz.underlying90 rfl ty3 (by decide) rfl rfl) rfl rfl rfl <| gq (v := .int .i64 x65) (Q_ldB (k := 0) (cs := [.int .i64 x65]) H.ok rfl ty3 rfl rfl rfl (fun _ => rfl) rfl) rfl rfl rfl <| gq (Q_eql rfl rfl) rfl rfl rfl <| nq (Q_pickT rfl rfl) rfl rfl <| nq (Q_assign rfl) rfl rfl <| WL_nil ?_
      replace H := H.e0
      obtain rfl := Option.some.inj ho79
      refine x_A fun a hf => ⟨x65 == (-1), rfl, hf.sub ⟨rfl, trivial⟩, H⟩
     ·rw [hb]
      replace ho79 := itF hb ho79
      refine gs rfl rfl rfl rfl <| gs rfl rfl rfl rfl <| gs rfl rfl rfl rfl <| nq (Q_pickF rfl rfl) rfl rfl <| nq (Q_assign rfl) rfl rfl <| WL_nil ?_
      replace H := H.e0
      obtain rfl := Option.some.inj ho79
      refine x_A fun a hf => ⟨false, rfl, hf.sub ⟨rfl, trivial⟩, H⟩
    ·rw [hb]
     replace ho79 := itF hb ho79
     refine gs rfl rfl rfl rfl <| gs rfl rfl rfl rfl <| gs rfl rfl rfl rfl <| nq (Q_pickF rfl rfl) rfl rfl <| nq (Q_move rfl) rfl rfl <| gs rfl rfl rfl rfl <| gs rfl rfl rfl rfl <| gs rfl rfl rfl rfl <| nq (Q_pickF rfl rfl) rfl rfl <| nq (Q_assign rfl) rfl rfl <| WL_nil ?_
     replace H := H.e0
     obtain rfl := Option.some.inj ho79
     refine x_A fun a hf => ⟨false, rfl, hf.sub ⟨rfl, trivial⟩, H⟩
   ·rw [hb]
    replace ho79 := itF hb ho79
    refine gs rfl rfl rfl rfl <| gs rfl rfl rfl rfl <| gs rfl rfl rfl rfl <| gs rfl rfl rfl rfl <| nq (Q_pickF rfl rfl) rfl rfl <| nq (Q_move rfl) rfl rfl <| gs rfl rfl rfl rfl <| gs rfl rfl rfl rfl <| gs rfl rfl rfl rfl <| nq (Q_pickF rfl rfl) rfl rfl <| nq (Q_move rfl) rfl rfl <| gs rfl rfl rfl rfl <| gs rfl rfl rfl rfl <| gs rfl rfl rfl rfl ?_
    refine nq (Q_pickF rfl rfl) rfl rfl <| nq (Q_assign rfl) rfl rfl <| WL_nil ?_
    replace H := H.e0
    obtain rfl := Option.some.inj ho79
    refine x_A fun a hf => ⟨false, rfl, hf.sub ⟨rfl, trivial⟩, H⟩
  ·rintro a wd81 ⟨x78, rfl, hf, H⟩
   try dsimp only at hF
   refine CW.at hf <| C_ret ?_
   obtain rfl := Option.some.inj hF
   exact fn_ret (l := [.tmp 0]) (vs := [.bool x78]) rfl rfl rfl ⟨ρ, x78, rfl, rfl, (View.le_trans lw45 (View.le_trans lw53 lw66)), H⟩
theorem c_46 {N : Nat} {C : Cx} {w : World} {ρ : View} {hs : List Hl} {gV : Nat → Value} {v1 : Value} {v4 : Value} {v7 : Value} {x2 : (List (List Int))} {x5 : (List Int)} {x8 : (List Int)} {x10 : Int} (H : Hp C w ρ (hs)) (_gle : GErrs ρ 394 errIds gV) (r3 : RdSl ρ (eA 256 (eI .i64)) v1 x2) (r6 : RdSl ρ (eI .i64) v4 x5) (r9 : RdSl ρ (eI .i64) v7 x8) {r : ((List (List Int)) × Bool)} (hF : F_dofferlaw17_Of N x2 x5 x8 x10 = some r) :
  Calls Tryz.prog 46 [.agg #[v1, v4, v7], .int .i64 x10].toArray w (Rets (fun v w' => (∃ (v181 : Value) (c182 : (List Value)) (x183 : (List (List Int))) (x185 : Bool), (x183, x185) = r ∧ .tuple [.agg #[v181, v4, v7], .bool x185].toArray = v ∧ rdL (eA 256 (eI .i64)) ρ x183 c182 ∧ Hp C w' ρ (Arr v181 256 c182 :: hs)))) := by
 unfold F_dofferlaw17_Of at hF
 have h0 : Tryz.f46.body = some _ := rfl
 refine fn_calls' Tryz.func46 h0 (n := 48) rfl (by simp) <| C_seq <| R_nd <| ne (E_box H (vs := [v1, v4, v7]) rfl rfl) rfl rfl ?_
 rintro _ wd187 ⟨b186, rfl, H⟩
 refine ne (E_alloc H ty81 (zs := [.slice none 0 0, .slice none 0 0, .slice none 0 0]) rfl) rfl rfl ?_
 rintro _ wd189 ⟨b188, rfl, H⟩
 refine nq (Q_assign rfl) rfl rfl <| WL_nil <| x_then <| C_seq <| R_nd <| nq (v := .pointer (some ⟨b186, 1, none⟩)) (Q_fld Tryz.underlying78 rfl ty23 (by decide) rfl rfl) rfl rfl <| nq (v := v4) (Q_ldB (k := 1) (cs := [v4]) H.ok rfl ty23 rfl rfl rfl (fun _ => rfl) rfl) rfl rfl <| nq (v := .pointer (some ⟨b186, 2, none⟩)) (Q_fld Tryz.underlying78 rfl ty23 (by decide) rfl rfl) rfl rfl <| nq (v := v7) (Q_ldB (k := 1) (cs := [v7]) H.ok rfl ty23 rfl rfl rfl (fun _ => rfl) rfl) rfl rfl <| nq (v := .agg #[.slice none 0 0, v4, v7]) (Q_buildS st81.choose_spec (ps := [(1, [v4]), (2, [v7])]) rfl ⟨rfl, (RdSl.cells r6), by simp, ⟨rfl, (RdSl.cells r9), by simp, trivial⟩⟩ rfl) rfl rfl <| ne (E_alloc H ty81 (zs := [.slice none 0 0, .slice none 0 0, .slice none 0 0]) rfl) rfl rfl ?_
 rintro _ wd191 ⟨b190, rfl, H⟩
 refine ne (E_stB (k := 0) (cs := [.slice none 0 0, v4, v7]) (vs' := [.slice none 0 0, v4, v7]) H rfl ty81 rfl rfl rfl rfl (one_cons rfl (one_cons (RdSl.one r6) (one_cons (RdSl.one r9) one_nil))) (by simp) rfl) rfl rfl ?_
 rintro _ wd192 H
 dsimp only [List.set] at H
 refine WL_nil <| x_then <| C_seq ?_
 obtain ⟨o194, ho194, hF⟩ := bnd hF
 refine C_cut (fun a w' => ∃ (x193 : Bool), x193 = o194 ∧ Fr 48 a [(2, .pointer (some ⟨b186, 0, none⟩)), (4, .pointer (some ⟨b188, 0, none⟩)), (6, .pointer (some ⟨b190, 0, none⟩)), (31, .bool x193)] ∧ Hp C w' ρ (Box b186 [v1, v4, v7] :: Box b188 [.slice none 0 0, .slice none 0 0, .slice none 0 0] :: Box b190 [.slice none 0 0, v4, v7] :: hs)) ?_ ?_
 ·refine R_nd <| nq (v := .pointer (some ⟨b186, 0, none⟩)) (Q_fld Tryz.underlying78 rfl ty76 (by decide) rfl rfl) rfl rfl <| nq (v := v1) (Q_ldB (k := 2) (cs := [v1]) H.ok rfl ty76 rfl rfl rfl (fun _ => rfl) rfl) rfl rfl <| nq (Q_len Tryz.underlying76 rfl r3) rfl rfl <| nq (Q_move rfl) rfl rfl <| nq (Q_gtr rfl rfl) rfl rfl <| nq (Q_move rfl) rfl rfl ?_
  rcases Bool.eq_false_or_eq_true (decide ((x2.length : Int) > x10)) with hb | hb
  ·rw [hb]
   replace ho194 := itT hb ho194
   refine gs rfl rfl rfl rfl <| gs rfl rfl rfl rfl <| gs rfl rfl rfl rfl <| gs rfl rfl rfl rfl <| gs rfl rfl rfl rfl <| nq (Q_pickT rfl rfl) rfl rfl <| nq (Q_move rfl) rfl rfl <| gs rfl rfl rfl rfl <| gs rfl rfl rfl rfl <| gs rfl rfl rfl rfl <| gs rfl rfl rfl rfl <| nq (Q_pickT rfl rfl) rfl rfl <| WL_nil ?_
   replace H := H.f1.f2
   obtain rfl := Option.some.inj ho194
   refine x_A fun a hf => ⟨true, rfl, hf.sub ⟨rfl, rfl, rfl, rfl, trivial⟩, H⟩
  ·rw [hb]
   replace ho194 := itF hb ho194
   refine gq (v := .pointer (some ⟨b186, 1, none⟩)) (Q_fld Tryz.underlying78 rfl ty23 (by decide) rfl rfl) rfl rfl rfl <| gq (v := v4) (Q_ldB (k := 2) (cs := [v4]) H.ok rfl ty23 rfl rfl rfl (fun _ => rfl) rfl) rfl rfl rfl <| gq (Q_len Tryz.underlying23 rfl r6) rfl rfl rfl <| gq (Q_move rfl) rfl rfl rfl <| gq (Q_gtr rfl rfl) rfl rfl rfl <| nq (Q_pickF rfl rfl) rfl rfl <| nq (Q_move rfl) rfl rfl ?_
   rcases Bool.eq_false_or_eq_true (decide ((x5.length : Int) > x10)) with hb | hb
   ·rw [hb]
    replace ho194 := itT hb ho194
    refine gs rfl rfl rfl rfl <| gs rfl rfl rfl rfl <| gs rfl rfl rfl rfl <| gs rfl rfl rfl rfl <| nq (Q_pickT rfl rfl) rfl rfl <| WL_nil ?_
    replace H := H.f1.f2
    obtain rfl := Option.some.inj ho194
    refine x_A fun a hf => ⟨true, rfl, hf.sub ⟨rfl, rfl, rfl, rfl, trivial⟩, H⟩
   ·rw [hb]
    replace ho194 := itF hb ho194
    refine gq (v := .pointer (some ⟨b186, 2, none⟩)) (Q_fld Tryz.underlying78 rfl ty23 (by decide) rfl rfl) rfl rfl rfl <| gq (v := v7) (Q_ldB (k := 2) (cs := [v7]) H.ok rfl ty23 rfl rfl rfl (fun _ => rfl) rfl) rfl rfl rfl <| gq (Q_len Tryz.underlying23 rfl r9) rfl rfl rfl <| gq (Q_gtr rfl rfl) rfl rfl rfl <| nq (Q_pickF rfl rfl) rfl rfl <| WL_nil ?_
    replace H := H.f1.f2
    obtain rfl := Option.some.inj ho194
    refine x_A fun a hf => ⟨decide ((x8.length : Int) > 20), rfl, hf.sub ⟨rfl, rfl, rfl, rfl, trivial⟩, H⟩
 ·rintro a wd195 ⟨x193, rfl, hf, H⟩
  try dsimp only at hF
  refine CW.at hf ?_
  refine C_cond rfl (fun hb => ?_) (fun hb => ?_)
  ·replace hF := itT hb hF
   refine C_seq <| R_nd <| nq (v := .agg #[.slice none 0 0, v4, v7]) (Q_ldB (k := 2) (cs := [.slice none 0 0, v4, v7]) H.ok rfl ty81 rfl rfl rfl (fun h => nomatch h) rfl) rfl rfl <| ne (E_stB (k := 1) (cs := [.slice none 0 0, v4, v7]) (vs' := [.slice none 0 0, v4, v7]) H rfl ty81 rfl rfl rfl rfl (one_cons rfl (one_cons (RdSl.one r6) (one_cons (RdSl.one r9) one_nil))) (by simp) rfl) rfl rfl ?_
   rintro _ wd196 H
   dsimp only [List.set] at H
   refine nq (Q_assign rfl) rfl rfl <| WL_nil <| x_then <| C_ret <| x_then_ret ?_
   have H := H.nilArr 256
   have hRV : RV Tryz.prog wd196 [(4, .pointer (some ⟨b188, 0, none⟩)), (5, .bool false)] [.cell 4 81, .tmp 5] [.agg #[(.slice none 0 0), v4, v7], .bool false] := ⟨⟨_, rfl, run_ldv ty81 rfl (fun h => nomatch h) (box_at (H.ok.get (k := 2) rfl) 0 3)⟩, rfl, trivial⟩
   replace H := H.e3.e2.e1
   obtain rfl := Option.some.inj hF
   exact fn_retV (rs := [.cell 4 81, .tmp 5]) (vs := [.agg #[(.slice none 0 0), v4, v7], .bool false]) rfl hRV ⟨(.slice none 0 0), [], [], false, rfl, rfl, rdL.nil, H⟩
  ·replace hF := itF hb hF
   refine C_skip <| x_then <| C_seq <| C_seq <| R_nd <| nq (v := .pointer (some ⟨b186, 0, none⟩)) (Q_fld Tryz.underlying78 rfl ty76 (by decide) rfl rfl) rfl rfl <| nq (v := v1) (Q_ldB (k := 0) (cs := [v1]) H.ok rfl ty76 rfl rfl rfl (fun _ => rfl) rfl) rfl rfl <| nq (Q_len Tryz.underlying76 rfl r3) rfl rfl <| nq (Q_move rfl) rfl rfl <| WL_nil <| x_then ?_
   obtain ⟨o277, ho277, hF⟩ := bnd hF
   refine C_cutQ (fun a w' => ∃ (v273 : Value) (c274 : (List Value)) (x275 : (List (List Int))), x275 = o277 ∧ rdL (eA 256 (eI .i64)) ρ x275 c274 ∧ Fr 48 a [(4, .pointer (some ⟨b188, 0, none⟩)), (6, .pointer (some ⟨b190, 0, none⟩))] ∧ Hp C w' ρ (Box b188 [.slice none 0 0, .slice none 0 0, .slice none 0 0] :: Box b190 [v273, v4, v7] :: Arr v273 256 c274 :: hs)) ?_ ?_
   ·refine C_block ?_
    have H := H.nilArr 256
    replace H := H.e1.f2.f2
    refine C_iter (f := fun s => F_dofferlaw17_Of_l0 N x2 s.1 s.2) ho277 (fun s a w' => ∃ (v303 : Value) (c304 : (List Value)) (x302 : Int) (x305 : (List (List Int))), (x302, x305) = s ∧ rdL (eA 256 (eI .i64)) ρ x305 c304 ∧ Fr 48 a [(4, .pointer (some ⟨b188, 0, none⟩)), (6, .pointer (some ⟨b190, 0, none⟩)), (34, v1), (35, .int .i64 (x2.length : Int)), (36, .int .i64 x302)] ∧ Hp C w' ρ (Box b188 [.slice none 0 0, .slice none 0 0, .slice none 0 0] :: Box b190 [v303, v4, v7] :: Arr v303 256 c304 :: hs)) ?_ ?_
    ·exact fun a hf => ⟨(.slice none 0 0), [], 0, [], rfl, rdL.nil, hf.sub ⟨rfl, rfl, rfl, rfl, rfl, trivial⟩, H⟩
    ·rintro s o331 a wd334 ⟨v303, c304, x302, x305, rfl, r306, hf, H⟩ hB332 hO333
     replace hB332 : F_dofferlaw17_Of_l0 N x2 x302 x305 = some o331 := hB332
     unfold F_dofferlaw17_Of_l0 at hB332
     refine CW.at hf <| C_seq <| R_nd <| nq (Q_lss rfl rfl) rfl rfl <| WL_nil <| x_then <| C_seq ?_
     refine C_cond rfl (fun hb => ?_) (fun hb => ?_)
     ·replace hB332 := itT hb hB332
      refine C_skip <| x_then <| C_seq <| C_block <| C_seq <| R_nd ?_
      obtain ⟨x335, hx335, hB332⟩ := bnd hB332
      obtain ⟨b336, o337, c338, hc339, ha340, hi341⟩ := idxR r3 hx335
      refine nq (Q_idx hi341 Tryz.underlying76 ty88 rfl rfl) rfl rfl <| nq (v := .agg c338.toArray) (Q_ld (ha340.up H.ok.view) ty88 ((eA 256 (eI .i64)).len hc339) (fun h => nomatch h) rfl rfl) rfl rfl <| ne (E_allocA (N := 256) (n := 1) (zs := (repC 256 [.int .i64 0])) H ty88 rfl (by simp [repC_length])) rfl rfl ?_
      rintro _ wd343 ⟨b342, rfl, H⟩
      refine ne (E_stW (k := 0) H rfl ty88 rfl rfl (rdL.one hc339.2) (arr_clen (rdL_rep (e:=(eI .i64)) (ρ:=ρ) (rfl) 256) List.length_replicate) (arr_clen hc339.2 hc339.1)) rfl rfl ?_
      rintro _ wd344 H
      dsimp only [List.set] at H
      refine WL_nil <| x_then <| R_nd <| nq (v := .pointer (some ⟨b190, 0, none⟩)) (Q_fld Tryz.underlying81 rfl ty79 (by decide) rfl rfl) rfl rfl <| nq (v := v303) (Q_ldB (k := 2) (cs := [v303]) H.ok rfl ty79 rfl rfl rfl (fun _ => rfl) rfl) rfl rfl <| nq (Q_ldW (k := 0) H.ok rfl ty88 rfl (arr_clen hc339.2 hc339.1)) rfl rfl <| ne (E_bslice (xs := [.tmp 42]) (vs := [.agg c338.toArray]) H Tryz.underlying79 ty87 (by decide) (cs := c338) rfl (sz_cons (arr_clen hc339.2 hc339.1) sz_nil) (by simp [Value.cells]) (by simp) (by simp) rfl rfl) rfl rfl ?_
      rintro _ wd346 ⟨b345, rfl, H⟩
      obtain ⟨x347, hx347, hB332⟩ := bnd hB332
      obtain ⟨ha348a, ha348b⟩ := app_some hx347
      have r350 : rdL (eA 256 (eI .i64)) ρ x347 (c304 ++ c338) := ha348b ▸ rdL.app r306 (show rdL (eA 256 (eI .i64)) ρ ([x335]) c338 from rdL.single ⟨hc339.1, hc339.2⟩)
      refine ne (E_append (k := 4) H rfl Tryz.underlying79 ty87 rfl (by decide) (by decide) rfl rfl (Src.ofArr (k := 0) H.ok rfl) (rdL.one (show rdL (eA 256 (eI .i64)) ρ ([x335]) c338 from rdL.single ⟨hc339.1, hc339.2⟩)) (app_fit r306 (show rdL (eA 256 (eI .i64)) ρ ([x335]) c338 from rdL.single ⟨hc339.1, hc339.2⟩) ha348a)) rfl rfl ?_
      rintro v349 wd352 ⟨H, hc351⟩
      dsimp only [List.set] at H
      refine nq (v := .pointer (some ⟨b190, 0, none⟩)) (Q_fld Tryz.underlying81 rfl ty79 (by decide) rfl rfl) rfl rfl <| ne (E_stB (k := 3) (cs := [v349]) (vs' := [v349, v4, v7]) H rfl ty79 rfl rfl (arr_cells (H.ok.get (k := 4) rfl)).1 rfl (one_cons (arr_cells (H.ok.get (k := 4) rfl)).2 one_nil) (by simp) rfl) rfl rfl ?_
      rintro _ wd353 H
      dsimp only [List.set] at H
      refine WL_nil <| x_block <| x_then <| R_nd <| nq (Q_add rfl rfl) rfl rfl <| nq (Q_move rfl) rfl rfl <| WL_nil ?_
      replace H := H.e1.e0
      obtain rfl := Option.some.inj hB332
      refine x_A fun a hf => ⟨_, rfl, v349, (c304 ++ c338), w64 (x302 + 1), x347, rfl, r350, hf.sub ⟨rfl, rfl, rfl, rfl, rfl, trivial⟩, H⟩
     ·replace hB332 := itF hb hB332
      refine C_exit <| x_then_exit <| x_then_exit <| x_block_exit ?_
      obtain rfl := Option.some.inj hB332
      obtain rfl := hO333 _ rfl
      refine x_A fun a hf => ⟨v303, c304, x305, rfl, r306, hf.sub ⟨rfl, rfl, trivial⟩, H⟩
   ·rintro a wd354 ⟨v273, c274, x275, rfl, r276, hf, H⟩
    try dsimp only at hF
    refine XX.at hf <| x_then <| C_seq <| R_nd <| nq (v := .agg #[v273, v4, v7]) (Q_ldB (k := 1) (cs := [v273, v4, v7]) H.ok rfl ty81 rfl rfl rfl (fun h => nomatch h) rfl) rfl rfl <| ne (E_stB (k := 0) (cs := [v273, v4, v7]) (vs' := [v273, v4, v7]) H rfl ty81 rfl rfl rfl rfl (one_cons (arr_cells (H.ok.get (k := 2) rfl)).2 (one_cons (RdSl.one r6) (one_cons (RdSl.one r9) one_nil))) (by simp) rfl) rfl rfl ?_
    rintro _ wd355 H
    dsimp only [List.set] at H
    refine nq (Q_assign rfl) rfl rfl <| WL_nil <| x_then <| C_ret ?_
    have hRV : RV Tryz.prog wd355 [(4, .pointer (some ⟨b188, 0, none⟩)), (5, .bool true)] [.cell 4 81, .tmp 5] [.agg #[v273, v4, v7], .bool true] := ⟨⟨_, rfl, run_ldv ty81 rfl (fun h => nomatch h) (box_at (H.ok.get (k := 0) rfl) 0 3)⟩, rfl, trivial⟩
    replace H := H.e1.e0
    obtain rfl := Option.some.inj hF
    exact fn_retV (rs := [.cell 4 81, .tmp 5]) (vs := [.agg #[v273, v4, v7], .bool true]) rfl hRV ⟨v273, c274, x275, true, rfl, rfl, r276, H⟩
theorem c_52 {N : Nat} {C : Cx} {w : World} {ρ : View} {hs : List Hl} {gV : Nat → Value} {v1 : Value} {v4 : Value} {v7 : Value} {x2 : (List (List Int))} {x5 : (List Int)} {x8 : (List Int)} (H : Hp C w ρ (hs)) (_gle : GErrs ρ 394 errIds gV) (r3 : RdSl ρ (eA 256 (eI .i64)) v1 x2) (r6 : RdSl ρ (eI .i64) v4 x5) (r9 : RdSl ρ (eI .i64) v7 x8) {r : Bool} (hF : F_dofferref17_Right N x2 x5 x8 = some r) :
  Calls Tryz.prog 52 [.agg #[v1, v4, v7]].toArray w (Rets (fun v w' => (∃ (x600 : Bool), x600 = r ∧ .bool x600 = v ∧ Hp C w' ρ (hs)))) := by
 unfold F_dofferref17_Right at hF
 have h0 : Tryz.f52.body = some _ := rfl
 refine fn_calls' Tryz.func52 h0 (n := 101) rfl (by simp) <| C_seq <| R_nd <| ne (E_box H (vs := [v1, v4, v7]) rfl rfl) rfl rfl ?_
 rintro _ wd602 ⟨b601, rfl, H⟩
 refine nq (Q_assign rfl) rfl rfl <| WL_nil <| x_then <| C_seq <| R_nd <| nq (v := .pointer (some ⟨b601, 0, none⟩)) (Q_fld Tryz.underlying81 rfl ty79 (by decide) rfl rfl) rfl rfl <| nq (v := v1) (Q_ldB (k := 0) (cs := [v1]) H.ok rfl ty79 rfl rfl rfl (fun _ => rfl) rfl) rfl rfl <| nq (Q_len Tryz.underlying79 rfl r3) rfl rfl <| nq (Q_assign rfl) rfl rfl <| WL_nil <| x_then <| C_seq ?_
 obtain ⟨o604, ho604, hF⟩ := bnd hF
 refine C_cut (fun a w' => ∃ (x603 : Bool), x603 = o604 ∧ Fr 101 a [(1, .pointer (some ⟨b601, 0, none⟩)), (3, .int .i64 (x2.length : Int)), (37, .bool x603)] ∧ Hp C w' ρ (Box b601 [v1, v4, v7] :: hs)) ?_ ?_
 ·refine R_nd <| nq (Q_move rfl) rfl rfl <| nq (Q_lss rfl rfl) rfl rfl <| nq (Q_move rfl) rfl rfl ?_
  rcases Bool.eq_false_or_eq_true (decide ((x2.length : Int) < 1)) with hb | hb
  ·rw [hb]
   replace ho604 := itT hb ho604
   refine gs rfl rfl rfl rfl <| gs rfl rfl rfl rfl <| nq (Q_pickT rfl rfl) rfl rfl <| nq (Q_move rfl) rfl rfl <| gs rfl rfl rfl rfl <| gs rfl rfl rfl rfl <| gs rfl rfl rfl rfl <| gs rfl rfl rfl rfl <| gs rfl rfl rfl rfl <| nq (Q_pickT rfl rfl) rfl rfl <| nq (Q_move rfl) rfl rfl <| gs rfl rfl rfl rfl <| gs rfl rfl rfl rfl <| gs rfl rfl rfl rfl ?_
   refine gs rfl rfl rfl rfl <| nq (Q_pickT rfl rfl) rfl rfl <| nq (Q_move rfl) rfl rfl <| gs rfl rfl rfl rfl <| gs rfl rfl rfl rfl <| gs rfl rfl rfl rfl <| gs rfl rfl rfl rfl <| nq (Q_pickT rfl rfl) rfl rfl <| WL_nil ?_
   obtain rfl := Option.some.inj ho604
   refine x_A fun a hf => ⟨true, rfl, hf.sub ⟨rfl, rfl, rfl, trivial⟩, H⟩
  ·rw [hb]
   replace ho604 := itF hb ho604
   refine gq (Q_move rfl) rfl rfl rfl <| gq (Q_gtr rfl rfl) rfl rfl rfl <| nq (Q_pickF rfl rfl) rfl rfl <| nq (Q_move rfl) rfl rfl ?_
   rcases Bool.eq_false_or_eq_true (decide ((x2.length : Int) > 200)) with hb | hb
   ·rw [hb]
    replace ho604 := itT hb ho604
    refine gs rfl rfl rfl rfl <| gs rfl rfl rfl rfl <| gs rfl rfl rfl rfl <| gs rfl rfl rfl rfl <| gs rfl rfl rfl rfl <| nq (Q_pickT rfl rfl) rfl rfl <| nq (Q_move rfl) rfl rfl <| gs rfl rfl rfl rfl <| gs rfl rfl rfl rfl <| gs rfl rfl rfl rfl <| gs rfl rfl rfl rfl <| nq (Q_pickT rfl rfl) rfl rfl <| nq (Q_move rfl) rfl rfl <| gs rfl rfl rfl rfl ?_
    refine gs rfl rfl rfl rfl <| gs rfl rfl rfl rfl <| gs rfl rfl rfl rfl <| nq (Q_pickT rfl rfl) rfl rfl <| WL_nil ?_
    obtain rfl := Option.some.inj ho604
    refine x_A fun a hf => ⟨true, rfl, hf.sub ⟨rfl, rfl, rfl, trivial⟩, H⟩
   ·rw [hb]
    replace ho604 := itF hb ho604
    refine gq (v := .pointer (some ⟨b601, 1, none⟩)) (Q_fld Tryz.underlying81 rfl ty23 (by decide) rfl rfl) rfl rfl rfl <| gq (v := v4) (Q_ldB (k := 0) (cs := [v4]) H.ok rfl ty23 rfl rfl rfl (fun _ => rfl) rfl) rfl rfl rfl <| gq (Q_len Tryz.underlying23 rfl r6) rfl rfl rfl <| gq (Q_move rfl) rfl rfl rfl <| gq (Q_neq rfl rfl) rfl rfl rfl <| nq (Q_pickF rfl rfl) rfl rfl <| nq (Q_move rfl) rfl rfl ?_
    rcases Bool.eq_false_or_eq_true ((x5.length : Int) != (x2.length : Int)) with hb | hb
    ·rw [hb]
     replace ho604 := itT hb ho604
     refine gs rfl rfl rfl rfl <| gs rfl rfl rfl rfl <| gs rfl rfl rfl rfl <| gs rfl rfl rfl rfl <| nq (Q_pickT rfl rfl) rfl rfl <| nq (Q_move rfl) rfl rfl <| gs rfl rfl rfl rfl <| gs rfl rfl rfl rfl <| gs rfl rfl rfl rfl <| gs rfl rfl rfl rfl <| nq (Q_pickT rfl rfl) rfl rfl <| WL_nil ?_
     obtain rfl := Option.some.inj ho604
     refine x_A fun a hf => ⟨true, rfl, hf.sub ⟨rfl, rfl, rfl, trivial⟩, H⟩
    ·rw [hb]
     replace ho604 := itF hb ho604
     refine gq (v := .pointer (some ⟨b601, 2, none⟩)) (Q_fld Tryz.underlying81 rfl ty23 (by decide) rfl rfl) rfl rfl rfl <| gq (v := v7) (Q_ldB (k := 0) (cs := [v7]) H.ok rfl ty23 rfl rfl rfl (fun _ => rfl) rfl) rfl rfl rfl <| gq (Q_len Tryz.underlying23 rfl r9) rfl rfl rfl <| gq (Q_lss rfl rfl) rfl rfl rfl <| nq (Q_pickF rfl rfl) rfl rfl <| nq (Q_move rfl) rfl rfl ?_
     rcases Bool.eq_false_or_eq_true (decide ((x8.length : Int) < 1)) with hb | hb
     ·rw [hb]
      replace ho604 := itT hb ho604
      refine gs rfl rfl rfl rfl <| gs rfl rfl rfl rfl <| gs rfl rfl rfl rfl <| gs rfl rfl rfl rfl <| nq (Q_pickT rfl rfl) rfl rfl <| WL_nil ?_
      obtain rfl := Option.some.inj ho604
      refine x_A fun a hf => ⟨true, rfl, hf.sub ⟨rfl, rfl, rfl, trivial⟩, H⟩
     ·rw [hb]
      replace ho604 := itF hb ho604
      refine gq (v := .pointer (some ⟨b601, 2, none⟩)) (Q_fld Tryz.underlying81 rfl ty23 (by decide) rfl rfl) rfl rfl rfl <| gq (v := v7) (Q_ldB (k := 0) (cs := [v7]) H.ok rfl ty23 rfl rfl rfl (fun _ => rfl) rfl) rfl rfl rfl <| gq (Q_len Tryz.underlying23 rfl r9) rfl rfl rfl <| gq (Q_gtr rfl rfl) rfl rfl rfl <| nq (Q_pickF rfl rfl) rfl rfl <| WL_nil ?_
      obtain rfl := Option.some.inj ho604
      refine x_A fun a hf => ⟨decide ((x8.length : Int) > 8), rfl, hf.sub ⟨rfl, rfl, rfl, trivial⟩, H⟩
 ·rintro a wd605 ⟨x603, rfl, hf, H⟩
  try dsimp only at hF
  refine CW.at hf ?_
  refine C_cond rfl (fun hb => ?_) (fun hb => ?_)
  ·replace hF := itT hb hF
   refine C_seq <| R_nd <| nq (Q_assign rfl) rfl rfl <| WL_nil <| x_then <| C_ret <| x_then_ret ?_
   replace H := H.e0
   obtain rfl := Option.some.inj hF
   exact fn_ret (l := [.tmp 2]) (vs := [.bool false]) rfl rfl rfl ⟨false, rfl, rfl, H⟩
  ·replace hF := itF hb hF
   refine C_skip <| x_then <| C_seq <| C_seq <| R_nd <| nq (v := .pointer (some ⟨b601, 0, none⟩)) (Q_fld Tryz.underlying81 rfl ty79 (by decide) rfl rfl) rfl rfl <| nq (v := v1) (Q_ldB (k := 0) (cs := [v1]) H.ok rfl ty79 rfl rfl rfl (fun _ => rfl) rfl) rfl rfl <| nq (Q_len Tryz.underlying79 rfl r3) rfl rfl <| nq (Q_move rfl) rfl rfl <| WL_nil <| x_then ?_
   obtain ⟨o856, ho856, hF⟩ := bnd hF
   refine C_cutQ (fun a w' => .inl () = o856 ∧ Fr 101 a [(1, .pointer (some ⟨b601, 0, none⟩)), (3, .int .i64 (x2.length : Int))] ∧ Hp C w' ρ (Box b601 [v1, v4, v7] :: hs)) ?_ ?_
   ·refine C_block ?_
    refine C_iter (f := fun s => F_dofferref17_Right_l0 N x2 x5 s) ho856 (fun s a w' => ∃ (x939 : Int), x939 = s ∧ Fr 101 a [(1, .pointer (some ⟨b601, 0, none⟩)), (3, .int .i64 (x2.length : Int)), (39, v1), (40, .int .i64 (x2.length : Int)), (41, .int .i64 x939)] ∧ Hp C w' ρ (Box b601 [v1, v4, v7] :: hs)) ?_ ?_
    ·exact fun a hf => ⟨0, rfl, hf.sub ⟨rfl, rfl, rfl, rfl, rfl, trivial⟩, H⟩
    ·rintro s o1022 a wd1025 ⟨x939, rfl, hf, H⟩ hB1023 hO1024
     replace hB1023 : F_dofferref17_Right_l0 N x2 x5 x939 = some o1022 := hB1023
     unfold F_dofferref17_Right_l0 at hB1023
     refine CW.at hf <| C_seq <| R_nd <| nq (Q_lss rfl rfl) rfl rfl <| WL_nil <| x_then <| C_seq ?_
     refine C_cond rfl (fun hb => ?_) (fun hb => ?_)
     ·replace hB1023 := itT hb hB1023
      refine C_skip <| x_then <| C_seq <| C_block <| C_seq <| R_nd <| nq (Q_move rfl) rfl rfl ?_
      obtain ⟨x1026, hx1026, hB1023⟩ := bnd hB1023
      obtain ⟨b1027, o1028, c1029, hc1030, ha1031, hi1032⟩ := idxR r3 hx1026
      refine nq (Q_idx hi1032 Tryz.underlying79 ty87 rfl rfl) rfl rfl <| nq (v := .agg c1029.toArray) (Q_ld (ha1031.up H.ok.view) ty87 ((eA 256 (eI .i64)).len hc1030) (fun h => nomatch h) rfl rfl) rfl rfl <| ne (E_allocA (N := 256) (n := 1) (zs := (repC 256 [.int .i64 0])) H ty87 rfl (by simp [repC_length])) rfl rfl ?_
      rintro _ wd1034 ⟨b1033, rfl, H⟩
      refine nq (Q_assign rfl) rfl rfl <| ne (E_stW (k := 0) H rfl ty87 rfl rfl (rdL.one hc1030.2) (arr_clen (rdL_rep (e:=(eI .i64)) (ρ:=ρ) (rfl) 256) List.length_replicate) (arr_clen hc1030.2 hc1030.1)) rfl rfl ?_
      rintro _ wd1035 H
      dsimp only [List.set] at H
      refine WL_nil <| x_then <| C_seq ?_
      obtain ⟨o1051, ho1051, hB1023⟩ := bnd hB1023
      refine C_cut (fun a w' => ∃ (x1050 : Bool), x1050 = o1051 ∧ Fr 101 a [(1, .pointer (some ⟨b601, 0, none⟩)), (3, .int .i64 (x2.length : Int)), (4, .int .i64 x939), (5, .pointer (some ⟨b1033, 0, none⟩)), (39, v1), (40, .int .i64 (x2.length : Int)), (41, .int .i64 x939), (59, .bool x1050)] ∧ Hp C w' ρ (Box b601 [v1, v4, v7] :: Arr (.slice (some ⟨b1033, 0, none⟩) 256 256) 1 c1029 :: hs)) ?_ ?_
      ·refine R_nd <| nq (v := .pointer (some ⟨b601, 1, none⟩)) (Q_fld Tryz.underlying81 rfl ty23 (by decide) rfl rfl) rfl rfl <| nq (v := v4) (Q_ldB (k := 1) (cs := [v4]) H.ok rfl ty23 rfl rfl rfl (fun _ => rfl) rfl) rfl rfl <| nq (Q_move rfl) rfl rfl ?_
       obtain ⟨x1052, hx1052, ho1051⟩ := bnd ho1051
       obtain ⟨b1053, o1054, c1055, hc1056, ha1057, hi1058⟩ := idxR r6 hx1052
       refine nq (Q_idx hi1058 Tryz.underlying23 ty3 rfl rfl) rfl rfl <| nq (v := .int .i64 x1052) (Q_ld (show cellsAt _ _ _ [.int .i64 x1052] from (show _ = [_] from hc1056) ▸ (ha1057.up H.ok.view)) ty3 rfl (fun _ => rfl) rfl rfl) rfl rfl <| nq (Q_lss rfl rfl) rfl rfl <| nq (Q_move rfl) rfl rfl ?_
       rcases Bool.eq_false_or_eq_true (decide (x1052 < (-1))) with hb | hb
       ·rw [hb]
        replace ho1051 := itT hb ho1051
        refine gs rfl rfl rfl rfl <| gs rfl rfl rfl rfl <| gs rfl rfl rfl rfl <| gs rfl rfl rfl rfl <| gs rfl rfl rfl rfl <| gs rfl rfl rfl rfl <| nq (Q_pickT rfl rfl) rfl rfl <| WL_nil ?_
        replace H := H.f1
        obtain rfl := Option.some.inj ho1051
        refine x_A fun a hf => ⟨true, rfl, hf.sub ⟨rfl, rfl, rfl, rfl, rfl, rfl, rfl, rfl, trivial⟩, H⟩
       ·rw [hb]
        replace ho1051 := itF hb ho1051
        refine gq (v := .pointer (some ⟨b601, 1, none⟩)) (Q_fld Tryz.underlying81 rfl ty23 (by decide) rfl rfl) rfl rfl rfl <| gq (v := v4) (Q_ldB (k := 1) (cs := [v4]) H.ok rfl ty23 rfl rfl rfl (fun _ => rfl) rfl) rfl rfl rfl <| gq (Q_move rfl) rfl rfl rfl ?_
        obtain ⟨x1059, hx1059, ho1051⟩ := bnd ho1051
        obtain ⟨b1060, o1061, c1062, hc1063, ha1064, hi1065⟩ := idxR r6 hx1059
        refine gq (Q_idx hi1065 Tryz.underlying23 ty3 rfl rfl) rfl rfl rfl <| gq (v := .int .i64 x1059) (Q_ld (show cellsAt _ _ _ [.int .i64 x1059] from (show _ = [_] from hc1063) ▸ (ha1064.up H.ok.view)) ty3 rfl (fun _ => rfl) rfl rfl) rfl rfl rfl <| gq (Q_gtr rfl rfl) rfl rfl rfl <| nq (Q_pickF rfl rfl) rfl rfl <| WL_nil ?_
        replace H := H.f1
        obtain rfl := Option.some.inj ho1051
        refine x_A fun a hf => ⟨decide (x1059 > 47), rfl, hf.sub ⟨rfl, rfl, rfl, rfl, rfl, rfl, rfl, rfl, trivial⟩, H⟩
      ·rintro a wd1066 ⟨x1050, rfl, hf, H⟩
       try dsimp only at hB1023
       refine CW.at hf ?_
       refine C_cond rfl (fun hb => ?_) (fun hb => ?_)
       ·replace hB1023 := itT hb hB1023
        refine C_seq <| R_nd <| nq (Q_assign rfl) rfl rfl <| WL_nil <| x_then <| C_ret <| x_then_ret <| x_block_ret <| x_then_ret <| x_then_ret <| x_block_ret <| x_then_ret <| x_then_ret ?_
        replace H := H.e1.e0
        obtain rfl := Option.some.inj hB1023
        obtain rfl := hO1024 _ rfl
        obtain rfl := Option.some.inj (show some _ = some _ from hF)
        exact fn_ret (l := [.tmp 2]) (vs := [.bool false]) rfl rfl rfl ⟨false, rfl, rfl, H⟩
       ·replace hB1023 := itF hb hB1023
        refine C_skip <| x_then <| C_seq <| R_nd <| nq (Q_ldW (k := 1) H.ok rfl ty87 rfl (arr_clen hc1030.2 hc1030.1)) rfl rfl <| nq (Q_move rfl) rfl rfl <| WL_nil <| x_then ?_
        obtain ⟨o1086, ho1086, hB1023⟩ := bnd hB1023
        refine C_cutQ (fun a w' => .inl () = o1086 ∧ Fr 101 a [(1, .pointer (some ⟨b601, 0, none⟩)), (3, .int .i64 (x2.length : Int)), (39, v1), (40, .int .i64 (x2.length : Int)), (41, .int .i64 x939)] ∧ Hp C w' ρ (Box b601 [v1, v4, v7] :: hs)) ?_ ?_
        ·refine C_block ?_
         replace H := H.e1
         refine C_iter (f := fun s => F_dofferref17_Right_l1 N x2 x939 x1026 s) ho1086 (fun s a w' => ∃ (x1092 : Int), x1092 = s ∧ Fr 101 a [(1, .pointer (some ⟨b601, 0, none⟩)), (3, .int .i64 (x2.length : Int)), (4, .int .i64 x939), (39, v1), (40, .int .i64 (x2.length : Int)), (41, .int .i64 x939), (60, .agg c1029.toArray), (61, .int .i64 x1092)] ∧ Hp C w' ρ (Box b601 [v1, v4, v7] :: hs)) ?_ ?_
         ·exact fun a hf => ⟨0, rfl, hf.sub ⟨rfl, rfl, rfl, rfl, rfl, rfl, rfl, rfl, trivial⟩, H⟩
         ·rintro s o1098 a wd1101 ⟨x1092, rfl, hf, H⟩ hB1099 hO1100
          replace hB1099 : F_dofferref17_Right_l1 N x2 x939 x1026 x1092 = some o1098 := hB1099
          unfold F_dofferref17_Right_l1 at hB1099
          refine CW.at hf <| C_seq <| R_nd <| nq (Q_lss rfl rfl) rfl rfl <| WL_nil <| x_then <| C_seq ?_
          refine C_cond rfl (fun hb => ?_) (fun hb => ?_)
          ·replace hB1099 := itT hb hB1099
           refine C_skip <| x_then <| C_seq <| C_block <| C_seq <| R_nd ?_
           obtain ⟨x1102, hx1102, hB1099⟩ := bnd hB1099
           refine nq (Q_ixI hc1030.2 hc1030.1 hx1102 Tryz.underlying87 rfl rfl ty3 rfl) rfl rfl <| nq (Q_assign rfl) rfl rfl <| WL_nil <| x_then ?_
           obtain ⟨o1104, ho1104, hB1099⟩ := bnd hB1099
           refine C_cut (fun a w' => ∃ (x1103 : Bool), x1103 = o1104 ∧ Fr 101 a [(1, .pointer (some ⟨b601, 0, none⟩)), (3, .int .i64 (x2.length : Int)), (4, .int .i64 x939), (39, v1), (40, .int .i64 (x2.length : Int)), (41, .int .i64 x939), (60, .agg c1029.toArray), (61, .int .i64 x1092), (78, .bool x1103)] ∧ Hp C w' ρ (Box b601 [v1, v4, v7] :: hs)) ?_ ?_
           ·refine R_nd <| nq (Q_move rfl) rfl rfl <| nq (Q_lss rfl rfl) rfl rfl <| nq (Q_move rfl) rfl rfl ?_
            rcases Bool.eq_false_or_eq_true (decide (x1102 < 0)) with hb | hb
            ·rw [hb]
             replace ho1104 := itT hb ho1104
             refine gs rfl rfl rfl rfl <| gs rfl rfl rfl rfl <| gs rfl rfl rfl rfl <| nq (Q_pickT rfl rfl) rfl rfl <| nq (Q_move rfl) rfl rfl <| gs rfl rfl rfl rfl <| gs rfl rfl rfl rfl <| gs rfl rfl rfl rfl <| gsu rfl ⟨_, _, rfl, rfl, rfl⟩ rfl <| gsu rfl ⟨_, _, rfl, rfl, rfl⟩ rfl <| gs rfl rfl rfl rfl <| nq (Q_pickT rfl rfl) rfl rfl <| WL_nil ?_
             obtain rfl := Option.some.inj ho1104
             refine x_A fun a hf => ⟨true, rfl, hf.sub ⟨rfl, rfl, rfl, rfl, rfl, rfl, rfl, rfl, rfl, trivial⟩, H⟩
            ·rw [hb]
             replace ho1104 := itF hb ho1104
             refine gq (Q_move rfl) rfl rfl rfl <| gq (Q_move rfl) rfl rfl rfl <| gq (Q_geq rfl rfl) rfl rfl rfl <| nq (Q_pickF rfl rfl) rfl rfl <| nq (Q_move rfl) rfl rfl ?_
             rcases Bool.eq_false_or_eq_true (decide (x1102 ≥ (x2.length : Int))) with hb | hb
             ·rw [hb]
              replace ho1104 := itT hb ho1104
              refine gs rfl rfl rfl rfl <| gs rfl rfl rfl rfl <| gs rfl rfl rfl rfl <| gsu rfl ⟨_, _, rfl, rfl, rfl⟩ rfl <| gsu rfl ⟨_, _, rfl, rfl, rfl⟩ rfl <| gs rfl rfl rfl rfl <| nq (Q_pickT rfl rfl) rfl rfl <| WL_nil ?_
              obtain rfl := Option.some.inj ho1104
              refine x_A fun a hf => ⟨true, rfl, hf.sub ⟨rfl, rfl, rfl, rfl, rfl, rfl, rfl, rfl, rfl, trivial⟩, H⟩
             ·rw [hb]
              replace ho1104 := itF hb ho1104
              refine gq (Q_move rfl) rfl rfl rfl <| gq (Q_eql rfl rfl) rfl rfl rfl <| gq (Q_move rfl) rfl rfl rfl ?_
              rcases Bool.eq_false_or_eq_true (x939 == 0) with hb | hb
              ·rw [hb]
               replace ho1104 := itT hb ho1104
               refine gq (Q_move rfl) rfl rfl rfl <| gq (Q_neq rfl rfl) rfl rfl rfl <| gq (Q_pickT rfl rfl) rfl rfl rfl <| nq (Q_pickF rfl rfl) rfl rfl <| WL_nil ?_
               obtain rfl := Option.some.inj ho1104
               refine x_A fun a hf => ⟨x1102 != 0, rfl, hf.sub ⟨rfl, rfl, rfl, rfl, rfl, rfl, rfl, rfl, rfl, trivial⟩, H⟩
              ·rw [hb]
               replace ho1104 := itF hb ho1104
               refine gs rfl rfl rfl rfl <| gs rfl rfl rfl rfl <| gq (Q_pickF rfl rfl) rfl rfl rfl <| nq (Q_pickF rfl rfl) rfl rfl <| WL_nil ?_
               obtain rfl := Option.some.inj ho1104
               refine x_A fun a hf => ⟨false, rfl, hf.sub ⟨rfl, rfl, rfl, rfl, rfl, rfl, rfl, rfl, rfl, trivial⟩, H⟩
           ·rintro a wd1105 ⟨x1103, rfl, hf, H⟩
            try dsimp only at hB1099
            refine CW.at hf ?_
            refine C_cond rfl (fun hb => ?_) (fun hb => ?_)
            ·replace hB1099 := itT hb hB1099
             refine C_seq <| R_nd <| nq (Q_assign rfl) rfl rfl <| WL_nil <| x_then <| C_ret <| x_block_ret <| x_then_ret <| x_then_ret <| x_block_ret <| x_then_ret <| x_block_ret <| x_then_ret <| x_then_ret ?_
             refine x_block_ret <| x_then_ret <| x_then_ret ?_
             replace H := H.e0
             obtain rfl := Option.some.inj hB1099
             obtain rfl := hO1100 _ rfl
             obtain rfl := Option.some.inj (show some _ = some _ from hB1023)
             obtain rfl := hO1024 _ rfl
             obtain rfl := Option.some.inj (show some _ = some _ from hF)
             exact fn_ret (l := [.tmp 2]) (vs := [.bool false]) rfl rfl rfl ⟨false, rfl, rfl, H⟩
            ·replace hB1099 := itF hb hB1099
             refine C_skip <| x_block <| x_then <| R_nd <| nq (Q_add rfl rfl) rfl rfl <| nq (Q_move rfl) rfl rfl <| WL_nil ?_
             obtain rfl := Option.some.inj hB1099
             refine x_A fun a hf => ⟨_, rfl, w64 (x1092 + 1), rfl, hf.sub ⟨rfl, rfl, rfl, rfl, rfl, rfl, rfl, rfl, trivial⟩, H⟩
          ·replace hB1099 := itF hb hB1099
           refine C_exit <| x_then_exit <| x_then_exit <| x_block_exit ?_
           obtain rfl := Option.some.inj hB1099
           obtain rfl := hO1100 _ rfl
           refine x_A fun a hf => ⟨rfl, hf.sub ⟨rfl, rfl, rfl, rfl, rfl, trivial⟩, H⟩
        ·rintro a wd1106 ⟨rfl, hf, H⟩
         try dsimp only at hB1023
         refine XX.at hf <| x_block <| x_then <| R_nd <| nq (Q_add rfl rfl) rfl rfl <| nq (Q_move rfl) rfl rfl <| WL_nil ?_
         obtain rfl := Option.some.inj hB1023
         refine x_A fun a hf => ⟨_, rfl, w64 (x939 + 1), rfl, hf.sub ⟨rfl, rfl, rfl, rfl, rfl, trivial⟩, H⟩
     ·replace hB1023 := itF hb hB1023
      refine C_exit <| x_then_exit <| x_then_exit <| x_block_exit ?_
      obtain rfl := Option.some.inj hB1023
      obtain rfl := hO1024 _ rfl
      refine x_A fun a hf => ⟨rfl, hf.sub ⟨rfl, rfl, trivial⟩, H⟩
   ·rintro a wd1107 ⟨rfl, hf, H⟩
    try dsimp only at hF
    refine XX.at hf <| x_then <| C_seq <| C_seq <| R_nd <| nq (v := .pointer (some ⟨b601, 2, none⟩)) (Q_fld Tryz.underlying81 rfl ty23 (by decide) rfl rfl) rfl rfl <| nq (v := v7) (Q_ldB (k := 0) (cs := [v7]) H.ok rfl ty23 rfl rfl rfl (fun _ => rfl) rfl) rfl rfl <| nq (Q_len Tryz.underlying23 rfl r9) rfl rfl <| nq (Q_move rfl) rfl rfl <| WL_nil <| x_then ?_
    obtain ⟨o1145, ho1145, hF⟩ := bnd hF
    refine C_cutQ (fun a w' => .inl () = o1145 ∧ Fr 101 a [(1, .pointer (some ⟨b601, 0, none⟩))] ∧ Hp C w' ρ (Box b601 [v1, v4, v7] :: hs)) ?_ ?_
    ·refine C_block ?_
     refine C_iter (f := fun s => F_dofferref17_Right_l2 N x2 x8 s) ho1145 (fun s a w' => ∃ (x1157 : Int), x1157 = s ∧ Fr 101 a [(1, .pointer (some ⟨b601, 0, none⟩)), (3, .int .i64 (x2.length : Int)), (82, v7), (83, .int .i64 (x8.length : Int)), (84, .int .i64 x1157)] ∧ Hp C w' ρ (Box b601 [v1, v4, v7] :: hs)) ?_ ?_
     ·exact fun a hf => ⟨0, rfl, hf.sub ⟨rfl, rfl, rfl, rfl, rfl, trivial⟩, H⟩
     ·rintro s o1169 a wd1172 ⟨x1157, rfl, hf, H⟩ hB1170 hO1171
      replace hB1170 : F_dofferref17_Right_l2 N x2 x8 x1157 = some o1169 := hB1170
      unfold F_dofferref17_Right_l2 at hB1170
      refine CW.at hf <| C_seq <| R_nd <| nq (Q_lss rfl rfl) rfl rfl <| WL_nil <| x_then <| C_seq ?_
      refine C_cond rfl (fun hb => ?_) (fun hb => ?_)
      ·replace hB1170 := itT hb hB1170
       refine C_skip <| x_then <| C_seq <| C_block <| C_seq <| R_nd ?_
       obtain ⟨x1173, hx1173, hB1170⟩ := bnd hB1170
       obtain ⟨b1174, o1175, c1176, hc1177, ha1178, hi1179⟩ := idxR r9 hx1173
       refine nq (Q_idx hi1179 Tryz.underlying23 ty3 rfl rfl) rfl rfl <| nq (v := .int .i64 x1173) (Q_ld (show cellsAt _ _ _ [.int .i64 x1173] from (show _ = [_] from hc1177) ▸ (ha1178.up H.ok.view)) ty3 rfl (fun _ => rfl) rfl rfl) rfl rfl <| nq (Q_assign rfl) rfl rfl <| WL_nil <| x_then ?_
       obtain ⟨o1181, ho1181, hB1170⟩ := bnd hB1170
       refine C_cut (fun a w' => ∃ (x1180 : Bool), x1180 = o1181 ∧ Fr 101 a [(1, .pointer (some ⟨b601, 0, none⟩)), (3, .int .i64 (x2.length : Int)), (82, v7), (83, .int .i64 (x8.length : Int)), (84, .int .i64 x1157), (94, .bool x1180)] ∧ Hp C w' ρ (Box b601 [v1, v4, v7] :: hs)) ?_ ?_
       ·refine R_nd <| nq (Q_move rfl) rfl rfl <| nq (Q_lss rfl rfl) rfl rfl <| nq (Q_move rfl) rfl rfl ?_
        rcases Bool.eq_false_or_eq_true (decide (x1173 < 0)) with hb | hb
        ·rw [hb]
         replace ho1181 := itT hb ho1181
         refine gs rfl rfl rfl rfl <| gs rfl rfl rfl rfl <| gs rfl rfl rfl rfl <| nq (Q_pickT rfl rfl) rfl rfl <| WL_nil ?_
         obtain rfl := Option.some.inj ho1181
         refine x_A fun a hf => ⟨true, rfl, hf.sub ⟨rfl, rfl, rfl, rfl, rfl, rfl, trivial⟩, H⟩
        ·rw [hb]
         replace ho1181 := itF hb ho1181
         refine gq (Q_move rfl) rfl rfl rfl <| gq (Q_move rfl) rfl rfl rfl <| gq (Q_geq rfl rfl) rfl rfl rfl <| nq (Q_pickF rfl rfl) rfl rfl <| WL_nil ?_
         obtain rfl := Option.some.inj ho1181
         refine x_A fun a hf => ⟨decide (x1173 ≥ (x2.length : Int)), rfl, hf.sub ⟨rfl, rfl, rfl, rfl, rfl, rfl, trivial⟩, H⟩
       ·rintro a wd1182 ⟨x1180, rfl, hf, H⟩
        try dsimp only at hB1170
        refine CW.at hf ?_
        refine C_cond rfl (fun hb => ?_) (fun hb => ?_)
        ·replace hB1170 := itT hb hB1170
         refine C_seq <| R_nd <| nq (Q_assign rfl) rfl rfl <| WL_nil <| x_then <| C_ret <| x_block_ret <| x_then_ret <| x_then_ret <| x_block_ret <| x_then_ret <| x_then_ret ?_
         replace H := H.e0
         obtain rfl := Option.some.inj hB1170
         obtain rfl := hO1171 _ rfl
         obtain rfl := Option.some.inj (show some _ = some _ from hF)
         exact fn_ret (l := [.tmp 2]) (vs := [.bool false]) rfl rfl rfl ⟨false, rfl, rfl, H⟩
        ·replace hB1170 := itF hb hB1170
         refine C_skip <| x_block <| x_then <| R_nd <| nq (Q_add rfl rfl) rfl rfl <| nq (Q_move rfl) rfl rfl <| WL_nil ?_
         obtain rfl := Option.some.inj hB1170
         refine x_A fun a hf => ⟨_, rfl, w64 (x1157 + 1), rfl, hf.sub ⟨rfl, rfl, rfl, rfl, rfl, trivial⟩, H⟩
      ·replace hB1170 := itF hb hB1170
       refine C_exit <| x_then_exit <| x_then_exit <| x_block_exit ?_
       obtain rfl := Option.some.inj hB1170
       obtain rfl := hO1171 _ rfl
       refine x_A fun a hf => ⟨rfl, hf.sub ⟨rfl, trivial⟩, H⟩
    ·rintro a wd1183 ⟨rfl, hf, H⟩
     try dsimp only at hF
     refine XX.at hf <| x_then <| C_seq <| R_nd <| nq (v := .pointer (some ⟨b601, 1, none⟩)) (Q_fld Tryz.underlying81 rfl ty23 (by decide) rfl rfl) rfl rfl <| nq (v := v4) (Q_ldB (k := 0) (cs := [v4]) H.ok rfl ty23 rfl rfl rfl (fun _ => rfl) rfl) rfl rfl ?_
     obtain ⟨x1184, hx1184, hF⟩ := bnd hF
     obtain ⟨b1185, o1186, c1187, hc1188, ha1189, hi1190⟩ := idxR r6 hx1184
     refine nq (Q_idx hi1190 Tryz.underlying23 ty3 rfl rfl) rfl rfl <| nq (v := .int .i64 x1184) (Q_ld (show cellsAt _ _ _ [.int .i64 x1184] from (show _ = [_] from hc1188) ▸ (ha1189.up H.ok.view)) ty3 rfl (fun _ => rfl) rfl rfl) rfl rfl <| nq (Q_eql rfl rfl) rfl rfl <| nq (Q_assign rfl) rfl rfl <| WL_nil <| x_then <| C_ret ?_
     replace H := H.e0
     obtain rfl := Option.some.inj hF
     exact fn_ret (l := [.tmp 2]) (vs := [.bool (x1184 == (-1))]) rfl rfl rfl ⟨x1184 == (-1), rfl, rfl, H⟩
set_option maxHeartbeats 8000000 in
theorem c_104 {N : Nat} {C : Cx} {w : World} {ρ : View} {hs : List Hl} {gV : Nat → Value} {v1 : Value} {v4 : Value} {v7 : Value} {v10 : Value} {v13 : Value} {v16 : Value} {x2 : (List (List Int))} {x5 : (List Int)} {x8 : (List Int)} {x11 : (List (List Int))} {x14 : (List Int)} {x17 : (List Int)} {x19 : Int} (H : Hp C w ρ (hs)) (_gle : GErrs ρ 394 errIds gV) (r3 : RdSl ρ (eA 256 (eI .i64)) v1 x2) (r6 : RdSl ρ (eI .i64) v4 x5) (_r9 : RdSl ρ (eI .i64) v7 x8) (r12 : RdSl ρ (eA 256 (eI .i64)) v10 x11) (r15 : RdSl ρ (eI .i64) v13 x14) (_r18 : RdSl ρ (eI .i64) v16 x17) {r : (List (List Int))} (hF : F_dofferref21_Far N x2 x5 x8 x11 x14 x17 x19 = some r) :
  Calls Tryz.prog 104 [.agg #[v1, v4, v7], .agg #[v10, v13, v16], .int .i64 x19].toArray w (Rets (fun v w' => (∃ (v266217 : Value) (c266218 : (List Value)) (x266219 : (List (List Int))), x266219 = r ∧ v266217 = v ∧ Hp C w' ρ (NA (eI .i64) 1 v266217 c266218 x266219 :: hs)))) := by
 unfold F_dofferref21_Far at hF
 have h0 : Tryz.f104.body = some _ := rfl
 refine fn_calls' Tryz.func104 h0 (n := 141) rfl (by simp) <| C_seq <| R_nd <| ne (E_box H (vs := [v1, v4, v7]) rfl rfl) rfl rfl ?_
 rintro _ wd266221 ⟨b266220, rfl, H⟩
 refine ne (E_box H (vs := [v10, v13, v16]) rfl rfl) rfl rfl ?_
 rintro _ wd266223 ⟨b266222, rfl, H⟩
 refine nq (Q_assign rfl) rfl rfl <| WL_nil <| x_then <| C_seq <| R_nd <| ne (E_bslice0 H Tryz.underlying171 ty23) rfl rfl ?_
 rintro _ wd266225 ⟨b266224, rfl, H⟩
 replace H := H.njoin0 (eI .i64)
 refine nq (Q_assign rfl) rfl rfl <| WL_nil <| x_then <| C_seq <| C_seq <| R_nd <| nq (v := .pointer (some ⟨b266220, 0, none⟩)) (Q_fld Tryz.underlying81 rfl ty79 (by decide) rfl rfl) rfl rfl <| nq (v := v1) (Q_ldB (k := 2) (cs := [v1]) H.ok rfl ty79 rfl rfl rfl (fun _ => rfl) rfl) rfl rfl <| nq (Q_len Tryz.underlying79 rfl r3) rfl rfl <| nq (Q_move rfl) rfl rfl <| WL_nil <| x_then ?_
 obtain ⟨o270982, ho270982, hF⟩ := bnd hF
 refine C_cutQ (fun a w' => ∃ (v270979 : Value) (c270980 : (List Value)) (x270981 : (List (List Int))), x270981 = o270982 ∧ Fr 141 a [(3, .pointer (some ⟨b266220, 0, none⟩)), (4, .pointer (some ⟨b266222, 0, none⟩)), (7, v270979)] ∧ Hp C w' ρ (Box b266220 [v1, v4, v7] :: Box b266222 [v10, v13, v16] :: NA (eI .i64) 1 v270979 c270980 x270981 :: hs)) ?_ ?_
 ·refine C_block ?_
  replace H := H.f1.f2
  refine C_iter (f := fun s => F_dofferref21_Far_l0 N x2 x5 x11 x14 x19 s.1 s.2) ho270982 (fun s a w' => ∃ (v272567 : Value) (c272568 : (List Value)) (x272566 : Int) (x272569 : (List (List Int))), (x272566, x272569) = s ∧ Fr 141 a [(2, .int .i64 x19), (3, .pointer (some ⟨b266220, 0, none⟩)), (4, .pointer (some ⟨b266222, 0, none⟩)), (7, v272567), (19, .int .i64 (x2.length : Int)), (20, .int .i64 x272566)] ∧ Hp C w' ρ (Box b266220 [v1, v4, v7] :: Box b266222 [v10, v13, v16] :: NA (eI .i64) 1 v272567 c272568 x272569 :: hs)) ?_ ?_
  ·exact fun a hf => ⟨(.slice (some ⟨b266224, 0, none⟩) 0 0), [], 0, [], rfl, hf.sub ⟨rfl, rfl, rfl, rfl, rfl, rfl, trivial⟩, H⟩
  ·rintro s o274153 a wd274156 ⟨v272567, c272568, x272566, x272569, rfl, hf, H⟩ hB274154 hO274155
   replace hB274154 : F_dofferref21_Far_l0 N x2 x5 x11 x14 x19 x272566 x272569 = some o274153 := hB274154
   unfold F_dofferref21_Far_l0 at hB274154
   refine CW.at hf <| C_seq <| R_nd <| nq (Q_lss rfl rfl) rfl rfl <| WL_nil <| x_then <| C_seq ?_
   refine C_cond rfl (fun hb => ?_) (fun hb => ?_)
   ·replace hB274154 := itT hb hB274154
    refine C_skip <| x_then <| C_seq <| C_block <| C_seq <| R_nd <| nq (Q_move rfl) rfl rfl <| nq (Q_assign rfl) rfl rfl <| WL_nil <| x_then <| C_seq <| R_nd <| nq (v := .pointer (some ⟨b266222, 0, none⟩)) (Q_fld Tryz.underlying81 rfl ty79 (by decide) rfl rfl) rfl rfl <| nq (v := v10) (Q_ldB (k := 1) (cs := [v10]) H.ok rfl ty79 rfl rfl rfl (fun _ => rfl) rfl) rfl rfl ?_
    refine nq (Q_len Tryz.underlying79 rfl r12) rfl rfl ?_
    obtain ⟨x274157, hx274157, hB274154⟩ := bnd hB274154
    obtain ⟨hm274159a, hm274159b, hm274159c⟩ := mk_some hx274157
    refine ne (E_make H Tryz.underlying23 ty3 (zs := [.int .i64 0]) rfl rfl (by decide) (by decide) rfl hm274159a hm274159b) rfl rfl ?_
    rintro _ wd274160 ⟨b274158, rfl, H⟩
    refine nq (Q_assign rfl) rfl rfl <| WL_nil <| x_then <| C_seq <| C_seq <| R_nd <| nq (Q_move rfl) rfl rfl <| nq (Q_lenA (en := (eI .i64)) (k := 0) H.ok rfl (hm274159c ▸ rdL_rep (e := (eI .i64)) (ρ := ρ) (rfl) _) (by decide) Tryz.underlying23 rfl) rfl rfl <| nq (Q_move rfl) rfl rfl <| WL_nil <| x_then ?_
    obtain ⟨o274945, ho274945, hB274154⟩ := bnd hB274154
    refine C_cutQ (fun a w' => ∃ (c274942 : (List Value)) (x274943 : (List Int)), x274943 = o274945 ∧ rdL (eI .i64) ρ x274943 c274942 ∧ Fr 141 a [(2, .int .i64 x19), (3, .pointer (some ⟨b266220, 0, none⟩)), (4, .pointer (some ⟨b266222, 0, none⟩)), (7, v272567), (9, (.slice (some ⟨b274158, 0, none⟩) (x11.length : Int).toNat (x11.length : Int).toNat)), (19, .int .i64 (x2.length : Int)), (20, .int .i64 x272566)] ∧ Hp C w' ρ (Box b266220 [v1, v4, v7] :: Box b266222 [v10, v13, v16] :: NA (eI .i64) 1 v272567 c272568 x272569 :: Arr (.slice (some ⟨b274158, 0, none⟩) (x11.length : Int).toNat (x11.length : Int).toNat) 1 c274942 :: hs)) ?_ ?_
    ·refine C_block ?_
     replace H := H.f3.f3.f3
     refine C_iter (f := fun s => F_dofferref21_Far_l1 N x5 x14 x19 x272566 x274157 s.1 s.2) ho274945 (fun s a w' => ∃ (c275206 : (List Value)) (x275205 : Int) (x275207 : (List Int)), (x275205, x275207) = s ∧ rdL (eI .i64) ρ x275207 c275206 ∧ Fr 141 a [(2, .int .i64 x19), (3, .pointer (some ⟨b266220, 0, none⟩)), (4, .pointer (some ⟨b266222, 0, none⟩)), (7, v272567), (8, .int .i64 x272566), (9, (.slice (some ⟨b274158, 0, none⟩) (x11.length : Int).toNat (x11.length : Int).toNat)), (19, .int .i64 (x2.length : Int)), (20, .int .i64 x272566), (28, .int .i64 (x274157.length : Int)), (29, .int .i64 x275205)] ∧ Hp C w' ρ (Box b266220 [v1, v4, v7] :: Box b266222 [v10, v13, v16] :: NA (eI .i64) 1 v272567 c272568 x272569 :: Arr (.slice (some ⟨b274158, 0, none⟩) (x11.length : Int).toNat (x11.length : Int).toNat) 1 c275206 :: hs)) ?_ ?_
     ·exact fun a hf => ⟨(repC (x11.length : Int).toNat [.int .i64 0]), 0, x274157, rfl, (hm274159c ▸ rdL_rep (e := (eI .i64)) (ρ := ρ) (rfl) _), hf.sub ⟨rfl, rfl, rfl, rfl, rfl, rfl, rfl, rfl, rfl, rfl, trivial⟩, H⟩
     ·rintro s o275468 a wd275471 ⟨c275206, x275205, x275207, rfl, r275208, hf, H⟩ hB275469 hO275470
      replace hB275469 : F_dofferref21_Far_l1 N x5 x14 x19 x272566 x274157 x275205 x275207 = some o275468 := hB275469
      unfold F_dofferref21_Far_l1 at hB275469
      refine CW.at hf <| C_seq <| R_nd <| nq (Q_lss rfl rfl) rfl rfl <| WL_nil <| x_then <| C_seq ?_
      refine C_cond rfl (fun hb => ?_) (fun hb => ?_)
      ·replace hB275469 := itT hb hB275469
       refine C_skip <| x_then ?_
       obtain ⟨o275600, ho275600, hB275469⟩ := bnd hB275469
       refine C_cut (fun a w' => ∃ (c275597 : (List Value)) (x275598 : (List Int)), x275598 = o275600 ∧ rdL (eI .i64) ρ x275598 c275597 ∧ Fr 141 a [(2, .int .i64 x19), (3, .pointer (some ⟨b266220, 0, none⟩)), (4, .pointer (some ⟨b266222, 0, none⟩)), (7, v272567), (8, .int .i64 x272566), (9, (.slice (some ⟨b274158, 0, none⟩) (x11.length : Int).toNat (x11.length : Int).toNat)), (19, .int .i64 (x2.length : Int)), (20, .int .i64 x272566), (28, .int .i64 (x274157.length : Int)), (29, .int .i64 x275205)] ∧ Hp C w' ρ (Box b266220 [v1, v4, v7] :: Box b266222 [v10, v13, v16] :: NA (eI .i64) 1 v272567 c272568 x272569 :: Arr (.slice (some ⟨b274158, 0, none⟩) (x11.length : Int).toNat (x11.length : Int).toNat) 1 c275597 :: hs)) ?_ ?_
       ·refine C_block <| C_seq <| R_nd <| nq (Q_move rfl) rfl rfl <| nq (Q_assign rfl) rfl rfl <| WL_nil <| x_then <| C_seq <| R_nd <| nq (Q_move rfl) rfl rfl <| nq (Q_move rfl) rfl rfl ?_
        obtain ⟨x275601, hx275601, ho275600⟩ := bnd ho275600
        obtain ⟨b275602, o275603, hi275607, hc275605, ha275606⟩ := arr_at (hs := [Arr (.slice (some ⟨b274158, 0, none⟩) (x11.length : Int).toNat (x11.length : Int).toNat) 1 c275206]) (k := 0) (by decide) (H.okS (by simp)) rfl r275208 hx275601
        refine nq (Q_idx hi275607 Tryz.underlying23 ty3 rfl rfl) rfl rfl ?_
        obtain ⟨x275608, hx275608, ho275600⟩ := bnd ho275600
        obtain ⟨hs275609a, hs275609b, hs275609c⟩ := setI_some hx275608
        have r275610 : rdL (eI .i64) ρ x275608 (setC c275206 (x275205.toNat * 1 + 0) [.int .i64 (-1)]) := hs275609c ▸ rdL.set r275208 hs275609b (rfl)
        refine ne (E_stA (k := 3) (j := 0) (c := [.int .i64 (-1)]) H rfl ty3 hi275607 rfl rfl rfl rfl (one_cons rfl one_nil) (by decide)) rfl rfl ?_
        rintro _ wd275611 H
        dsimp only [List.set] at H
        refine WL_nil <| x_then ?_
        obtain ⟨o275655, ho275655, ho275600⟩ := bnd ho275600
        refine C_cut (fun a w' => ∃ (x275654 : Bool), x275654 = o275655 ∧ Fr 141 a [(2, .int .i64 x19), (3, .pointer (some ⟨b266220, 0, none⟩)), (4, .pointer (some ⟨b266222, 0, none⟩)), (7, v272567), (8, .int .i64 x272566), (9, (.slice (some ⟨b274158, 0, none⟩) (x11.length : Int).toNat (x11.length : Int).toNat)), (10, .int .i64 x275205), (19, .int .i64 (x2.length : Int)), (20, .int .i64 x272566), (28, .int .i64 (x274157.length : Int)), (29, .int .i64 x275205), (69, .bool x275654)] ∧ Hp C w' ρ (Box b266220 [v1, v4, v7] :: Box b266222 [v10, v13, v16] :: NA (eI .i64) 1 v272567 c272568 x272569 :: Arr (.slice (some ⟨b274158, 0, none⟩) (x11.length : Int).toNat (x11.length : Int).toNat) 1 (setC c275206 (x275205.toNat * 1 + 0) [.int .i64 (-1)]) :: hs)) ?_ ?_
        ·refine H.dr (.take 0 (.take 1 (.take 2 (.take 3 (.take 4 (.take 5 (.take 6 (.take 7 (.take 8 (.take 9 (.take 10 (.take 11 (.take 12 (.take 13 (.take 14 (.take 15 (.take 16 (.take 17 (.take 18 (.take 19 (.take 20 (.take 21 (.take 22 (.take 23 (.take 24 (.take 25 (.take 26 (.take 27 (.take 28 (.take 29 (.take 30 (.take 31 (.take 32 (.take 33 (.take 34 .done))))))))))))))))))))))))))))))))))) none hm0 (by kernel_rfl) ?_
         replace H := H.drew
         refine dq rfl (fun _ _ => Q_move rfl) rfl rfl <| dq rfl (fun _ _ => Q_eql rfl rfl) rfl rfl <| dq rfl (fun _ _ => Q_move rfl) rfl rfl ?_
         rcases Bool.eq_false_or_eq_true (x19 == 0) with hb | hb
         ·rw [hb]
          replace ho275655 := itT hb ho275655
          refine dgq (v := .pointer (some ⟨b266220, 1, none⟩)) rfl (fun _ _ => Q_fld Tryz.underlying81 rfl ty23 (by decide) rfl rfl) rfl rfl rfl <| dgq (v := v4) rfl (fun _ hw => Q_ldB (k := 0) (cs := [v4]) hw rfl ty23 rfl rfl rfl (fun _ => rfl) rfl) rfl rfl rfl <| dgq rfl (fun _ _ => Q_move rfl) rfl rfl rfl ?_
          obtain ⟨x275656, hx275656, ho275655⟩ := bnd ho275655
          obtain ⟨b275657, o275658, c275659, hc275660, ha275661, hi275662⟩ := idxR r6 hx275656
          refine dgq rfl (fun _ _ => Q_idx hi275662 Tryz.underlying23 ty3 rfl rfl) rfl rfl rfl <| dgq (v := .int .i64 x275656) rfl (fun _ hw => Q_ld (show cellsAt _ _ _ [.int .i64 x275656] from (show _ = [_] from hc275660) ▸ (ha275661.up hw.view)) ty3 rfl (fun _ => rfl) rfl rfl) rfl rfl rfl <| dgq (v := .pointer (some ⟨b266222, 1, none⟩)) rfl (fun _ _ => Q_fld Tryz.underlying81 rfl ty23 (by decide) rfl rfl) rfl rfl rfl <| dgq (v := v13) rfl (fun _ hw => Q_ldB (k := 1) (cs := [v13]) hw rfl ty23 rfl rfl rfl (fun _ => rfl) rfl) rfl rfl rfl <| dgq rfl (fun _ _ => Q_move rfl) rfl rfl rfl ?_
          obtain ⟨x275663, hx275663, ho275655⟩ := bnd ho275655
          obtain ⟨b275664, o275665, c275666, hc275667, ha275668, hi275669⟩ := idxR r15 hx275663
          refine dgq rfl (fun _ _ => Q_idx hi275669 Tryz.underlying23 ty3 rfl rfl) rfl rfl rfl <| dgq (v := .int .i64 x275663) rfl (fun _ hw => Q_ld (show cellsAt _ _ _ [.int .i64 x275663] from (show _ = [_] from hc275667) ▸ (ha275668.up hw.view)) ty3 rfl (fun _ => rfl) rfl rfl) rfl rfl rfl <| dgq rfl (fun _ _ => Q_neq rfl rfl) rfl rfl rfl <| dq rfl (fun _ _ => Q_pickT rfl rfl) rfl rfl <| dq rfl (fun _ _ => Q_move rfl) rfl rfl ?_
          rcases Bool.eq_false_or_eq_true (x275656 != x275663) with hb | hb
          ·rw [hb]
           replace ho275655 := itT hb ho275655
           refine dgs rfl rfl rfl rfl rfl <| dgs rfl rfl rfl rfl rfl <| dgs rfl rfl rfl rfl rfl <| dgsu rfl rfl ⟨_, _, rfl, rfl, rfl⟩ rfl <| dgsu rfl rfl ⟨_, _, rfl, rfl, rfl⟩ rfl <| dgsu rfl rfl ⟨_, _, rfl, rfl, rfl⟩ rfl <| dgsu rfl rfl ⟨_, _, rfl, rfl, rfl⟩ rfl <| dgsu rfl rfl ⟨_, _, rfl, rfl, rfl⟩ rfl <| dgsu rfl rfl ⟨_, _, rfl, rfl, rfl⟩ rfl <| dgs rfl rfl rfl rfl rfl <| dgs rfl rfl rfl rfl rfl <| dgsu rfl rfl ⟨_, _, rfl, rfl, rfl⟩ rfl <| dgsu rfl rfl ⟨_, _, rfl, rfl, rfl⟩ rfl <| dgsu rfl rfl ⟨_, _, rfl, rfl, rfl⟩ rfl ?_
           refine dgsu rfl rfl ⟨_, _, rfl, rfl, rfl⟩ rfl <| dgsu rfl rfl ⟨_, _, rfl, rfl, rfl⟩ rfl <| dgsu rfl rfl ⟨_, _, rfl, rfl, rfl⟩ rfl <| dgs rfl rfl rfl rfl rfl <| dq rfl (fun _ _ => Q_pickT rfl rfl) rfl rfl <| DL_nil ?_
           obtain rfl := Option.some.inj ho275655
           refine x_A fun a hf => ⟨true, rfl, hf.sub ⟨rfl, rfl, rfl, rfl, rfl, rfl, rfl, rfl, rfl, rfl, rfl, rfl, trivial⟩, H⟩
          ·rw [hb]
           replace ho275655 := itF hb ho275655
           refine dgq rfl (fun _ _ => Q_move rfl) rfl rfl rfl <| dgq rfl (fun _ _ => Q_eql rfl rfl) rfl rfl rfl <| dgq rfl (fun _ _ => Q_move rfl) rfl rfl rfl ?_
           rcases Bool.eq_false_or_eq_true (x19 == 1) with hb | hb
           ·rw [hb]
            replace ho275655 := itT hb ho275655
            refine dgq (v := .pointer (some ⟨b266220, 1, none⟩)) rfl (fun _ _ => Q_fld Tryz.underlying81 rfl ty23 (by decide) rfl rfl) rfl rfl rfl <| dgq (v := v4) rfl (fun _ hw => Q_ldB (k := 0) (cs := [v4]) hw rfl ty23 rfl rfl rfl (fun _ => rfl) rfl) rfl rfl rfl <| dgq rfl (fun _ _ => Q_move rfl) rfl rfl rfl ?_
            obtain ⟨x275670, hx275670, ho275655⟩ := bnd ho275655
            obtain ⟨b275671, o275672, c275673, hc275674, ha275675, hi275676⟩ := idxR r6 hx275670
            refine dgq rfl (fun _ _ => Q_idx hi275676 Tryz.underlying23 ty3 rfl rfl) rfl rfl rfl <| dgq (v := .int .i64 x275670) rfl (fun _ hw => Q_ld (show cellsAt _ _ _ [.int .i64 x275670] from (show _ = [_] from hc275674) ▸ (ha275675.up hw.view)) ty3 rfl (fun _ => rfl) rfl rfl) rfl rfl rfl <| dgq rfl (fun _ _ => Q_geq rfl rfl) rfl rfl rfl <| dgq rfl (fun _ _ => Q_pickT rfl rfl) rfl rfl rfl <| dgq rfl (fun _ _ => Q_move rfl) rfl rfl rfl ?_
            rcases Bool.eq_false_or_eq_true (decide (x275670 ≥ 0)) with hb | hb
            ·rw [hb]
             replace ho275655 := itT hb ho275655
             refine dgq (v := .pointer (some ⟨b266222, 1, none⟩)) rfl (fun _ _ => Q_fld Tryz.underlying81 rfl ty23 (by decide) rfl rfl) rfl rfl rfl <| dgq (v := v13) rfl (fun _ hw => Q_ldB (k := 1) (cs := [v13]) hw rfl ty23 rfl rfl rfl (fun _ => rfl) rfl) rfl rfl rfl <| dgq rfl (fun _ _ => Q_move rfl) rfl rfl rfl ?_
             obtain ⟨x275677, hx275677, ho275655⟩ := bnd ho275655
             obtain ⟨b275678, o275679, c275680, hc275681, ha275682, hi275683⟩ := idxR r15 hx275677
             refine dgq rfl (fun _ _ => Q_idx hi275683 Tryz.underlying23 ty3 rfl rfl) rfl rfl rfl <| dgq (v := .int .i64 x275677) rfl (fun _ hw => Q_ld (show cellsAt _ _ _ [.int .i64 x275677] from (show _ = [_] from hc275681) ▸ (ha275682.up hw.view)) ty3 rfl (fun _ => rfl) rfl rfl) rfl rfl rfl <| dgq rfl (fun _ _ => Q_geq rfl rfl) rfl rfl rfl <| dgq rfl (fun _ _ => Q_pickT rfl rfl) rfl rfl rfl <| dq rfl (fun _ _ => Q_pickF rfl rfl) rfl rfl <| DL_nil ?_
             obtain rfl := Option.some.inj ho275655
             refine x_A fun a hf => ⟨decide (x275677 ≥ 0), rfl, hf.sub ⟨rfl, rfl, rfl, rfl, rfl, rfl, rfl, rfl, rfl, rfl, rfl, rfl, trivial⟩, H⟩
            ·rw [hb]
             replace ho275655 := itF hb ho275655
             refine dgs rfl rfl rfl rfl rfl <| dgs rfl rfl rfl rfl rfl <| dgs rfl rfl rfl rfl rfl <| dgs rfl rfl rfl rfl rfl <| dgs rfl rfl rfl rfl rfl <| dgs rfl rfl rfl rfl rfl <| dgq rfl (fun _ _ => Q_pickF rfl rfl) rfl rfl rfl <| dq rfl (fun _ _ => Q_pickF rfl rfl) rfl rfl <| DL_nil ?_
             obtain rfl := Option.some.inj ho275655
             refine x_A fun a hf => ⟨false, rfl, hf.sub ⟨rfl, rfl, rfl, rfl, rfl, rfl, rfl, rfl, rfl, rfl, rfl, rfl, trivial⟩, H⟩
           ·rw [hb]
            replace ho275655 := itF hb ho275655
            refine dgs rfl rfl rfl rfl rfl <| dgs rfl rfl rfl rfl rfl <| dgs rfl rfl rfl rfl rfl <| dgs rfl rfl rfl rfl rfl <| dgs rfl rfl rfl rfl rfl <| dgs rfl rfl rfl rfl rfl <| dgq rfl (fun _ _ => Q_pickF rfl rfl) rfl rfl rfl <| dgq rfl (fun _ _ => Q_move rfl) rfl rfl rfl <| dgs rfl rfl rfl rfl rfl <| dgs rfl rfl rfl rfl rfl <| dgs rfl rfl rfl rfl rfl <| dgs rfl rfl rfl rfl rfl <| dgs rfl rfl rfl rfl rfl <| dgs rfl rfl rfl rfl rfl ?_
            refine dgq rfl (fun _ _ => Q_pickF rfl rfl) rfl rfl rfl <| dq rfl (fun _ _ => Q_pickF rfl rfl) rfl rfl <| DL_nil ?_
            obtain rfl := Option.some.inj ho275655
            refine x_A fun a hf => ⟨false, rfl, hf.sub ⟨rfl, rfl, rfl, rfl, rfl, rfl, rfl, rfl, rfl, rfl, rfl, rfl, trivial⟩, H⟩
         ·rw [hb]
          replace ho275655 := itF hb ho275655
          refine dgs rfl rfl rfl rfl rfl <| dgs rfl rfl rfl rfl rfl <| dgs rfl rfl rfl rfl rfl <| dgs rfl rfl rfl rfl rfl <| dgs rfl rfl rfl rfl rfl <| dgs rfl rfl rfl rfl rfl <| dgs rfl rfl rfl rfl rfl <| dgs rfl rfl rfl rfl rfl <| dgs rfl rfl rfl rfl rfl <| dgs rfl rfl rfl rfl rfl <| dgs rfl rfl rfl rfl rfl <| dq rfl (fun _ _ => Q_pickF rfl rfl) rfl rfl <| dq rfl (fun _ _ => Q_move rfl) rfl rfl <| dgq rfl (fun _ _ => Q_move rfl) rfl rfl rfl ?_
          refine dgq rfl (fun _ _ => Q_eql rfl rfl) rfl rfl rfl <| dgq rfl (fun _ _ => Q_move rfl) rfl rfl rfl ?_
          rcases Bool.eq_false_or_eq_true (x19 == 1) with hb | hb
          ·rw [hb]
           replace ho275655 := itT hb ho275655
           refine dgq (v := .pointer (some ⟨b266220, 1, none⟩)) rfl (fun _ _ => Q_fld Tryz.underlying81 rfl ty23 (by decide) rfl rfl) rfl rfl rfl <| dgq (v := v4) rfl (fun _ hw => Q_ldB (k := 0) (cs := [v4]) hw rfl ty23 rfl rfl rfl (fun _ => rfl) rfl) rfl rfl rfl <| dgq rfl (fun _ _ => Q_move rfl) rfl rfl rfl ?_
           obtain ⟨x275684, hx275684, ho275655⟩ := bnd ho275655
           obtain ⟨b275685, o275686, c275687, hc275688, ha275689, hi275690⟩ := idxR r6 hx275684
           refine dgq rfl (fun _ _ => Q_idx hi275690 Tryz.underlying23 ty3 rfl rfl) rfl rfl rfl <| dgq (v := .int .i64 x275684) rfl (fun _ hw => Q_ld (show cellsAt _ _ _ [.int .i64 x275684] from (show _ = [_] from hc275688) ▸ (ha275689.up hw.view)) ty3 rfl (fun _ => rfl) rfl rfl) rfl rfl rfl <| dgq rfl (fun _ _ => Q_geq rfl rfl) rfl rfl rfl <| dgq rfl (fun _ _ => Q_pickT rfl rfl) rfl rfl rfl <| dgq rfl (fun _ _ => Q_move rfl) rfl rfl rfl ?_
           rcases Bool.eq_false_or_eq_true (decide (x275684 ≥ 0)) with hb | hb
           ·rw [hb]
            replace ho275655 := itT hb ho275655
            refine dgq (v := .pointer (some ⟨b266222, 1, none⟩)) rfl (fun _ _ => Q_fld Tryz.underlying81 rfl ty23 (by decide) rfl rfl) rfl rfl rfl <| dgq (v := v13) rfl (fun _ hw => Q_ldB (k := 1) (cs := [v13]) hw rfl ty23 rfl rfl rfl (fun _ => rfl) rfl) rfl rfl rfl <| dgq rfl (fun _ _ => Q_move rfl) rfl rfl rfl ?_
            obtain ⟨x275691, hx275691, ho275655⟩ := bnd ho275655
            obtain ⟨b275692, o275693, c275694, hc275695, ha275696, hi275697⟩ := idxR r15 hx275691
            refine dgq rfl (fun _ _ => Q_idx hi275697 Tryz.underlying23 ty3 rfl rfl) rfl rfl rfl <| dgq (v := .int .i64 x275691) rfl (fun _ hw => Q_ld (show cellsAt _ _ _ [.int .i64 x275691] from (show _ = [_] from hc275695) ▸ (ha275696.up hw.view)) ty3 rfl (fun _ => rfl) rfl rfl) rfl rfl rfl <| dgq rfl (fun _ _ => Q_geq rfl rfl) rfl rfl rfl <| dgq rfl (fun _ _ => Q_pickT rfl rfl) rfl rfl rfl <| dq rfl (fun _ _ => Q_pickF rfl rfl) rfl rfl <| DL_nil ?_
            obtain rfl := Option.some.inj ho275655
            refine x_A fun a hf => ⟨decide (x275691 ≥ 0), rfl, hf.sub ⟨rfl, rfl, rfl, rfl, rfl, rfl, rfl, rfl, rfl, rfl, rfl, rfl, trivial⟩, H⟩
           ·rw [hb]
            replace ho275655 := itF hb ho275655
            refine dgs rfl rfl rfl rfl rfl <| dgs rfl rfl rfl rfl rfl <| dgs rfl rfl rfl rfl rfl <| dgs rfl rfl rfl rfl rfl <| dgs rfl rfl rfl rfl rfl <| dgs rfl rfl rfl rfl rfl <| dgq rfl (fun _ _ => Q_pickF rfl rfl) rfl rfl rfl <| dq rfl (fun _ _ => Q_pickF rfl rfl) rfl rfl <| DL_nil ?_
            obtain rfl := Option.some.inj ho275655
            refine x_A fun a hf => ⟨false, rfl, hf.sub ⟨rfl, rfl, rfl, rfl, rfl, rfl, rfl, rfl, rfl, rfl, rfl, rfl, trivial⟩, H⟩
          ·rw [hb]
           replace ho275655 := itF hb ho275655
           refine dgs rfl rfl rfl rfl rfl <| dgs rfl rfl rfl rfl rfl <| dgs rfl rfl rfl rfl rfl <| dgs rfl rfl rfl rfl rfl <| dgs rfl rfl rfl rfl rfl <| dgs rfl rfl rfl rfl rfl <| dgq rfl (fun _ _ => Q_pickF rfl rfl) rfl rfl rfl <| dgq rfl (fun _ _ => Q_move rfl) rfl rfl rfl <| dgs rfl rfl rfl rfl rfl <| dgs rfl rfl rfl rfl rfl <| dgs rfl rfl rfl rfl rfl <| dgs rfl rfl rfl rfl rfl <| dgs rfl rfl rfl rfl rfl <| dgs rfl rfl rfl rfl rfl ?_
           refine dgq rfl (fun _ _ => Q_pickF rfl rfl) rfl rfl rfl <| dq rfl (fun _ _ => Q_pickF rfl rfl) rfl rfl <| DL_nil ?_
           obtain rfl := Option.some.inj ho275655
           refine x_A fun a hf => ⟨false, rfl, hf.sub ⟨rfl, rfl, rfl, rfl, rfl, rfl, rfl, rfl, rfl, rfl, rfl, rfl, trivial⟩, H⟩
        ·rintro a wd275698 ⟨x275654, rfl, hf, H⟩
         try dsimp only at ho275600
         refine CW.at hf ?_
         obtain ⟨o275713, ho275713, ho275600⟩ := bnd ho275600
         refine C_cutQ (fun a w' => ∃ (c275710 : (List Value)) (x275711 : (List Int)), x275711 = o275713 ∧ rdL (eI .i64) ρ x275711 c275710 ∧ Fr 141 a [(2, .int .i64 x19), (3, .pointer (some ⟨b266220, 0, none⟩)), (4, .pointer (some ⟨b266222, 0, none⟩)), (7, v272567), (8, .int .i64 x272566), (9, (.slice (some ⟨b274158, 0, none⟩) (x11.length : Int).toNat (x11.length : Int).toNat)), (19, .int .i64 (x2.length : Int)), (20, .int .i64 x272566), (28, .int .i64 (x274157.length : Int)), (29, .int .i64 x275205)] ∧ Hp C w' ρ (Box b266220 [v1, v4, v7] :: Box b266222 [v10, v13, v16] :: NA (eI .i64) 1 v272567 c272568 x272569 :: Arr (.slice (some ⟨b274158, 0, none⟩) (x11.length : Int).toNat (x11.length : Int).toNat) 1 c275710 :: hs)) ?_ ?_
         ·refine C_cond rfl (fun hb => ?_) (fun hb => ?_)
          ·replace ho275713 := itT hb ho275713
           refine R_nd <| nq (Q_move rfl) rfl rfl <| nq (Q_move rfl) rfl rfl ?_
           obtain ⟨x275714, hx275714, ho275713⟩ := bnd ho275713
           obtain ⟨b275715, o275716, hi275720, hc275718, ha275719⟩ := arr_at (hs := [Arr (.slice (some ⟨b274158, 0, none⟩) (x11.length : Int).toNat (x11.length : Int).toNat) 1 (setC c275206 (x275205.toNat * 1 + 0) [.int .i64 (-1)])]) (k := 0) (by decide) (H.okS (by simp)) rfl r275610 hx275714
           refine nq (Q_idx hi275720 Tryz.underlying23 ty3 rfl rfl) rfl rfl ?_
           obtain ⟨x275721, hx275721, ho275713⟩ := bnd ho275713
           obtain ⟨hs275722a, hs275722b, hs275722c⟩ := setI_some hx275721
           have r275723 : rdL (eI .i64) ρ x275721 (setC (setC c275206 (x275205.toNat * 1 + 0) [.int .i64 (-1)]) (x275205.toNat * 1 + 0) [.int .i64 0]) := hs275722c ▸ rdL.set r275610 hs275722b (rfl)
           refine ne (E_stA (k := 3) (j := 0) (c := [.int .i64 0]) H rfl ty3 hi275720 rfl rfl rfl rfl (one_cons rfl one_nil) (by decide)) rfl rfl ?_
           rintro _ wd275724 H
           dsimp only [List.set] at H
           refine WL_nil ?_
           obtain rfl := Option.some.inj ho275713
           refine x_A fun a hf => ⟨(setC (setC c275206 (x275205.toNat * 1 + 0) [.int .i64 (-1)]) (x275205.toNat * 1 + 0) [.int .i64 0]), x275721, rfl, r275723, hf.sub ⟨rfl, rfl, rfl, rfl, rfl, rfl, rfl, rfl, rfl, rfl, trivial⟩, H⟩
          ·replace ho275713 := itF hb ho275713
           refine C_skip ?_
           obtain rfl := Option.some.inj ho275713
           refine x_A fun a hf => ⟨(setC c275206 (x275205.toNat * 1 + 0) [.int .i64 (-1)]), x275608, rfl, r275610, hf.sub ⟨rfl, rfl, rfl, rfl, rfl, rfl, rfl, rfl, rfl, rfl, trivial⟩, H⟩
         ·rintro a wd275725 ⟨c275710, x275711, rfl, r275712, hf, H⟩
          try dsimp only at ho275600
          refine XX.at hf <| x_block ?_
          obtain rfl := Option.some.inj ho275600
          refine x_A fun a hf => ⟨c275710, x275711, rfl, r275712, hf.sub ⟨rfl, rfl, rfl, rfl, rfl, rfl, rfl, rfl, rfl, rfl, trivial⟩, H⟩
       ·rintro a wd275726 ⟨c275597, x275598, rfl, r275599, hf, H⟩
        try dsimp only at hB275469
        refine CW.at hf <| R_nd <| nq (Q_add rfl rfl) rfl rfl <| nq (Q_move rfl) rfl rfl <| WL_nil ?_
        obtain rfl := Option.some.inj hB275469
        refine x_A fun a hf => ⟨_, rfl, c275597, w64 (x275205 + 1), x275598, rfl, r275599, hf.sub ⟨rfl, rfl, rfl, rfl, rfl, rfl, rfl, rfl, rfl, rfl, trivial⟩, H⟩
      ·replace hB275469 := itF hb hB275469
       refine C_exit <| x_then_exit <| x_then_exit <| x_block_exit ?_
       obtain rfl := Option.some.inj hB275469
       obtain rfl := hO275470 _ rfl
       refine x_A fun a hf => ⟨c275206, x275207, rfl, r275208, hf.sub ⟨rfl, rfl, rfl, rfl, rfl, rfl, rfl, trivial⟩, H⟩
    ·rintro a wd275727 ⟨c274942, x274943, rfl, r274944, hf, H⟩
     try dsimp only at hB274154
     refine XX.at hf <| x_then <| R_nd <| nq (Q_move rfl) rfl rfl <| nq (Q_move rfl) rfl rfl ?_
     replace H := H.f3
     have hl275729 := arr_len (en := (eI .i64)) (by decide) (H.ok.get (k := 0) rfl) r274944
     refine ne (E_bslice (xs := [.tmp 75]) (vs := [(.slice (some ⟨b274158, 0, none⟩) (x11.length : Int).toNat (x11.length : Int).toNat)]) H Tryz.underlying171 ty23 (by decide) (cs := [(.slice (some ⟨b274158, 0, none⟩) (x11.length : Int).toNat (x11.length : Int).toNat)]) rfl (sz_cons (by rw [(arr_cells (H.ok.get (k := 0) rfl)).1]; rfl) sz_nil) (fm1 (arr_cells (H.ok.get (k := 0) rfl)).1) (by simp) (by simp) rfl rfl) rfl rfl ?_
     rintro _ wd275730 ⟨b275728, rfl, H⟩
     replace H := Hp.njoin1 (flat_I _) H r274944
     obtain ⟨x275731, hx275731, hB274154⟩ := bnd hB274154
     replace H := H.f3
     obtain ⟨hu275733, hj275734⟩ := app_alias (ds := [(.slice (some ⟨b274158, 0, none⟩) (x11.length : Int).toNat (x11.length : Int).toNat)]) (j := 0) (u := (.slice (some ⟨b274158, 0, none⟩) (x11.length : Int).toNat (x11.length : Int).toNat)) (x := x274943) (H.okS (l := [NA (eI .i64) 1 v272567 c272568 x272569]) (by simp)) hx275731 rfl rfl
     refine ne (E_appN1 H Tryz.underlying171 ty23 rfl (by decide) rfl rfl hx275731) rfl rfl ?_
     rintro u275732 wd275735 H
     refine nq (Q_assign rfl) rfl rfl <| WL_nil <| x_block <| x_then <| R_nd <| nq (Q_add rfl rfl) rfl rfl <| nq (Q_move rfl) rfl rfl <| WL_nil ?_
     replace H := H.f2.f2
     obtain rfl := Option.some.inj hB274154
     refine x_A fun a hf => ⟨_, rfl, u275732, (c272568 ++ ([(.slice (some ⟨b274158, 0, none⟩) (x11.length : Int).toNat (x11.length : Int).toNat)])), w64 (x272566 + 1), x275731, rfl, hf.sub ⟨rfl, rfl, rfl, rfl, rfl, rfl, trivial⟩, H⟩
   ·replace hB274154 := itF hb hB274154
    refine C_exit <| x_then_exit <| x_then_exit <| x_block_exit ?_
    obtain rfl := Option.some.inj hB274154
    obtain rfl := hO274155 _ rfl
    refine x_A fun a hf => ⟨v272567, c272568, x272569, rfl, hf.sub ⟨rfl, rfl, rfl, trivial⟩, H⟩
 ·rintro a wd275736 ⟨v270979, c270980, x270981, rfl, hf, H⟩
  try dsimp only at hF
  refine XX.at hf <| x_then <| C_seq <| R_nd <| nq (Q_assign rfl) rfl rfl <| WL_nil <| x_then <| C_block ?_
  refine C_iter (f := fun s => F_dofferref21_Far_l2 N x2 x11 s.1 s.2) hF (fun s a w' => ∃ (c446854 : (List Value)) (x446853 : Int) (x446855 : (List (List Int))), (x446853, x446855) = s ∧ Fr 141 a [(3, .pointer (some ⟨b266220, 0, none⟩)), (4, .pointer (some ⟨b266222, 0, none⟩)), (7, v270979), (11, .int .i64 x446853)] ∧ Hp C w' ρ (Box b266220 [v1, v4, v7] :: Box b266222 [v10, v13, v16] :: NA (eI .i64) 1 v270979 c446854 x446855 :: hs)) ?_ ?_
  ·exact fun a hf => ⟨c270980, 1, x270981, rfl, hf.sub ⟨rfl, rfl, rfl, rfl, trivial⟩, H⟩
  ·rintro s o489634 a wd489637 ⟨c446854, x446853, x446855, rfl, hf, H⟩ hB489635 hO489636
   replace hB489635 : F_dofferref21_Far_l2 N x2 x11 x446853 x446855 = some o489634 := hB489635
   unfold F_dofferref21_Far_l2 at hB489635
   refine CW.at hf <| C_seq <| C_block <| C_seq <| R_nd <| nq (Q_assign rfl) rfl rfl <| WL_nil <| x_then <| C_seq <| C_seq <| R_nd <| nq (v := .pointer (some ⟨b266220, 0, none⟩)) (Q_fld Tryz.underlying81 rfl ty79 (by decide) rfl rfl) rfl rfl <| nq (v := v1) (Q_ldB (k := 0) (cs := [v1]) H.ok rfl ty79 rfl rfl rfl (fun _ => rfl) rfl) rfl rfl <| nq (Q_len Tryz.underlying79 rfl r3) rfl rfl ?_
   refine nq (Q_move rfl) rfl rfl <| WL_nil <| x_then ?_
   obtain ⟨o511026, ho511026, hB489635⟩ := bnd hB489635
   refine C_cutQ (fun a w' => ∃ (c511024 : (List Value)) (x511023 : Bool) (x511025 : (List (List Int))), (x511023, x511025) = o511026 ∧ Fr 141 a [(3, .pointer (some ⟨b266220, 0, none⟩)), (4, .pointer (some ⟨b266222, 0, none⟩)), (7, v270979), (11, .int .i64 x446853), (12, .bool x511023)] ∧ Hp C w' ρ (Box b266220 [v1, v4, v7] :: Box b266222 [v10, v13, v16] :: NA (eI .i64) 1 v270979 c511024 x511025 :: hs)) ?_ ?_
   ·refine C_block ?_
    refine C_iter (f := fun s => F_dofferref21_Far_l3 N x2 x11 x446853 s.1 s.2.1 s.2.2) ho511026 (fun s a w' => ∃ (c518155 : (List Value)) (x518154 : Bool) (x518156 : (List (List Int))) (x518157 : Int), (x518154, x518156, x518157) = s ∧ Fr 141 a [(3, .pointer (some ⟨b266220, 0, none⟩)), (4, .pointer (some ⟨b266222, 0, none⟩)), (7, v270979), (11, .int .i64 x446853), (12, .bool x518154), (83, .int .i64 (x2.length : Int)), (84, .int .i64 x518157)] ∧ Hp C w' ρ (Box b266220 [v1, v4, v7] :: Box b266222 [v10, v13, v16] :: NA (eI .i64) 1 v270979 c518155 x518156 :: hs)) ?_ ?_
    ·exact fun a hf => ⟨c446854, false, x446855, 0, rfl, hf.sub ⟨rfl, rfl, rfl, rfl, rfl, rfl, rfl, trivial⟩, H⟩
    ·rintro s o525285 a wd525288 ⟨c518155, x518154, x518156, x518157, rfl, hf, H⟩ hB525286 hO525287
     replace hB525286 : F_dofferref21_Far_l3 N x2 x11 x446853 x518154 x518156 x518157 = some o525285 := hB525286
     unfold F_dofferref21_Far_l3 at hB525286
     refine CW.at hf <| C_seq <| R_nd <| nq (Q_lss rfl rfl) rfl rfl <| WL_nil <| x_then <| C_seq ?_
     refine C_cond rfl (fun hb => ?_) (fun hb => ?_)
     ·replace hB525286 := itT hb hB525286
      refine C_skip <| x_then <| C_seq <| C_block <| C_seq <| R_nd <| nq (Q_move rfl) rfl rfl <| nq (Q_assign rfl) rfl rfl <| WL_nil <| x_then <| C_seq <| R_nd <| nq (v := .pointer (some ⟨b266222, 0, none⟩)) (Q_fld Tryz.underlying81 rfl ty79 (by decide) rfl rfl) rfl rfl <| nq (v := v10) (Q_ldB (k := 1) (cs := [v10]) H.ok rfl ty79 rfl rfl rfl (fun _ => rfl) rfl) rfl rfl ?_
      refine nq (Q_len Tryz.underlying79 rfl r12) rfl rfl <| nq (Q_move rfl) rfl rfl <| WL_nil <| x_then ?_
      obtain ⟨o528851, ho528851, hB525286⟩ := bnd hB525286
      refine C_cutQ (fun a w' => ∃ (c528849 : (List Value)) (x528848 : Bool) (x528850 : (List (List Int))), (x528848, x528850) = o528851 ∧ Fr 141 a [(3, .pointer (some ⟨b266220, 0, none⟩)), (4, .pointer (some ⟨b266222, 0, none⟩)), (7, v270979), (11, .int .i64 x446853), (12, .bool x528848), (83, .int .i64 (x2.length : Int)), (84, .int .i64 x518157)] ∧ Hp C w' ρ (Box b266220 [v1, v4, v7] :: Box b266222 [v10, v13, v16] :: NA (eI .i64) 1 v270979 c528849 x528850 :: hs)) ?_ ?_
      ·refine C_block ?_
       refine C_iter (f := fun s => F_dofferref21_Far_l4 N x2 x11 x446853 x518157 s.1 s.2.1 s.2.2) ho528851 (fun s a w' => ∃ (c530038 : (List Value)) (x530037 : Bool) (x530039 : (List (List Int))) (x530040 : Int), (x530037, x530039, x530040) = s ∧ Fr 141 a [(3, .pointer (some ⟨b266220, 0, none⟩)), (4, .pointer (some ⟨b266222, 0, none⟩)), (7, v270979), (11, .int .i64 x446853), (12, .bool x530037), (13, .int .i64 x518157), (83, .int .i64 (x2.length : Int)), (84, .int .i64 x518157), (89, .int .i64 (x11.length : Int)), (90, .int .i64 x530040)] ∧ Hp C w' ρ (Box b266220 [v1, v4, v7] :: Box b266222 [v10, v13, v16] :: NA (eI .i64) 1 v270979 c530038 x530039 :: hs)) ?_ ?_
       ·exact fun a hf => ⟨c518155, x518154, x518156, 0, rfl, hf.sub ⟨rfl, rfl, rfl, rfl, rfl, rfl, rfl, rfl, rfl, rfl, trivial⟩, H⟩
       ·rintro s o531226 a wd531229 ⟨c530038, x530037, x530039, x530040, rfl, hf, H⟩ hB531227 hO531228
        replace hB531227 : F_dofferref21_Far_l4 N x2 x11 x446853 x518157 x530037 x530039 x530040 = some o531226 := hB531227
        unfold F_dofferref21_Far_l4 at hB531227
        refine CW.at hf <| C_seq <| R_nd <| nq (Q_lss rfl rfl) rfl rfl <| WL_nil <| x_then <| C_seq ?_
        refine C_cond rfl (fun hb => ?_) (fun hb => ?_)
        ·replace hB531227 := itT hb hB531227
         refine C_skip <| x_then <| C_seq <| C_block <| C_seq <| R_nd <| nq (Q_move rfl) rfl rfl <| nq (Q_assign rfl) rfl rfl <| WL_nil <| x_then <| C_seq <| R_nd <| nq (Q_assign rfl) rfl rfl <| WL_nil ?_
         refine x_then ?_
         obtain ⟨o531821, ho531821, hB531227⟩ := bnd hB531227
         refine C_cutQ (fun a w' => ∃ (c531819 : (List Value)) (x531818 : Bool) (x531820 : (List (List Int))), (x531818, x531820) = o531821 ∧ Fr 141 a [(3, .pointer (some ⟨b266220, 0, none⟩)), (4, .pointer (some ⟨b266222, 0, none⟩)), (7, v270979), (11, .int .i64 x446853), (12, .bool x531818), (13, .int .i64 x518157), (83, .int .i64 (x2.length : Int)), (84, .int .i64 x518157), (89, .int .i64 (x11.length : Int)), (90, .int .i64 x530040)] ∧ Hp C w' ρ (Box b266220 [v1, v4, v7] :: Box b266222 [v10, v13, v16] :: NA (eI .i64) 1 v270979 c531819 x531820 :: hs)) ?_ ?_
         ·refine C_block ?_
          refine C_iter (f := fun s => F_dofferref21_Far_l5 N x2 x11 x446853 x518157 x530040 s.1 s.2.1 s.2.2) ho531821 (fun s a w' => ∃ (c532020 : (List Value)) (x532018 : Bool) (x532019 : Int) (x532021 : (List (List Int))), (x532018, x532019, x532021) = s ∧ Fr 141 a [(3, .pointer (some ⟨b266220, 0, none⟩)), (4, .pointer (some ⟨b266222, 0, none⟩)), (7, v270979), (11, .int .i64 x446853), (12, .bool x532018), (13, .int .i64 x518157), (14, .int .i64 x530040), (15, .int .i64 x532019), (83, .int .i64 (x2.length : Int)), (84, .int .i64 x518157), (89, .int .i64 (x11.length : Int)), (90, .int .i64 x530040)] ∧ Hp C w' ρ (Box b266220 [v1, v4, v7] :: Box b266222 [v10, v13, v16] :: NA (eI .i64) 1 v270979 c532020 x532021 :: hs)) ?_ ?_
          ·exact fun a hf => ⟨c530038, x530037, 0, x530039, rfl, hf.sub ⟨rfl, rfl, rfl, rfl, rfl, rfl, rfl, rfl, rfl, rfl, rfl, rfl, trivial⟩, H⟩
          ·rintro s o532216 a wd532219 ⟨c532020, x532018, x532019, x532021, rfl, hf, H⟩ hB532217 hO532218
           replace hB532217 : F_dofferref21_Far_l5 N x2 x11 x446853 x518157 x530040 x532018 x532019 x532021 = some o532216 := hB532217
           unfold F_dofferref21_Far_l5 at hB532217
           refine CW.at hf <| C_seq ?_
           obtain ⟨o532235, ho532235, hB532217⟩ := bnd hB532217
           refine C_cut (fun a w' => ∃ (x532234 : Bool), x532234 = o532235 ∧ Fr 141 a [(3, .pointer (some ⟨b266220, 0, none⟩)), (4, .pointer (some ⟨b266222, 0, none⟩)), (7, v270979), (11, .int .i64 x446853), (12, .bool x532018), (13, .int .i64 x518157), (14, .int .i64 x530040), (15, .int .i64 x532019), (83, .int .i64 (x2.length : Int)), (84, .int .i64 x518157), (89, .int .i64 (x11.length : Int)), (90, .int .i64 x530040), (104, .bool x532234)] ∧ Hp C w' ρ (Box b266220 [v1, v4, v7] :: Box b266222 [v10, v13, v16] :: NA (eI .i64) 1 v270979 c532020 x532021 :: hs)) ?_ ?_
           ·refine R_nd <| nq (Q_move rfl) rfl rfl <| nq (Q_lss rfl rfl) rfl rfl <| nq (Q_move rfl) rfl rfl ?_
            rcases Bool.eq_false_or_eq_true (decide (x532019 < 256)) with hb | hb
            ·rw [hb]
             replace ho532235 := itT hb ho532235
             refine gq (Q_move rfl) rfl rfl rfl <| gq (Q_move rfl) rfl rfl rfl ?_
             obtain ⟨x532236, hx532236, ho532235⟩ := bnd ho532235
             obtain ⟨b532237, o532238, u532240, hi532239, hu532241, ha532242, hl532243, hj532244⟩ := na_at1 (by decide) (H.okS (l := [NA (eI .i64) 1 v270979 c532020 x532021]) (by simp)) hx532236
             refine gq (Q_idx hi532239 Tryz.underlying171 ty23 rfl rfl) rfl rfl rfl <| gq (v := u532240) (Q_ld (ha532242 _ (Ok.subS (by simp) H.ok)) ty23 rfl (fun _ => rfl) rfl rfl) rfl rfl rfl <| gq (Q_move rfl) rfl rfl rfl ?_
             obtain ⟨x532245, hx532245, ho532235⟩ := bnd ho532235
             obtain ⟨b532246, o532247, hi532248, ha532249⟩ := inn_at (by decide) (H.okS (l := [NA (eI .i64) 1 v270979 c532020 x532021]) (by simp)) hu532241 hj532244 hx532245
             refine gq (Q_idx hi532248 Tryz.underlying23 ty3 rfl rfl) rfl rfl rfl <| gq (v := .int .i64 x532245) (Q_ld (show cellsAt _ _ _ [.int .i64 x532245] from match ha532249 _ (Ok.subS (by simp) H.ok) with | ⟨_, rfl, h⟩ => h) ty3 rfl (fun _ => rfl) rfl rfl) rfl rfl rfl <| gq (Q_lss rfl rfl) rfl rfl rfl <| nq (Q_pickT rfl rfl) rfl rfl <| WL_nil ?_
             obtain rfl := Option.some.inj ho532235
             refine x_A fun a hf => ⟨decide (x532245 < 0), rfl, hf.sub ⟨rfl, rfl, rfl, rfl, rfl, rfl, rfl, rfl, rfl, rfl, rfl, rfl, rfl, trivial⟩, H⟩
            ·rw [hb]
             replace ho532235 := itF hb ho532235
             refine gs rfl rfl rfl rfl <| gs rfl rfl rfl rfl <| gs rfl rfl rfl rfl <| gs rfl rfl rfl rfl <| gs rfl rfl rfl rfl <| gs rfl rfl rfl rfl <| gs rfl rfl rfl rfl <| gs rfl rfl rfl rfl <| nq (Q_pickF rfl rfl) rfl rfl <| WL_nil ?_
             obtain rfl := Option.some.inj ho532235
             refine x_A fun a hf => ⟨false, rfl, hf.sub ⟨rfl, rfl, rfl, rfl, rfl, rfl, rfl, rfl, rfl, rfl, rfl, rfl, rfl, trivial⟩, H⟩
           ·rintro a wd532250 ⟨x532234, rfl, hf, H⟩
            try dsimp only at hB532217
            refine CW.at hf ?_
            refine C_cond rfl (fun hb => ?_) (fun hb => ?_)
            ·replace hB532217 := itT hb hB532217
             refine C_skip <| x_then ?_
             obtain ⟨o532331, ho532331, hB532217⟩ := bnd hB532217
             refine C_cut (fun a w' => ∃ (c532329 : (List Value)) (x532328 : Bool) (x532330 : (List (List Int))), (x532328, x532330) = o532331 ∧ Fr 141 a [(3, .pointer (some ⟨b266220, 0, none⟩)), (4, .pointer (some ⟨b266222, 0, none⟩)), (7, v270979), (11, .int .i64 x446853), (12, .bool x532328), (13, .int .i64 x518157), (14, .int .i64 x530040), (15, .int .i64 x532019), (83, .int .i64 (x2.length : Int)), (84, .int .i64 x518157), (89, .int .i64 (x11.length : Int)), (90, .int .i64 x530040)] ∧ Hp C w' ρ (Box b266220 [v1, v4, v7] :: Box b266222 [v10, v13, v16] :: NA (eI .i64) 1 v270979 c532329 x532330 :: hs)) ?_ ?_
             ·refine C_block <| C_seq <| H.dr (.take 0 (.take 1 (.take 2 (.take 3 (.take 4 (.take 5 (.take 6 (.take 7 (.take 8 (.take 9 (.take 10 (.take 11 (.take 12 (.take 13 (.take 14 (.take 15 (.take 16 (.take 17 (.take 18 (.take 19 (.take 20 (.take 21 .done)))))))))))))))))))))) none hm0 (by kernel_rfl) ?_
              replace H := H.drew
              refine dq rfl (fun _ _ => Q_move rfl) rfl rfl <| dq (v := .pointer (some ⟨b266220, 0, none⟩)) rfl (fun _ _ => Q_fld Tryz.underlying81 rfl ty79 (by decide) rfl rfl) rfl rfl <| dq (v := v1) rfl (fun _ hw => Q_ldB (k := 0) (cs := [v1]) hw rfl ty79 rfl rfl rfl (fun _ => rfl) rfl) rfl rfl <| dq rfl (fun _ _ => Q_move rfl) rfl rfl <| dq rfl (fun _ _ => Q_move rfl) rfl rfl ?_
              obtain ⟨x532332, hx532332, ho532331⟩ := bnd ho532331
              obtain ⟨b532333, o532334, c532335, hc532336, ha532337, hi532338⟩ := idxR r3 hx532332
              refine dq rfl (fun _ _ => Q_idx hi532338 Tryz.underlying79 ty87 rfl rfl) rfl rfl ?_
              obtain ⟨x532339, hx532339, ho532331⟩ := bnd ho532331
              have hn532340 := idx_lt hc532336.1 hx532339
              refine dq rfl (fun _ _ => Q_idxA hn532340.1 hn532340.2 Tryz.underlying87 ty3 rfl rfl) rfl rfl ?_
              obtain ⟨c532341, hc532342, ha532343, _⟩ := arrR hc532336 ha532337 hx532339
              refine dq (v := .int .i64 x532339) rfl (fun _ hw => Q_ld (show cellsAt _ _ _ [.int .i64 x532339] from (show _ = [_] from hc532342) ▸ (ha532343.up hw.view)) ty3 rfl (fun _ => rfl) rfl rfl) rfl rfl ?_
              obtain ⟨x532344, hx532344, ho532331⟩ := bnd ho532331
              obtain ⟨b532345, o532346, u532348, hi532347, hu532349, ha532350, hl532351, hj532352⟩ := na_at1 (by decide) (H.okS (l := [NA (eI .i64) 1 v270979 c532020 x532021]) (by simp)) hx532344
              refine dq rfl (fun _ _ => Q_idx hi532347 Tryz.underlying171 ty23 rfl rfl) rfl rfl <| dq (v := u532348) rfl (fun _ hw => Q_ld (ha532350 _ (Ok.subS (by simp) hw)) ty23 rfl (fun _ => rfl) rfl rfl) rfl rfl <| dq (v := .pointer (some ⟨b266222, 0, none⟩)) rfl (fun _ _ => Q_fld Tryz.underlying81 rfl ty79 (by decide) rfl rfl) rfl rfl <| dq (v := v10) rfl (fun _ hw => Q_ldB (k := 1) (cs := [v10]) hw rfl ty79 rfl rfl rfl (fun _ => rfl) rfl) rfl rfl <| dq rfl (fun _ _ => Q_move rfl) rfl rfl <| dq rfl (fun _ _ => Q_move rfl) rfl rfl ?_
              obtain ⟨x532353, hx532353, ho532331⟩ := bnd ho532331
              obtain ⟨b532354, o532355, c532356, hc532357, ha532358, hi532359⟩ := idxR r12 hx532353
              refine dq rfl (fun _ _ => Q_idx hi532359 Tryz.underlying79 ty87 rfl rfl) rfl rfl ?_
              obtain ⟨x532360, hx532360, ho532331⟩ := bnd ho532331
              have hn532361 := idx_lt hc532357.1 hx532360
              refine dq rfl (fun _ _ => Q_idxA hn532361.1 hn532361.2 Tryz.underlying87 ty3 rfl rfl) rfl rfl ?_
              obtain ⟨c532362, hc532363, ha532364, _⟩ := arrR hc532357 ha532358 hx532360
              refine dq (v := .int .i64 x532360) rfl (fun _ hw => Q_ld (show cellsAt _ _ _ [.int .i64 x532360] from (show _ = [_] from hc532363) ▸ (ha532364.up hw.view)) ty3 rfl (fun _ => rfl) rfl rfl) rfl rfl ?_
              obtain ⟨x532365, hx532365, ho532331⟩ := bnd ho532331
              obtain ⟨b532366, o532367, hi532368, ha532369⟩ := inn_at (by decide) (H.okS (l := [NA (eI .i64) 1 v270979 c532020 x532021]) (by simp)) hu532349 hj532352 hx532365
              refine dq rfl (fun _ _ => Q_idx hi532368 Tryz.underlying23 ty3 rfl rfl) rfl rfl <| dq (v := .int .i64 x532365) rfl (fun _ hw => Q_ld (show cellsAt _ _ _ [.int .i64 x532365] from match ha532369 _ (Ok.subS (by simp) hw) with | ⟨_, rfl, h⟩ => h) ty3 rfl (fun _ => rfl) rfl rfl) rfl rfl <| dq rfl (fun _ _ => Q_move rfl) rfl rfl <| dq rfl (fun _ _ => Q_sub rfl rfl) rfl rfl <| dq rfl (fun _ _ => Q_eql rfl rfl) rfl rfl <| DL_nil <| x_then ?_
              obtain ⟨o532390, ho532390, ho532331⟩ := bnd ho532331
              refine C_cutQ (fun a w' => ∃ (c532388 : (List Value)) (x532387 : Bool) (x532389 : (List (List Int))), (x532387, x532389) = o532390 ∧ Fr 141 a [(3, .pointer (some ⟨b266220, 0, none⟩)), (4, .pointer (some ⟨b266222, 0, none⟩)), (7, v270979), (11, .int .i64 x446853), (12, .bool x532387), (13, .int .i64 x518157), (14, .int .i64 x530040), (15, .int .i64 x532019), (83, .int .i64 (x2.length : Int)), (84, .int .i64 x518157), (89, .int .i64 (x11.length : Int)), (90, .int .i64 x530040)] ∧ Hp C w' ρ (Box b266220 [v1, v4, v7] :: Box b266222 [v10, v13, v16] :: NA (eI .i64) 1 v270979 c532388 x532389 :: hs)) ?_ ?_
              ·refine C_cond rfl (fun hb => ?_) (fun hb => ?_)
               ·replace ho532390 := itT hb ho532390
                refine C_seq <| R_nd <| nq (Q_move rfl) rfl rfl <| nq (Q_move rfl) rfl rfl ?_
                obtain ⟨x532391, hx532391, ho532390⟩ := bnd ho532390
                obtain ⟨b532392, o532393, u532395, hi532394, hu532396, ha532397, hl532398, hj532399⟩ := na_at1 (by decide) (H.okS (l := [NA (eI .i64) 1 v270979 c532020 x532021]) (by simp)) hx532391
                refine nq (Q_idx hi532394 Tryz.underlying171 ty23 rfl rfl) rfl rfl <| nq (v := u532395) (Q_ld (ha532397 _ (Ok.subS (by simp) H.ok)) ty23 rfl (fun _ => rfl) rfl rfl) rfl rfl <| nq (Q_move rfl) rfl rfl <| nq (Q_move rfl) rfl rfl ?_
                obtain ⟨x532400, hx532400, ho532390⟩ := bnd ho532390
                obtain ⟨b532401, o532402, hi532403, ha532404⟩ := inn_at (by decide) (H.okS (l := [NA (eI .i64) 1 v270979 c532020 x532021]) (by simp)) hu532396 hj532399 hx532400
                refine nq (Q_idx hi532403 Tryz.underlying23 ty3 rfl rfl) rfl rfl ?_
                replace H := H.f2
                obtain ⟨x532405, hx532405, ho532390⟩ := bnd ho532390
                obtain ⟨x532406, hx532406, ho532390⟩ := bnd ho532390
                refine ne (E_stI1 (flat_I _) H hu532396 hj532399 ty3 rfl hi532403 rfl rfl rfl (show ((eI .i64)).rd _ _ _ from rfl) hx532405 hx532406) rfl rfl ?_
                rintro _ wd532407 H
                refine WL_nil <| x_then <| R_nd <| nq (Q_assign rfl) rfl rfl <| WL_nil ?_
                replace H := H.f2.f2
                obtain rfl := Option.some.inj ho532390
                refine x_A fun a hf => ⟨c532020, true, x532406, rfl, hf.sub ⟨rfl, rfl, rfl, rfl, rfl, rfl, rfl, rfl, rfl, rfl, rfl, rfl, trivial⟩, H⟩
               ·replace ho532390 := itF hb ho532390
                refine C_skip ?_
                obtain rfl := Option.some.inj ho532390
                refine x_A fun a hf => ⟨c532020, x532018, x532021, rfl, hf.sub ⟨rfl, rfl, rfl, rfl, rfl, rfl, rfl, rfl, rfl, rfl, rfl, rfl, trivial⟩, H⟩
              ·rintro a wd532408 ⟨c532388, x532387, x532389, rfl, hf, H⟩
               try dsimp only at ho532331
               refine XX.at hf <| x_block ?_
               obtain rfl := Option.some.inj ho532331
               refine x_A fun a hf => ⟨c532388, x532387, x532389, rfl, hf.sub ⟨rfl, rfl, rfl, rfl, rfl, rfl, rfl, rfl, rfl, rfl, rfl, rfl, trivial⟩, H⟩
             ·rintro a wd532409 ⟨c532329, x532328, x532330, rfl, hf, H⟩
              try dsimp only at hB532217
              refine CW.at hf <| R_nd <| nq (Q_move rfl) rfl rfl <| nq (Q_add rfl rfl) rfl rfl <| nq (Q_assign rfl) rfl rfl <| WL_nil ?_
              obtain rfl := Option.some.inj hB532217
              refine x_A fun a hf => ⟨_, rfl, c532329, x532328, w64 (x532019 + 1), x532330, rfl, hf.sub ⟨rfl, rfl, rfl, rfl, rfl, rfl, rfl, rfl, rfl, rfl, rfl, rfl, trivial⟩, H⟩
            ·replace hB532217 := itF hb hB532217
             refine C_exit <| x_then_exit <| x_then_exit <| x_block_exit ?_
             obtain rfl := Option.some.inj hB532217
             obtain rfl := hO532218 _ rfl
             refine x_A fun a hf => ⟨c532020, x532018, x532021, rfl, hf.sub ⟨rfl, rfl, rfl, rfl, rfl, rfl, rfl, rfl, rfl, rfl, trivial⟩, H⟩
         ·rintro a wd532410 ⟨c531819, x531818, x531820, rfl, hf, H⟩
          try dsimp only at hB531227
          refine XX.at hf <| x_block <| x_then <| R_nd <| nq (Q_add rfl rfl) rfl rfl <| nq (Q_move rfl) rfl rfl <| WL_nil ?_
          obtain rfl := Option.some.inj hB531227
          refine x_A fun a hf => ⟨_, rfl, c531819, x531818, x531820, w64 (x530040 + 1), rfl, hf.sub ⟨rfl, rfl, rfl, rfl, rfl, rfl, rfl, rfl, rfl, rfl, trivial⟩, H⟩
        ·replace hB531227 := itF hb hB531227
         refine C_exit <| x_then_exit <| x_then_exit <| x_block_exit ?_
         obtain rfl := Option.some.inj hB531227
         obtain rfl := hO531228 _ rfl
         refine x_A fun a hf => ⟨c530038, x530037, x530039, rfl, hf.sub ⟨rfl, rfl, rfl, rfl, rfl, rfl, rfl, trivial⟩, H⟩
      ·rintro a wd532411 ⟨c528849, x528848, x528850, rfl, hf, H⟩
       try dsimp only at hB525286
       refine XX.at hf <| x_block <| x_then <| R_nd <| nq (Q_add rfl rfl) rfl rfl <| nq (Q_move rfl) rfl rfl <| WL_nil ?_
       obtain rfl := Option.some.inj hB525286
       refine x_A fun a hf => ⟨_, rfl, c528849, x528848, x528850, w64 (x518157 + 1), rfl, hf.sub ⟨rfl, rfl, rfl, rfl, rfl, rfl, rfl, trivial⟩, H⟩
     ·replace hB525286 := itF hb hB525286
      refine C_exit <| x_then_exit <| x_then_exit <| x_block_exit ?_
      obtain rfl := Option.some.inj hB525286
      obtain rfl := hO525287 _ rfl
      refine x_A fun a hf => ⟨c518155, x518154, x518156, rfl, hf.sub ⟨rfl, rfl, rfl, rfl, rfl, trivial⟩, H⟩
   ·rintro a wd532412 ⟨c511024, x511023, x511025, rfl, hf, H⟩
    try dsimp only at hB489635
    refine XX.at hf <| x_then <| C_seq <| R_nd <| nq (Q_move rfl) rfl rfl <| nq (Q_not rfl) rfl rfl <| WL_nil <| x_then ?_
    refine C_cond rfl (fun hb => ?_) (fun hb => ?_)
    ·replace hB489635 := itT hb hB489635
     refine C_seq <| R_nd <| nq (Q_move rfl) rfl rfl <| nq (Q_assign rfl) rfl rfl <| WL_nil <| x_then <| C_ret <| x_block_ret <| x_then_ret <| x_then_ret <| x_block_ret ?_
     replace H := H.e1.e0
     obtain rfl := Option.some.inj hB489635
     obtain rfl := hO489636 _ rfl
     exact fn_ret (l := [.tmp 6]) (vs := [v270979]) rfl rfl rfl ⟨v270979, c511024, x511025, rfl, rfl, H⟩
    ·replace hB489635 := itF hb hB489635
     refine C_skip <| x_block <| x_then <| R_nd <| nq (Q_move rfl) rfl rfl <| nq (Q_add rfl rfl) rfl rfl <| nq (Q_assign rfl) rfl rfl <| WL_nil ?_
     obtain rfl := Option.some.inj hB489635
     refine x_A fun a hf => ⟨_, rfl, c511024, w64 (x446853 + 1), x511025, rfl, hf.sub ⟨rfl, rfl, rfl, rfl, trivial⟩, H⟩
theorem c_105 {N : Nat} {C : Cx} {w : World} {ρ : View} {hs : List Hl} {gV : Nat → Value} {v1 : Value} {v4 : Value} {v7 : Value} {x2 : (List (List Int))} {x5 : (List Int)} {x8 : (List Int)} {x10 : Int} (H : Hp C w ρ (hs)) (_gle : GErrs ρ 394 errIds gV) (_r3 : RdSl ρ (eA 256 (eI .i64)) v1 x2) (_r6 : RdSl ρ (eI .i64) v4 x5) (r9 : RdSl ρ (eI .i64) v7 x8) {r : Int} (hF : F_dofferref21_entry N x2 x5 x8 x10 = some r) :
  Calls Tryz.prog 105 [.agg #[v1, v4, v7], .int .i64 x10].toArray w (Rets (fun v w' => (∃ (x23 : Int), x23 = r ∧ .int .i64 x23 = v ∧ Hp C w' ρ (hs)))) := by
 unfold F_dofferref21_entry at hF
 have h0 : Tryz.f105.body = some _ := rfl
 refine fn_calls' Tryz.func105 h0 (n := 19) rfl (by simp) <| C_seq <| R_nd <| ne (E_box H (vs := [v1, v4, v7]) rfl rfl) rfl rfl ?_
 rintro _ wd25 ⟨b24, rfl, H⟩
 refine nq (Q_assign rfl) rfl rfl <| WL_nil <| x_then <| C_seq ?_
 obtain ⟨o27, ho27, hF⟩ := bnd hF
 refine C_cut (fun a w' => ∃ (x26 : Bool), x26 = o27 ∧ Fr 19 a [(1, .int .i64 x10), (2, .pointer (some ⟨b24, 0, none⟩)), (13, .bool x26)] ∧ Hp C w' ρ (Box b24 [v1, v4, v7] :: hs)) ?_ ?_
 ·refine R_nd <| nq (Q_move rfl) rfl rfl <| nq (Q_lss rfl rfl) rfl rfl <| nq (Q_move rfl) rfl rfl ?_
  rcases Bool.eq_false_or_eq_true (decide (x10 < 0)) with hb | hb
  ·rw [hb]
   replace ho27 := itT hb ho27
   refine gs rfl rfl rfl rfl <| gs rfl rfl rfl rfl <| gs rfl rfl rfl rfl <| gs rfl rfl rfl rfl <| gs rfl rfl rfl rfl <| nq (Q_pickT rfl rfl) rfl rfl <| WL_nil ?_
   obtain rfl := Option.some.inj ho27
   refine x_A fun a hf => ⟨true, rfl, hf.sub ⟨rfl, rfl, rfl, trivial⟩, H⟩
  ·rw [hb]
   replace ho27 := itF hb ho27
   refine gq (Q_move rfl) rfl rfl rfl <| gq (v := .pointer (some ⟨b24, 2, none⟩)) (Q_fld Tryz.underlying81 rfl ty23 (by decide) rfl rfl) rfl rfl rfl <| gq (v := v7) (Q_ldB (k := 0) (cs := [v7]) H.ok rfl ty23 rfl rfl rfl (fun _ => rfl) rfl) rfl rfl rfl <| gq (Q_len Tryz.underlying23 rfl r9) rfl rfl rfl <| gq (Q_geq rfl rfl) rfl rfl rfl <| nq (Q_pickF rfl rfl) rfl rfl <| WL_nil ?_
   obtain rfl := Option.some.inj ho27
   refine x_A fun a hf => ⟨decide (x10 ≥ (x8.length : Int)), rfl, hf.sub ⟨rfl, rfl, rfl, trivial⟩, H⟩
 ·rintro a wd28 ⟨x26, rfl, hf, H⟩
  try dsimp only at hF
  refine CW.at hf ?_
  refine C_cond rfl (fun hb => ?_) (fun hb => ?_)
  ·replace hF := itT hb hF
   refine C_seq <| R_nd <| nq (Q_assign rfl) rfl rfl <| WL_nil <| x_then <| C_ret <| x_then_ret ?_
   replace H := H.e0
   obtain rfl := Option.some.inj hF
   exact fn_ret (l := [.tmp 4]) (vs := [.int .i64 0]) rfl rfl rfl ⟨0, rfl, rfl, H⟩
  ·replace hF := itF hb hF
   refine C_skip <| x_then <| C_seq <| R_nd <| nq (v := .pointer (some ⟨b24, 2, none⟩)) (Q_fld Tryz.underlying81 rfl ty23 (by decide) rfl rfl) rfl rfl <| nq (v := v7) (Q_ldB (k := 0) (cs := [v7]) H.ok rfl ty23 rfl rfl rfl (fun _ => rfl) rfl) rfl rfl <| nq (Q_move rfl) rfl rfl ?_
   obtain ⟨x29, hx29, hF⟩ := bnd hF
   obtain ⟨b30, o31, c32, hc33, ha34, hi35⟩ := idxR r9 hx29
   refine nq (Q_idx hi35 Tryz.underlying23 ty3 rfl rfl) rfl rfl <| nq (v := .int .i64 x29) (Q_ld (show cellsAt _ _ _ [.int .i64 x29] from (show _ = [_] from hc33) ▸ (ha34.up H.ok.view)) ty3 rfl (fun _ => rfl) rfl rfl) rfl rfl <| nq (Q_assign rfl) rfl rfl <| WL_nil <| x_then <| C_ret ?_
   replace H := H.e0
   obtain rfl := Option.some.inj hF
   exact fn_ret (l := [.tmp 4]) (vs := [.int .i64 x29]) rfl rfl rfl ⟨x29, rfl, rfl, H⟩
theorem c_53 {N : Nat} {C : Cx} {w : World} {ρ : View} {hs : List Hl} {gV : Nat → Value} {v1 : Value} {v4 : Value} {v7 : Value} {v10 : Value} {v13 : Value} {v16 : Value} {x2 : (List (List Int))} {x5 : (List Int)} {x8 : (List Int)} {x11 : (List (List Int))} {x14 : (List Int)} {x17 : (List Int)} {x19 : Int} {x20 : Int} (H : Hp C w ρ (hs)) (gle : GErrs ρ 394 errIds gV) (r3 : RdSl ρ (eA 256 (eI .i64)) v1 x2) (r6 : RdSl ρ (eI .i64) v4 x5) (r9 : RdSl ρ (eI .i64) v7 x8) (r12 : RdSl ρ (eA 256 (eI .i64)) v10 x11) (r15 : RdSl ρ (eI .i64) v13 x14) (r18 : RdSl ρ (eI .i64) v16 x17) {r : ((List Int) × Int × Int × Bool)} (hF : F_dofferref21_Way N x2 x5 x8 x11 x14 x17 x19 x20 = some r) :
  Calls Tryz.prog 53 [.agg #[v1, v4, v7], .agg #[v10, v13, v16], .int .i64 x19, .int .i64 x20].toArray w (Rets (fun v w' => (∃ (v2497 : Value) (c2498 : (List Value)) (x2499 : (List Int)) (x2501 : Int) (x2502 : Int) (x2503 : Bool), (x2499, x2501, x2502, x2503) = r ∧ .tuple [v2497, .int .i64 x2501, .int .i64 x2502, .bool x2503].toArray = v ∧ rdL (eI .u8) ρ x2499 c2498 ∧ Hp C w' ρ (Arr v2497 1 c2498 :: hs)))) := by
 unfold F_dofferref21_Way at hF
 have h0 : Tryz.f53.body = some _ := rfl
 refine fn_calls' Tryz.func53 h0 (n := 98) rfl (by simp) <| C_seq <| R_nd <| ne (E_box H (vs := [v1, v4, v7]) rfl rfl) rfl rfl ?_
 rintro _ wd2505 ⟨b2504, rfl, H⟩
 refine ne (E_box H (vs := [v10, v13, v16]) rfl rfl) rfl rfl ?_
 rintro _ wd2507 ⟨b2506, rfl, H⟩
 refine nq (Q_assign rfl) rfl rfl <| nq (Q_assign rfl) rfl rfl <| nq (Q_assign rfl) rfl rfl <| nq (Q_assign rfl) rfl rfl <| WL_nil <| x_then <| C_seq <| R_nd <| nq (v := .agg #[v1, v4, v7]) (Q_ldB (k := 1) (cs := [v1, v4, v7]) H.ok rfl ty81 rfl rfl rfl (fun h => nomatch h) rfl) rfl rfl <| nq (v := .agg #[v10, v13, v16]) (Q_ldB (k := 0) (cs := [v10, v13, v16]) H.ok rfl ty81 rfl rfl rfl (fun h => nomatch h) rfl) rfl rfl <| nq (Q_move rfl) rfl rfl ?_
 obtain ⟨q2508, hq2508, hF⟩ := bnd hF
 refine ne (E_call fn104 rfl (c_104 H gle  r3 r6 r9 r12 r15 r18 hq2508)) rfl rfl ?_
 rintro _ wd2513 ⟨v2510, c2511, x2512, rfl, rfl, H⟩
 try dsimp only at hF
 refine nq (Q_assign rfl) rfl rfl <| WL_nil <| x_then <| C_seq <| R_dr (.take 0 (.take 1 (.take 3 (.take 4 (.one 2 (.bar 5 none (.take 6 (.take 7 .done)))))))) (some 5) (S := fun w' => Ok w' ρ [NA (eI .i64) 1 v2510 c2511 x2512, Box b2506 [v10, v13, v16], Box b2504 [v1, v4, v7]]) hm0 (by kernel_rfl) (H.drew.okS (by simp)) ?_
 replace H := H.drew
 refine dq (v := .agg #[v1, v4, v7]) rfl (fun _ hw => Q_ldB (k := 2) (cs := [v1, v4, v7]) hw rfl ty81 rfl rfl rfl (fun h => nomatch h) rfl) rfl rfl <| dq rfl (fun _ _ => Q_move rfl) rfl rfl <| dq (v := .agg #[v10, v13, v16]) rfl (fun _ hw => Q_ldB (k := 1) (cs := [v10, v13, v16]) hw rfl ty81 rfl rfl rfl (fun h => nomatch h) rfl) rfl rfl <| dq rfl (fun _ _ => Q_move rfl) rfl rfl ?_
 obtain ⟨q2514, hq2514, hF⟩ := bnd hF
 refine d1 (de rfl (E_call fn105 rfl (c_105 H gle  r3 r6 r9 hq2514)) rfl rfl ?_)
 rintro _ wd2517 ⟨x2516, rfl, rfl, H⟩
 try dsimp only at hF
 refine ⟨H.okS (by simp), ?_⟩
 obtain ⟨q2518, hq2518, hF⟩ := bnd hF
 refine db rfl (E_call fn105 rfl (c_105 H gle  r12 r15 r18 hq2518)) rfl rfl ?_
 rintro _ wd2521 ⟨x2520, rfl, rfl, H⟩
 try dsimp only at hF
 refine H.okF <| dq rfl (fun _ _ => Q_assign rfl) rfl rfl <| dq rfl (fun _ _ => Q_assign rfl) rfl rfl <| DL_nil <| x_then <| C_seq <| C_seq <| R_nd <| nq (Q_move rfl) rfl rfl <| nq (Q_move rfl) rfl rfl ?_
 obtain ⟨x2522, hx2522, hF⟩ := bnd hF
 obtain ⟨b2523, o2524, u2526, hi2525, hu2527, ha2528, hl2529, hj2530⟩ := na_at1 (by decide) (H.okS (l := [NA (eI .i64) 1 v2510 c2511 x2512]) (by simp)) hx2522
 refine nq (Q_idx hi2525 Tryz.underlying171 ty23 rfl rfl) rfl rfl <| nq (v := u2526) (Q_ld (ha2528 _ (Ok.subS (by simp) H.ok)) ty23 rfl (fun _ => rfl) rfl rfl) rfl rfl <| nq (Q_move rfl) rfl rfl ?_
 obtain ⟨x2531, hx2531, hF⟩ := bnd hF
 obtain ⟨b2532, o2533, hi2534, ha2535⟩ := inn_at (by decide) (H.okS (l := [NA (eI .i64) 1 v2510 c2511 x2512]) (by simp)) hu2527 hj2530 hx2531
 refine nq (Q_idx hi2534 Tryz.underlying23 ty3 rfl rfl) rfl rfl <| nq (v := .int .i64 x2531) (Q_ld (show cellsAt _ _ _ [.int .i64 x2531] from match ha2535 _ (Ok.subS (by simp) H.ok) with | ⟨_, rfl, h⟩ => h) ty3 rfl (fun _ => rfl) rfl rfl) rfl rfl <| nq (Q_lss rfl rfl) rfl rfl <| WL_nil <| x_then ?_
 refine C_cond rfl (fun hb => ?_) (fun hb => ?_)
 ·replace hF := itT hb hF
  refine C_seq <| R_nd <| nq (Q_assign rfl) rfl rfl <| nq (Q_assign rfl) rfl rfl <| nq (Q_assign rfl) rfl rfl <| nq (Q_assign rfl) rfl rfl <| WL_nil <| x_then <| C_ret <| x_then_ret ?_
  have H := H.nilArr 1
  replace H := H.e3.e2.e1
  obtain rfl := Option.some.inj hF
  exact fn_ret (l := [.tmp 8, .tmp 9, .tmp 10, .tmp 11]) (vs := [(.slice none 0 0), .int .i64 0, .int .i64 0, .bool false]) rfl rfl rfl ⟨(.slice none 0 0), [], [], 0, 0, false, rfl, rfl, rdL.nil, H⟩
 ·replace hF := itF hb hF
  refine C_skip <| x_then <| C_seq <| R_nd <| ne (E_bslice0 H Tryz.underlying42 ty5) rfl rfl ?_
  rintro _ wd2537 ⟨b2536, rfl, H⟩
  refine nq (Q_assign rfl) rfl rfl <| WL_nil <| x_then ?_
  obtain ⟨o3754, ho3754, hF⟩ := bnd hF
  refine C_cut (fun a w' => ∃ (v3750 : Value) (c3751 : (List Value)) (x3748 : Int) (x3749 : Int) (x3752 : (List Int)), (x3748, x3749, x3752) = o3754 ∧ rdL (eI .u8) ρ x3752 c3751 ∧ Fr 98 a [(4, .pointer (some ⟨b2504, 0, none⟩)), (5, .pointer (some ⟨b2506, 0, none⟩)), (13, .int .i64 x3748), (14, .int .i64 x3749), (15, v3750)] ∧ Hp C w' ρ (Arr v3750 1 c3751 :: Box b2504 [v1, v4, v7] :: Box b2506 [v10, v13, v16] :: hs)) ?_ ?_
  ·refine C_block ?_
   replace H := H.f3.f1.f2
   refine C_iter (f := fun s => F_dofferref21_Way_l0 N x2 x11 x2512 s.1 s.2.1 s.2.2) ho3754 (fun s a w' => ∃ (v4159 : Value) (c4160 : (List Value)) (x4157 : Int) (x4158 : Int) (x4161 : (List Int)), (x4157, x4158, x4161) = s ∧ rdL (eI .u8) ρ x4161 c4160 ∧ Fr 98 a [(4, .pointer (some ⟨b2504, 0, none⟩)), (5, .pointer (some ⟨b2506, 0, none⟩)), (12, v2510), (13, .int .i64 x4157), (14, .int .i64 x4158), (15, v4159)] ∧ Hp C w' ρ (NA (eI .i64) 1 v2510 c2511 x2512 :: Arr v4159 1 c4160 :: Box b2504 [v1, v4, v7] :: Box b2506 [v10, v13, v16] :: hs)) ?_ ?_
   ·exact fun a hf => ⟨(.slice (some ⟨b2536, 0, none⟩) 0 0), [], x2516, x2520, [], rfl, rdL.nil, hf.sub ⟨rfl, rfl, rfl, rfl, rfl, rfl, trivial⟩, H⟩
   ·rintro s o4565 a wd4568 ⟨v4159, c4160, x4157, x4158, x4161, rfl, r4162, hf, H⟩ hB4566 hO4567
    replace hB4566 : F_dofferref21_Way_l0 N x2 x11 x2512 x4157 x4158 x4161 = some o4565 := hB4566
    unfold F_dofferref21_Way_l0 at hB4566
    refine CW.at hf <| C_seq <| C_seq <| R_nd <| nq (Q_move rfl) rfl rfl <| nq (Q_move rfl) rfl rfl ?_
    obtain ⟨x4569, hx4569, hB4566⟩ := bnd hB4566
    obtain ⟨b4570, o4571, u4573, hi4572, hu4574, ha4575, hl4576, hj4577⟩ := na_at1 (by decide) (H.okS (l := [NA (eI .i64) 1 v2510 c2511 x2512]) (by simp)) hx4569
    refine nq (Q_idx hi4572 Tryz.underlying171 ty23 rfl rfl) rfl rfl <| nq (v := u4573) (Q_ld (ha4575 _ (Ok.subS (by simp) H.ok)) ty23 rfl (fun _ => rfl) rfl rfl) rfl rfl <| nq (Q_move rfl) rfl rfl ?_
    obtain ⟨x4578, hx4578, hB4566⟩ := bnd hB4566
    obtain ⟨b4579, o4580, hi4581, ha4582⟩ := inn_at (by decide) (H.okS (l := [NA (eI .i64) 1 v2510 c2511 x2512]) (by simp)) hu4574 hj4577 hx4578
    refine nq (Q_idx hi4581 Tryz.underlying23 ty3 rfl rfl) rfl rfl <| nq (v := .int .i64 x4578) (Q_ld (show cellsAt _ _ _ [.int .i64 x4578] from match ha4582 _ (Ok.subS (by simp) H.ok) with | ⟨_, rfl, h⟩ => h) ty3 rfl (fun _ => rfl) rfl rfl) rfl rfl <| nq (Q_gtr rfl rfl) rfl rfl <| WL_nil <| x_then ?_
    refine C_cond rfl (fun hb => ?_) (fun hb => ?_)
    ·replace hB4566 := itT hb hB4566
     refine C_skip <| x_then <| C_block <| C_seq <| R_nd <| nq (Q_assign rfl) rfl rfl <| WL_nil <| x_then ?_
     obtain ⟨o4776, ho4776, hB4566⟩ := bnd hB4566
     refine C_cutQ (fun a w' => ∃ (v4772 : Value) (c4773 : (List Value)) (x4770 : Int) (x4771 : Int) (x4774 : (List Int)), (x4770, x4771, x4774) = o4776 ∧ rdL (eI .u8) ρ x4774 c4773 ∧ Fr 98 a [(4, .pointer (some ⟨b2504, 0, none⟩)), (5, .pointer (some ⟨b2506, 0, none⟩)), (12, v2510), (13, .int .i64 x4770), (14, .int .i64 x4771), (15, v4772)] ∧ Hp C w' ρ (NA (eI .i64) 1 v2510 c2511 x2512 :: Arr v4772 1 c4773 :: Box b2504 [v1, v4, v7] :: Box b2506 [v10, v13, v16] :: hs)) ?_ ?_
     ·refine C_block ?_
      refine C_iter (f := fun s => F_dofferref21_Way_l1 N x2 x11 x2512 x4157 x4158 x4161 s) ho4776 (fun s a w' => ∃ (x4838 : Int), x4838 = s ∧ Fr 98 a [(4, .pointer (some ⟨b2504, 0, none⟩)), (5, .pointer (some ⟨b2506, 0, none⟩)), (12, v2510), (13, .int .i64 x4157), (14, .int .i64 x4158), (15, v4159), (16, .int .i64 x4838)] ∧ Hp C w' ρ (NA (eI .i64) 1 v2510 c2511 x2512 :: Arr v4159 1 c4160 :: Box b2504 [v1, v4, v7] :: Box b2506 [v10, v13, v16] :: hs)) ?_ ?_
      ·exact fun a hf => ⟨0, rfl, hf.sub ⟨rfl, rfl, rfl, rfl, rfl, rfl, rfl, trivial⟩, H⟩
      ·rintro s o4900 a wd4903 ⟨x4838, rfl, hf, H⟩ hB4901 hO4902
       replace hB4901 : F_dofferref21_Way_l1 N x2 x11 x2512 x4157 x4158 x4161 x4838 = some o4900 := hB4901
       unfold F_dofferref21_Way_l1 at hB4901
       refine CW.at hf <| C_seq <| C_seq <| R_nd <| nq (Q_move rfl) rfl rfl <| nq (Q_lss rfl rfl) rfl rfl <| WL_nil <| x_then ?_
       refine C_cond rfl (fun hb => ?_) (fun hb => ?_)
       ·replace hB4901 := itT hb hB4901
        refine C_skip <| x_then <| C_seq <| C_block <| C_seq <| H.dr (.take 0 (.take 1 (.take 2 (.take 3 (.take 4 (.take 5 (.take 6 (.take 7 (.take 8 (.take 9 (.take 10 (.take 11 (.take 12 (.take 13 (.take 14 (.take 15 .done)))))))))))))))) none hm0 (by kernel_rfl) ?_
        replace H := H.drew
        refine dq (v := .pointer (some ⟨b2504, 0, none⟩)) rfl (fun _ _ => Q_fld Tryz.underlying81 rfl ty79 (by decide) rfl rfl) rfl rfl <| dq (v := v1) rfl (fun _ hw => Q_ldB (k := 2) (cs := [v1]) hw rfl ty79 rfl rfl rfl (fun _ => rfl) rfl) rfl rfl <| dq rfl (fun _ _ => Q_move rfl) rfl rfl <| dq rfl (fun _ _ => Q_move rfl) rfl rfl ?_
        obtain ⟨x4904, hx4904, hB4901⟩ := bnd hB4901
        obtain ⟨b4905, o4906, c4907, hc4908, ha4909, hi4910⟩ := idxR r3 hx4904
        refine dq rfl (fun _ _ => Q_idx hi4910 Tryz.underlying79 ty87 rfl rfl) rfl rfl ?_
        obtain ⟨x4911, hx4911, hB4901⟩ := bnd hB4901
        have hn4912 := idx_lt hc4908.1 hx4911
        refine dq rfl (fun _ _ => Q_idxA hn4912.1 hn4912.2 Tryz.underlying87 ty3 rfl rfl) rfl rfl ?_
        obtain ⟨c4913, hc4914, ha4915, _⟩ := arrR hc4908 ha4909 hx4911
        refine dq (v := .int .i64 x4911) rfl (fun _ hw => Q_ld (show cellsAt _ _ _ [.int .i64 x4911] from (show _ = [_] from hc4914) ▸ (ha4915.up hw.view)) ty3 rfl (fun _ => rfl) rfl rfl) rfl rfl <| dq (v := .pointer (some ⟨b2506, 0, none⟩)) rfl (fun _ _ => Q_fld Tryz.underlying81 rfl ty79 (by decide) rfl rfl) rfl rfl <| dq (v := v10) rfl (fun _ hw => Q_ldB (k := 3) (cs := [v10]) hw rfl ty79 rfl rfl rfl (fun _ => rfl) rfl) rfl rfl <| dq rfl (fun _ _ => Q_move rfl) rfl rfl <| dq rfl (fun _ _ => Q_move rfl) rfl rfl ?_
        obtain ⟨x4916, hx4916, hB4901⟩ := bnd hB4901
        obtain ⟨b4917, o4918, c4919, hc4920, ha4921, hi4922⟩ := idxR r12 hx4916
        refine dq rfl (fun _ _ => Q_idx hi4922 Tryz.underlying79 ty87 rfl rfl) rfl rfl ?_
        obtain ⟨x4923, hx4923, hB4901⟩ := bnd hB4901
        have hn4924 := idx_lt hc4920.1 hx4923
        refine dq rfl (fun _ _ => Q_idxA hn4924.1 hn4924.2 Tryz.underlying87 ty3 rfl rfl) rfl rfl ?_
        obtain ⟨c4925, hc4926, ha4927, _⟩ := arrR hc4920 ha4921 hx4923
        refine dq (v := .int .i64 x4923) rfl (fun _ hw => Q_ld (show cellsAt _ _ _ [.int .i64 x4923] from (show _ = [_] from hc4926) ▸ (ha4927.up hw.view)) ty3 rfl (fun _ => rfl) rfl rfl) rfl rfl <| dq rfl (fun _ _ => Q_assign rfl) rfl rfl <| dq rfl (fun _ _ => Q_assign rfl) rfl rfl <| DL_nil <| x_then <| C_seq <| H.dr (.take 0 (.take 1 (.take 2 (.take 3 (.take 4 (.take 5 (.take 6 (.take 7 (.take 8 (.take 9 (.take 10 (.take 11 (.take 12 (.take 13 (.take 14 (.take 15 .done)))))))))))))))) none hm0 (by kernel_rfl) ?_
        replace H := H.drew
        refine dq rfl (fun _ _ => Q_move rfl) rfl rfl <| dq rfl (fun _ _ => Q_move rfl) rfl rfl ?_
        obtain ⟨x4928, hx4928, hB4901⟩ := bnd hB4901
        obtain ⟨b4929, o4930, u4932, hi4931, hu4933, ha4934, hl4935, hj4936⟩ := na_at1 (by decide) (H.okS (l := [NA (eI .i64) 1 v2510 c2511 x2512]) (by simp)) hx4928
        refine dq rfl (fun _ _ => Q_idx hi4931 Tryz.underlying171 ty23 rfl rfl) rfl rfl <| dq (v := u4932) rfl (fun _ hw => Q_ld (ha4934 _ (Ok.subS (by simp) hw)) ty23 rfl (fun _ => rfl) rfl rfl) rfl rfl <| dq rfl (fun _ _ => Q_move rfl) rfl rfl ?_
        obtain ⟨x4937, hx4937, hB4901⟩ := bnd hB4901
        obtain ⟨b4938, o4939, hi4940, ha4941⟩ := inn_at (by decide) (H.okS (l := [NA (eI .i64) 1 v2510 c2511 x2512]) (by simp)) hu4933 hj4936 hx4937
        refine dq rfl (fun _ _ => Q_idx hi4940 Tryz.underlying23 ty3 rfl rfl) rfl rfl <| dq (v := .int .i64 x4937) rfl (fun _ hw => Q_ld (show cellsAt _ _ _ [.int .i64 x4937] from match ha4941 _ (Ok.subS (by simp) hw) with | ⟨_, rfl, h⟩ => h) ty3 rfl (fun _ => rfl) rfl rfl) rfl rfl <| dq rfl (fun _ _ => Q_move rfl) rfl rfl <| dq rfl (fun _ _ => Q_move rfl) rfl rfl ?_
        obtain ⟨x4942, hx4942, hB4901⟩ := bnd hB4901
        obtain ⟨b4943, o4944, u4946, hi4945, hu4947, ha4948, hl4949, hj4950⟩ := na_at1 (by decide) (H.okS (l := [NA (eI .i64) 1 v2510 c2511 x2512]) (by simp)) hx4942
        refine dq rfl (fun _ _ => Q_idx hi4945 Tryz.underlying171 ty23 rfl rfl) rfl rfl <| dq (v := u4946) rfl (fun _ hw => Q_ld (ha4948 _ (Ok.subS (by simp) hw)) ty23 rfl (fun _ => rfl) rfl rfl) rfl rfl <| dq rfl (fun _ _ => Q_move rfl) rfl rfl ?_
        obtain ⟨x4951, hx4951, hB4901⟩ := bnd hB4901
        obtain ⟨b4952, o4953, hi4954, ha4955⟩ := inn_at (by decide) (H.okS (l := [NA (eI .i64) 1 v2510 c2511 x2512]) (by simp)) hu4947 hj4950 hx4951
        refine dq rfl (fun _ _ => Q_idx hi4954 Tryz.underlying23 ty3 rfl rfl) rfl rfl <| dq (v := .int .i64 x4951) rfl (fun _ hw => Q_ld (show cellsAt _ _ _ [.int .i64 x4951] from match ha4955 _ (Ok.subS (by simp) hw) with | ⟨_, rfl, h⟩ => h) ty3 rfl (fun _ => rfl) rfl rfl) rfl rfl <| dq rfl (fun _ _ => Q_sub rfl rfl) rfl rfl <| dq rfl (fun _ _ => Q_eql rfl rfl) rfl rfl <| DL_nil <| x_then ?_
        refine C_cond rfl (fun hb => ?_) (fun hb => ?_)
        ·replace hB4901 := itT hb hB4901
         refine C_seq <| R_nd <| nq (Q_move rfl) rfl rfl <| nq (Q_move rfl) rfl rfl <| nq (Q_cvI ⟨_, Tryz.underlying3⟩ Tryz.underlying5 rfl) rfl rfl <| ne (E_bslice (xs := [.tmp 82]) (vs := [.int .u8 (IntKind.wrap .u8 x4838)]) H Tryz.underlying42 ty5 (by decide) (cs := [.int .u8 (IntKind.wrap .u8 x4838)]) rfl (sz_cons rfl sz_nil) rfl (by simp) (by simp) rfl rfl) rfl rfl ?_
         rintro _ wd4957 ⟨b4956, rfl, H⟩
         obtain ⟨x4958, hx4958, hB4901⟩ := bnd hB4901
         obtain ⟨ha4959a, ha4959b⟩ := app_some hx4958
         have r4961 : rdL (eI .u8) ρ x4958 (c4160 ++ ([.int .u8 (IntKind.wrap .u8 x4838)])) := ha4959b ▸ rdL.app r4162 (show rdL (eI .u8) ρ ([IntKind.wrap .u8 x4838]) ([.int .u8 (IntKind.wrap .u8 x4838)]) from ⟨([.int .u8 (IntKind.wrap .u8 x4838)]), _, rfl, rfl, rdL.nil⟩)
         refine ne (E_append (k := 2) H rfl Tryz.underlying42 ty5 rfl (by decide) (by decide) rfl rfl (Src.ofArr (k := 0) H.ok rfl) (rdL.one (show rdL (eI .u8) ρ ([IntKind.wrap .u8 x4838]) ([.int .u8 (IntKind.wrap .u8 x4838)]) from ⟨([.int .u8 (IntKind.wrap .u8 x4838)]), _, rfl, rfl, rdL.nil⟩)) (app_fit r4162 (show rdL (eI .u8) ρ ([IntKind.wrap .u8 x4838]) ([.int .u8 (IntKind.wrap .u8 x4838)]) from ⟨([.int .u8 (IntKind.wrap .u8 x4838)]), _, rfl, rfl, rdL.nil⟩) ha4959a)) rfl rfl ?_
         rintro v4960 wd4963 ⟨H, hc4962⟩
         dsimp only [List.set] at H
         refine nq (Q_assign rfl) rfl rfl <| WL_nil <| x_then <| C_seq <| R_nd <| nq (Q_move rfl) rfl rfl <| nq (Q_assign rfl) rfl rfl <| WL_nil <| x_then <| C_seq <| R_nd <| nq (Q_move rfl) rfl rfl <| nq (Q_assign rfl) rfl rfl <| WL_nil ?_
         refine x_then <| C_exit <| x_block_other rfl <| x_then_exit <| x_then_exit <| x_block_exit ?_
         replace H := H.e0
         obtain rfl := Option.some.inj hB4901
         obtain rfl := hO4902 _ rfl
         refine x_A fun a hf => ⟨v4960, (c4160 ++ ([.int .u8 (IntKind.wrap .u8 x4838)])), x4911, x4923, x4958, rfl, r4961, hf.sub ⟨rfl, rfl, rfl, rfl, rfl, rfl, trivial⟩, H⟩
        ·replace hB4901 := itF hb hB4901
         refine C_skip <| x_block <| x_then <| R_nd <| nq (Q_move rfl) rfl rfl <| nq (Q_add rfl rfl) rfl rfl <| nq (Q_assign rfl) rfl rfl <| WL_nil ?_
         obtain rfl := Option.some.inj hB4901
         refine x_A fun a hf => ⟨_, rfl, w64 (x4838 + 1), rfl, hf.sub ⟨rfl, rfl, rfl, rfl, rfl, rfl, rfl, trivial⟩, H⟩
       ·replace hB4901 := itF hb hB4901
        refine C_exit <| x_then_exit <| x_then_exit <| x_block_exit ?_
        obtain rfl := Option.some.inj hB4901
        obtain rfl := hO4902 _ rfl
        refine x_A fun a hf => ⟨v4159, c4160, x4157, x4158, x4161, rfl, r4162, hf.sub ⟨rfl, rfl, rfl, rfl, rfl, rfl, trivial⟩, H⟩
     ·rintro a wd4964 ⟨v4772, c4773, x4770, x4771, x4774, rfl, r4775, hf, H⟩
      try dsimp only at hB4566
      refine XX.at hf <| x_block ?_
      obtain rfl := Option.some.inj hB4566
      refine x_A fun a hf => ⟨_, rfl, v4772, c4773, x4770, x4771, x4774, rfl, r4775, hf.sub ⟨rfl, rfl, rfl, rfl, rfl, rfl, trivial⟩, H⟩
    ·replace hB4566 := itF hb hB4566
     refine C_exit <| x_then_exit <| x_then_exit <| x_block_exit ?_
     replace H := H.e0
     obtain rfl := Option.some.inj hB4566
     obtain rfl := hO4567 _ rfl
     refine x_A fun a hf => ⟨v4159, c4160, x4157, x4158, x4161, rfl, r4162, hf.sub ⟨rfl, rfl, rfl, rfl, rfl, trivial⟩, H⟩
  ·rintro a wd4965 ⟨v3750, c3751, x3748, x3749, x3752, rfl, r3753, hf, H⟩
   try dsimp only at hF
   refine CW.at hf <| C_seq <| H.dr (.take 0 (.take 1 (.take 2 (.take 3 (.take 4 (.take 5 (.take 6 (.take 7 (.take 8 (.take 9 (.take 10 (.take 11 (.take 12 (.take 13 (.take 14 .done))))))))))))))) none hm0 (by kernel_rfl) ?_
   replace H := H.drew
   refine dq rfl (fun _ _ => Q_move rfl) rfl rfl <| dq (v := .pointer (some ⟨b2504, 1, none⟩)) rfl (fun _ _ => Q_fld Tryz.underlying81 rfl ty23 (by decide) rfl rfl) rfl rfl <| dq (v := v4) rfl (fun _ hw => Q_ldB (k := 1) (cs := [v4]) hw rfl ty23 rfl rfl rfl (fun _ => rfl) rfl) rfl rfl <| dq rfl (fun _ _ => Q_move rfl) rfl rfl ?_
   obtain ⟨x4966, hx4966, hF⟩ := bnd hF
   obtain ⟨b4967, o4968, c4969, hc4970, ha4971, hi4972⟩ := idxR r6 hx4966
   refine dq rfl (fun _ _ => Q_idx hi4972 Tryz.underlying23 ty3 rfl rfl) rfl rfl <| dq (v := .int .i64 x4966) rfl (fun _ hw => Q_ld (show cellsAt _ _ _ [.int .i64 x4966] from (show _ = [_] from hc4970) ▸ (ha4971.up hw.view)) ty3 rfl (fun _ => rfl) rfl rfl) rfl rfl <| dq (v := .pointer (some ⟨b2506, 1, none⟩)) rfl (fun _ _ => Q_fld Tryz.underlying81 rfl ty23 (by decide) rfl rfl) rfl rfl <| dq (v := v13) rfl (fun _ hw => Q_ldB (k := 2) (cs := [v13]) hw rfl ty23 rfl rfl rfl (fun _ => rfl) rfl) rfl rfl <| dq rfl (fun _ _ => Q_move rfl) rfl rfl ?_
   obtain ⟨x4973, hx4973, hF⟩ := bnd hF
   obtain ⟨b4974, o4975, c4976, hc4977, ha4978, hi4979⟩ := idxR r15 hx4973
   refine dq rfl (fun _ _ => Q_idx hi4979 Tryz.underlying23 ty3 rfl rfl) rfl rfl <| dq (v := .int .i64 x4973) rfl (fun _ hw => Q_ld (show cellsAt _ _ _ [.int .i64 x4973] from (show _ = [_] from hc4977) ▸ (ha4978.up hw.view)) ty3 rfl (fun _ => rfl) rfl rfl) rfl rfl <| dq rfl (fun _ _ => Q_assign rfl) rfl rfl <| dq rfl (fun _ _ => Q_assign rfl) rfl rfl <| dq rfl (fun _ _ => Q_assign rfl) rfl rfl <| dq rfl (fun _ _ => Q_assign rfl) rfl rfl <| DL_nil <| x_then <| C_ret ?_
   replace H := H.e2.e1
   obtain rfl := Option.some.inj hF
   exact fn_ret (l := [.tmp 8, .tmp 9, .tmp 10, .tmp 11]) (vs := [v3750, .int .i64 x4966, .int .i64 x4973, .bool true]) rfl rfl rfl ⟨v3750, c3751, x3752, x4966, x4973, true, rfl, rfl, r3753, H⟩
theorem c_54 {N : Nat} {C : Cx} {w : World} {ρ : View} {hs : List Hl} {gV : Nat → Value} {v1 : Value} {v4 : Value} {v7 : Value} {v10 : Value} {v13 : Value} {v16 : Value} {x2 : (List (List Int))} {x5 : (List Int)} {x8 : (List Int)} {x11 : (List (List Int))} {x14 : (List Int)} {x17 : (List Int)} (H : Hp C w ρ (hs)) (gle : GErrs ρ 394 errIds gV) (r3 : RdSl ρ (eA 256 (eI .i64)) v1 x2) (r6 : RdSl ρ (eI .i64) v4 x5) (r9 : RdSl ρ (eI .i64) v7 x8) (r12 : RdSl ρ (eA 256 (eI .i64)) v10 x11) (r15 : RdSl ρ (eI .i64) v13 x14) (r18 : RdSl ρ (eI .i64) v16 x17) {r : Bool} (hF : F_product_Alike N x2 x5 x8 x11 x14 x17 = some r) :
  Calls Tryz.prog 54 [.agg #[v1, v4, v7], .agg #[v10, v13, v16]].toArray w (Rets (fun v w' => (∃ (ρ' : View) (x53 : Bool), x53 = r ∧ .bool x53 = v ∧ View.le ρ ρ' ∧ Hp C w' ρ' (hs)))) := by
 unfold F_product_Alike at hF
 have h0 : Tryz.f54.body = some _ := rfl
 refine fn_calls' Tryz.func54 h0 (n := 21) rfl (by simp) <| C_seq <| R_nd <| ne (E_box H (vs := [v1, v4, v7]) rfl rfl) rfl rfl ?_
 rintro _ wd55 ⟨b54, rfl, H⟩
 refine ne (E_box H (vs := [v10, v13, v16]) rfl rfl) rfl rfl ?_
 rintro _ wd57 ⟨b56, rfl, H⟩
 refine nq (Q_assign rfl) rfl rfl <| WL_nil <| x_then <| C_seq <| R_nd <| nq (v := .agg #[v1, v4, v7]) (Q_ldB (k := 1) (cs := [v1, v4, v7]) H.ok rfl ty78 rfl rfl rfl (fun h => nomatch h) rfl) rfl rfl <| nq (v := .agg #[v10, v13, v16]) (Q_ldB (k := 0) (cs := [v10, v13, v16]) H.ok rfl ty78 rfl rfl rfl (fun h => nomatch h) rfl) rfl rfl ?_
 obtain ⟨q58, hq58, hF⟩ := bnd hF
 refine ne (E_call fn51 rfl (c_51 H gle  r3 r6 r9 r12 r15 r18 hq58)) rfl rfl ?_
 rintro _ wd68 (⟨ρ, rfl, rfl, lw60, H⟩ | ⟨ρ, v61, x62, x63, x64, x65, rfl, rfl, lw66, r67, H⟩)
 ·try dsimp only at hF
  replace r3 := RdSl.up lw60 r3
  replace r6 := RdSl.up lw60 r6
  replace r9 := RdSl.up lw60 r9
  replace r12 := RdSl.up lw60 r12
  replace r15 := RdSl.up lw60 r15
  replace r18 := RdSl.up lw60 r18
  replace gle := GErrs.up lw60 gle
  refine nq (Q_move rfl) rfl rfl <| nq (Q_extract rfl rfl) rfl rfl <| nq (Q_extract rfl rfl) rfl rfl <| ne (E_alloc H ty90 (zs := [.int .i64 0, .slice none 0 0, .int .i64 0, .int .i64 0]) rfl) rfl rfl ?_
  rintro _ wd70 ⟨b69, rfl, H⟩
  refine ne (E_stB (k := 0) (cs := [.int .i64 0, (.slice none 0 0), .int .i64 0, .int .i64 0]) (vs' := [.int .i64 0, (.slice none 0 0), .int .i64 0, .int .i64 0]) H rfl ty90 rfl rfl rfl rfl (one_cons rfl (one_cons (arr_cells (H.ok.get (k := 1) rfl)).2 (one_cons rfl (one_cons rfl one_nil)))) (by simp) rfl) rfl rfl ?_
  rintro _ wd71 H
  dsimp only [List.set] at H
  refine nq (Q_assign rfl) rfl rfl <| WL_nil <| x_then ?_
  obtain ⟨o77, ho77, hF⟩ := bnd hF
  refine C_cut (fun a w' => ∃ (x76 : Bool), x76 = o77 ∧ Fr 21 a [(4, .bool x76)] ∧ Hp C w' ρ (hs)) ?_ ?_
  ·refine R_nd <| nq (Q_move rfl) rfl rfl <| nq (Q_not rfl) rfl rfl <| nq (Q_move rfl) rfl rfl <| gq (v := .agg #[v1, v4, v7]) (Q_ldB (k := 3) (cs := [v1, v4, v7]) H.ok rfl ty78 rfl rfl rfl (fun h => nomatch h) rfl) rfl rfl rfl <| gq (v := .agg #[v10, v13, v16]) (Q_ldB (k := 2) (cs := [v10, v13, v16]) H.ok rfl ty78 rfl rfl rfl (fun h => nomatch h) rfl) rfl rfl rfl <| gq (v := .agg #[v1, v4, v7, v10, v13, v16]) (Q_buildS st162.choose_spec (ps := [(0, [v1, v4, v7]), (3, [v10, v13, v16])]) rfl ⟨rfl, rfl, by simp, ⟨rfl, rfl, by simp, trivial⟩⟩ rfl) rfl rfl rfl ?_
   obtain ⟨q78, hq78, ho77⟩ := bnd ho77
   refine ge (E_call fn100 rfl (c_100 H gle  r3 r6 r9 r12 r15 r18 hq78)) rfl rfl rfl ?_
   rintro _ wd81 ⟨x80, rfl, rfl, H⟩
   try dsimp only at ho77
   refine nq (Q_pickT rfl rfl) rfl rfl <| nq (Q_assign rfl) rfl rfl <| WL_nil ?_
   replace H := H.e3.e2.e1.e0
   obtain rfl := Option.some.inj ho77
   refine x_A fun a hf => ⟨x80, rfl, hf.sub ⟨rfl, trivial⟩, H⟩
  ·rintro a wd82 ⟨x76, rfl, hf, H⟩
   try dsimp only at hF
   refine CW.at hf <| C_ret ?_
   obtain rfl := Option.some.inj hF
   exact fn_ret (l := [.tmp 4]) (vs := [.bool x76]) rfl rfl rfl ⟨ρ, x76, rfl, rfl, lw60, H⟩
 ·try dsimp only at hF
  replace r3 := RdSl.up lw66 r3
  replace r6 := RdSl.up lw66 r6
  replace r9 := RdSl.up lw66 r9
  replace r12 := RdSl.up lw66 r12
  replace r15 := RdSl.up lw66 r15
  replace r18 := RdSl.up lw66 r18
  replace gle := GErrs.up lw66 gle
  refine nq (Q_move rfl) rfl rfl <| nq (Q_extract rfl rfl) rfl rfl <| nq (Q_extract rfl rfl) rfl rfl <| ne (E_alloc H ty90 (zs := [.int .i64 0, .slice none 0 0, .int .i64 0, .int .i64 0]) rfl) rfl rfl ?_
  rintro _ wd84 ⟨b83, rfl, H⟩
  refine ne (E_stB (k := 0) (cs := [.int .i64 x62, v61, .int .i64 x64, .int .i64 x65]) (vs' := [.int .i64 x62, v61, .int .i64 x64, .int .i64 x65]) H rfl ty90 rfl rfl rfl rfl (one_cons rfl (one_cons (RdSl.one r67) (one_cons rfl (one_cons rfl one_nil)))) (by simp) rfl) rfl rfl ?_
  rintro _ wd85 H
  dsimp only [List.set] at H
  refine nq (Q_assign rfl) rfl rfl <| WL_nil <| x_then ?_
  obtain ⟨o86, ho86, hF⟩ := bnd hF
  refine C_cut (fun a w' => Fr 21 a [(4, .bool false)] ∧ Hp C w' ρ (hs)) ?_ ?_
  ·refine R_nd <| nq (Q_move rfl) rfl rfl <| nq (Q_not rfl) rfl rfl <| nq (Q_move rfl) rfl rfl <| gs rfl rfl rfl rfl <| gs rfl rfl rfl rfl <| gs rfl rfl rfl rfl <| gs rfl rfl rfl rfl <| nq (Q_pickF rfl rfl) rfl rfl <| nq (Q_assign rfl) rfl rfl <| WL_nil ?_
   replace H := H.e2.e1.e0
   obtain rfl := Option.some.inj ho86
   refine x_A fun a hf => ⟨hf.sub ⟨rfl, trivial⟩, H⟩
  ·rintro a wd87 ⟨hf, H⟩
   try dsimp only at hF
   refine CW.at hf <| C_ret ?_
   obtain rfl := Option.some.inj hF
   exact fn_ret (l := [.tmp 4]) (vs := [.bool false]) rfl rfl rfl ⟨ρ, false, rfl, rfl, lw66, H⟩
theorem c_55 {N : Nat} {C : Cx} {w : World} {ρ : View} {hs : List Hl} {gV : Nat → Value} {v1 : Value} {v4 : Value} {v7 : Value} {v10 : Value} {v13 : Value} {v16 : Value} {x2 : (List (List Int))} {x5 : (List Int)} {x8 : (List Int)} {x11 : (List (List Int))} {x14 : (List Int)} {x17 : (List Int)} (H : Hp C w ρ (hs)) (gle : GErrs ρ 394 errIds gV) (r3 : RdSl ρ (eA 256 (eI .i64)) v1 x2) (r6 : RdSl ρ (eI .i64) v4 x5) (r9 : RdSl ρ (eI .i64) v7 x8) (r12 : RdSl ρ (eA 256 (eI .i64)) v10 x11) (r15 : RdSl ρ (eI .i64) v13 x14) (r18 : RdSl ρ (eI .i64) v16 x17) {r : Bool} (hF : F_product_Fewer N x2 x5 x8 x11 x14 x17 = some r) :
  Calls Tryz.prog 55 [.agg #[v1, v4, v7], .agg #[v10, v13, v16]].toArray w (Rets (fun v w' => (∃ (ρ' : View) (x37 : Bool), x37 = r ∧ .bool x37 = v ∧ View.le ρ ρ' ∧ Hp C w' ρ' (hs)))) := by
 unfold F_product_Fewer at hF
 have h0 : Tryz.f55.body = some _ := rfl
 refine fn_calls' Tryz.func55 h0 (n := 17) rfl (by simp) <| C_seq <| R_nd <| ne (E_box H (vs := [v1, v4, v7]) rfl rfl) rfl rfl ?_
 rintro _ wd39 ⟨b38, rfl, H⟩
 refine ne (E_box H (vs := [v10, v13, v16]) rfl rfl) rfl rfl ?_
 rintro _ wd41 ⟨b40, rfl, H⟩
 refine nq (Q_assign rfl) rfl rfl <| WL_nil <| x_then ?_
 obtain ⟨o48, ho48, hF⟩ := bnd hF
 refine C_cut (fun a w' => ∃ (ρ' : View) (x47 : Bool), View.le ρ ρ' ∧ x47 = o48 ∧ Fr 17 a [(4, .bool x47)] ∧ Hp C w' ρ' (hs)) ?_ ?_
 ·refine R_nd <| nq (v := .agg #[v1, v4, v7]) (Q_ldB (k := 1) (cs := [v1, v4, v7]) H.ok rfl ty78 rfl rfl rfl (fun h => nomatch h) rfl) rfl rfl <| nq (v := .agg #[v10, v13, v16]) (Q_ldB (k := 0) (cs := [v10, v13, v16]) H.ok rfl ty78 rfl rfl rfl (fun h => nomatch h) rfl) rfl rfl ?_
  obtain ⟨q49, hq49, ho48⟩ := bnd ho48
  refine ne (E_call fn54 rfl (c_54 H gle  r3 r6 r9 r12 r15 r18 hq49)) rfl rfl ?_
  rintro _ wd53 ⟨ρ, x51, rfl, rfl, lw52, H⟩
  try dsimp only at ho48
  replace r3 := RdSl.up lw52 r3
  replace r6 := RdSl.up lw52 r6
  replace r9 := RdSl.up lw52 r9
  replace r12 := RdSl.up lw52 r12
  replace r15 := RdSl.up lw52 r15
  replace r18 := RdSl.up lw52 r18
  replace gle := GErrs.up lw52 gle
  refine nq (Q_move rfl) rfl rfl ?_
  rcases Bool.eq_false_or_eq_true x51 with hb | hb
  ·rw [hb]
   replace ho48 := itT hb ho48
   refine gq (v := .pointer (some ⟨b38, 0, none⟩)) (Q_fld Tryz.underlying78 rfl ty76 (by decide) rfl rfl) rfl rfl rfl <| gq (v := v1) (Q_ldB (k := 1) (cs := [v1]) H.ok rfl ty76 rfl rfl rfl (fun _ => rfl) rfl) rfl rfl rfl <| gq (Q_len Tryz.underlying76 rfl r3) rfl rfl rfl <| gq (v := .pointer (some ⟨b40, 0, none⟩)) (Q_fld Tryz.underlying78 rfl ty76 (by decide) rfl rfl) rfl rfl rfl <| gq (v := v10) (Q_ldB (k := 0) (cs := [v10]) H.ok rfl ty76 rfl rfl rfl (fun _ => rfl) rfl) rfl rfl rfl <| gq (Q_len Tryz.underlying76 rfl r12) rfl rfl rfl <| gq (Q_lss rfl rfl) rfl rfl rfl <| nq (Q_pickT rfl rfl) rfl rfl <| nq (Q_assign rfl) rfl rfl <| WL_nil ?_
   replace H := H.e1.e0
   obtain rfl := Option.some.inj ho48
   refine x_A fun a hf => ⟨ρ, decide ((x2.length : Int) < (x11.length : Int)), lw52, rfl, hf.sub ⟨rfl, trivial⟩, H⟩
  ·rw [hb]
   replace ho48 := itF hb ho48
   refine gs rfl rfl rfl rfl <| gs rfl rfl rfl rfl <| gs rfl rfl rfl rfl <| gs rfl rfl rfl rfl <| gs rfl rfl rfl rfl <| gs rfl rfl rfl rfl <| gs rfl rfl rfl rfl <| nq (Q_pickF rfl rfl) rfl rfl <| nq (Q_assign rfl) rfl rfl <| WL_nil ?_
   replace H := H.e1.e0
   obtain rfl := Option.some.inj ho48
   refine x_A fun a hf => ⟨ρ, false, lw52, rfl, hf.sub ⟨rfl, trivial⟩, H⟩
 ·rintro a wd54 ⟨ρ, x47, lw55, rfl, hf, H⟩
  try dsimp only at hF
  replace gle := GErrs.up lw55 gle
  refine CW.at hf <| C_ret ?_
  obtain rfl := Option.some.inj hF
  exact fn_ret (l := [.tmp 4]) (vs := [.bool x47]) rfl rfl rfl ⟨ρ, x47, rfl, rfl, lw55, H⟩
end Go.Proofs.YtealkahefalaeaaGreatDoor
