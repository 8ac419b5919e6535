/-
  The walks of the law ProductBoth, printed by my program, part 1: each function of the code computes its pure function.
-/
import Derived.Test.YtealkahefalaeaaGreatDoorProductBothD1
import Derived.Test.YtealkahefalaeaaGreatDoorProg
import Derived.Test.YtealkahefalaeaaGreatDoorProductBothP1
namespace Go.Proofs.YtealkahefalaeaaGreatDoor
open Go Go.Eng
set_option maxRecDepth 100000
theorem ty3 : Ty Tryz.prog 3 1 8 (.int .i64 0) false := ⟨by kernel_rfl, by kernel_rfl⟩
theorem ty5 : Ty Tryz.prog 5 1 1 (.int .u8 0) false := ⟨by kernel_rfl, by kernel_rfl⟩
theorem ty23 : Ty Tryz.prog 23 1 24 (.slice none 0 0) false := ⟨by kernel_rfl, by kernel_rfl⟩
theorem ty42 : Ty Tryz.prog 42 1 24 (.slice none 0 0) false := ⟨by kernel_rfl, by kernel_rfl⟩
theorem ty53 : Ty Tryz.prog 53 1 16 .nilIface false := ⟨by kernel_rfl, by kernel_rfl⟩
theorem ty76 : Ty Tryz.prog 76 1 24 (.slice none 0 0) false := ⟨by kernel_rfl, by kernel_rfl⟩
theorem ty78 : Ty Tryz.prog 78 3 72 (.agg ([.slice none 0 0, .slice none 0 0, .slice none 0 0]).toArray) true := ⟨by kernel_rfl, by kernel_rfl⟩
theorem ty79 : Ty Tryz.prog 79 1 24 (.slice none 0 0) false := ⟨by kernel_rfl, by kernel_rfl⟩
theorem ty81 : Ty Tryz.prog 81 3 72 (.agg ([.slice none 0 0, .slice none 0 0, .slice none 0 0]).toArray) true := ⟨by kernel_rfl, by kernel_rfl⟩
theorem ty87 : Ty Tryz.prog 87 256 2048 (.agg (repC 256 [.int .i64 0]).toArray) true := ⟨by kernel_rfl, by kernel_rfl⟩
theorem ty88 : Ty Tryz.prog 88 256 2048 (.agg (repC 256 [.int .i64 0]).toArray) true := ⟨by kernel_rfl, by kernel_rfl⟩
theorem ty90 : Ty Tryz.prog 90 4 48 (.agg ([.int .i64 0, .slice none 0 0, .int .i64 0, .int .i64 0]).toArray) true := ⟨by kernel_rfl, by kernel_rfl⟩
theorem ty162 : Ty Tryz.prog 162 6 144 (.agg ([.slice none 0 0, .slice none 0 0, .slice none 0 0, .slice none 0 0, .slice none 0 0, .slice none 0 0]).toArray) true := ⟨by kernel_rfl, by kernel_rfl⟩
theorem ty164 : Ty Tryz.prog 164 2 16 (.agg ([.int .i64 0, .int .i64 0]).toArray) true := ⟨by kernel_rfl, by kernel_rfl⟩
theorem ty166 : Ty Tryz.prog 166 3 40 (.agg ([.int .i64 0, .int .i64 0, .slice none 0 0]).toArray) true := ⟨by kernel_rfl, by kernel_rfl⟩
theorem ty184 : Ty Tryz.prog 184 1 8 (.map none) false := ⟨by kernel_rfl, by kernel_rfl⟩
theorem ty185 : Ty Tryz.prog 185 1 24 (.slice none 0 0) false := ⟨by kernel_rfl, by kernel_rfl⟩
theorem ty187 : Ty Tryz.prog 187 11 248 (.agg ([.slice none 0 0, .slice none 0 0, .slice none 0 0, .slice none 0 0, .slice none 0 0, .slice none 0 0, .slice none 0 0, .slice none 0 0, .slice none 0 0, .map none, .slice none 0 0]).toArray) true := ⟨by kernel_rfl, by kernel_rfl⟩
theorem ty191 : Ty Tryz.prog 191 2 16 (.agg ([.int .i64 0, .int .i64 0]).toArray) true := ⟨by kernel_rfl, by kernel_rfl⟩
theorem st78 : ∃ fs, St Tryz.prog 78 fs [(0, 1), (1, 1), (2, 1)] [.slice none 0 0, .slice none 0 0, .slice none 0 0] := ⟨_, Tryz.underlying78, by kernel_rfl, _, _, _, _, ty78, rfl⟩
theorem st81 : ∃ fs, St Tryz.prog 81 fs [(0, 1), (1, 1), (2, 1)] [.slice none 0 0, .slice none 0 0, .slice none 0 0] := ⟨_, Tryz.underlying81, by kernel_rfl, _, _, _, _, ty81, rfl⟩
theorem st90 : ∃ fs, St Tryz.prog 90 fs [(0, 1), (1, 1), (2, 1), (3, 1)] [.int .i64 0, .slice none 0 0, .int .i64 0, .int .i64 0] := ⟨_, Tryz.underlying90, by kernel_rfl, _, _, _, _, ty90, rfl⟩
theorem st162 : ∃ fs, St Tryz.prog 162 fs [(0, 3), (3, 3)] [.slice none 0 0, .slice none 0 0, .slice none 0 0, .slice none 0 0, .slice none 0 0, .slice none 0 0] := ⟨_, Tryz.underlying162, by kernel_rfl, _, _, _, _, ty162, rfl⟩
theorem st164 : ∃ fs, St Tryz.prog 164 fs [(0, 1), (1, 1)] [.int .i64 0, .int .i64 0] := ⟨_, Tryz.underlying164, by kernel_rfl, _, _, _, _, ty164, rfl⟩
theorem st166 : ∃ fs, St Tryz.prog 166 fs [(0, 2), (2, 1)] [.int .i64 0, .int .i64 0, .slice none 0 0] := ⟨_, Tryz.underlying166, by kernel_rfl, _, _, _, _, ty166, rfl⟩
theorem st187 : ∃ fs, St Tryz.prog 187 fs [(0, 6), (6, 3), (9, 1), (10, 1)] [.slice none 0 0, .slice none 0 0, .slice none 0 0, .slice none 0 0, .slice none 0 0, .slice none 0 0, .slice none 0 0, .slice none 0 0, .slice none 0 0, .map none, .slice none 0 0] := ⟨_, Tryz.underlying187, by kernel_rfl, _, _, _, _, ty187, rfl⟩
theorem kp164 : ∃ f0 f1, Tryz.prog.underlying 164 = some (.struct #[f0, f1]) ∧ fchk f0 0 3 = true ∧ fchk f1 1 3 = true := ⟨_, _, Tryz.underlying164, by kernel_rfl, by kernel_rfl⟩
theorem hm0 : Tryz.prog.follows .mixedOrders = true := by kernel_rfl
theorem fn25 : HasFn Tryz.prog 25 := ⟨_, _, Tryz.func25, by kernel_rfl, rfl⟩
theorem fn46 : HasFn Tryz.prog 46 := ⟨_, _, Tryz.func46, by kernel_rfl, rfl⟩
theorem fn49 : HasFn Tryz.prog 49 := ⟨_, _, Tryz.func49, by kernel_rfl, rfl⟩
theorem fn50 : HasFn Tryz.prog 50 := ⟨_, _, Tryz.func50, by kernel_rfl, rfl⟩
theorem fn51 : HasFn Tryz.prog 51 := ⟨_, _, Tryz.func51, by kernel_rfl, rfl⟩
theorem fn52 : HasFn Tryz.prog 52 := ⟨_, _, Tryz.func52, by kernel_rfl, rfl⟩
theorem fn53 : HasFn Tryz.prog 53 := ⟨_, _, Tryz.func53, by kernel_rfl, rfl⟩
theorem fn57 : HasFn Tryz.prog 57 := ⟨_, _, Tryz.func57, by kernel_rfl, rfl⟩
theorem fn65 : HasFn Tryz.prog 65 := ⟨_, _, Tryz.func65, by kernel_rfl, rfl⟩
theorem fn66 : HasFn Tryz.prog 66 := ⟨_, _, Tryz.func66, by kernel_rfl, rfl⟩
theorem fn67 : HasFn Tryz.prog 67 := ⟨_, _, Tryz.func67, by kernel_rfl, rfl⟩
theorem fn68 : HasFn Tryz.prog 68 := ⟨_, _, Tryz.func68, by kernel_rfl, rfl⟩
theorem fn76 : HasFn Tryz.prog 76 := ⟨_, _, Tryz.func76, by kernel_rfl, rfl⟩
theorem fn99 : HasFn Tryz.prog 99 := ⟨_, _, Tryz.func99, by kernel_rfl, rfl⟩
theorem fn100 : HasFn Tryz.prog 100 := ⟨_, _, Tryz.func100, by kernel_rfl, rfl⟩
theorem fn101 : HasFn Tryz.prog 101 := ⟨_, _, Tryz.func101, by kernel_rfl, rfl⟩
theorem fn102 : HasFn Tryz.prog 102 := ⟨_, _, Tryz.func102, by kernel_rfl, rfl⟩
theorem fn103 : HasFn Tryz.prog 103 := ⟨_, _, Tryz.func103, by kernel_rfl, rfl⟩
theorem fn104 : HasFn Tryz.prog 104 := ⟨_, _, Tryz.func104, by kernel_rfl, rfl⟩
theorem fn105 : HasFn Tryz.prog 105 := ⟨_, _, Tryz.func105, by kernel_rfl, rfl⟩
theorem fn108 : HasFn Tryz.prog 108 := ⟨_, _, Tryz.func108, by kernel_rfl, rfl⟩
theorem fn109 : HasFn Tryz.prog 109 := ⟨_, _, Tryz.func109, by kernel_rfl, rfl⟩
theorem fn113 : HasFn Tryz.prog 113 := ⟨_, _, Tryz.func113, by kernel_rfl, rfl⟩
theorem fn114 : HasFn Tryz.prog 114 := ⟨_, _, Tryz.func114, by kernel_rfl, rfl⟩
theorem fn115 : HasFn Tryz.prog 115 := ⟨_, _, Tryz.func115, by kernel_rfl, rfl⟩
theorem fn116 : HasFn Tryz.prog 116 := ⟨_, _, Tryz.func116, by kernel_rfl, rfl⟩
theorem fn117 : HasFn Tryz.prog 117 := ⟨_, _, Tryz.func117, by kernel_rfl, rfl⟩
theorem fn118 : HasFn Tryz.prog 118 := ⟨_, _, Tryz.func118, by kernel_rfl, rfl⟩
theorem fn128 : HasFn Tryz.prog 128 := ⟨_, _, Tryz.func128, by kernel_rfl, rfl⟩
theorem fn139 : HasFn Tryz.prog 139 := ⟨_, _, Tryz.func139, by kernel_rfl, rfl⟩
theorem fn143 : HasFn Tryz.prog 143 := ⟨_, _, Tryz.func143, by kernel_rfl, rfl⟩
theorem c_108 {N : Nat} {C : Cx} {w : World} {ρ : View} {hs : List Hl} {gV : Nat → Value} {b2 : Nat} {x1 : Int} {x3 : Int} (H : Hp C w ρ (Box b2 [.int .i64 x3] :: hs)) (_gle : GErrs ρ 394 errIds gV) {r : Bool} (hF : F_subset_Right_1 N x1 x3 = some r) :
  Calls Tryz.prog 108 [.int .i64 x1, .pointer (some ⟨b2, 0, none⟩)].toArray w (Rets (fun v w' => (∃ (x7 : Bool), x7 = r ∧ .bool x7 = v ∧ Hp C w' ρ (Box b2 [.int .i64 x3] :: hs)))) := by
 unfold F_subset_Right_1 at hF
 have h0 : Tryz.f108.body = some _ := rfl
 refine fn_calls' Tryz.func108 h0 (n := 11) rfl (by simp) <| C_seq <| R_nd <| nq (Q_assign rfl) rfl rfl <| WL_nil <| x_then ?_
 obtain ⟨o9, ho9, hF⟩ := bnd hF
 refine C_cut (fun a w' => ∃ (x8 : Bool), x8 = o9 ∧ Fr 11 a [(3, .bool x8)] ∧ Hp C w' ρ (Box b2 [.int .i64 x3] :: hs)) ?_ ?_
 ·refine R_nd <| nq (Q_move rfl) rfl rfl <| nq (Q_lss rfl rfl) rfl rfl <| nq (Q_move rfl) rfl rfl ?_
  rcases Bool.eq_false_or_eq_true (decide (x1 < 0)) with hb | hb
  ·rw [hb]
   replace ho9 := itT hb ho9
   refine gs rfl rfl rfl rfl <| gs rfl rfl rfl rfl <| gs rfl rfl rfl rfl <| nq (Q_pickT rfl rfl) rfl rfl <| nq (Q_assign rfl) rfl rfl <| WL_nil ?_
   obtain rfl := Option.some.inj ho9
   refine x_A fun a hf => ⟨true, rfl, hf.sub ⟨rfl, trivial⟩, H⟩
  ·rw [hb]
   replace ho9 := itF hb ho9
   refine gq (Q_move rfl) rfl rfl rfl <| gq (v := .int .i64 x3) (Q_ldB (k := 0) (cs := [.int .i64 x3]) H.ok rfl ty3 rfl rfl rfl (fun _ => rfl) rfl) rfl rfl rfl <| gq (Q_geq rfl rfl) rfl rfl rfl <| nq (Q_pickF rfl rfl) rfl rfl <| nq (Q_assign rfl) rfl rfl <| WL_nil ?_
   obtain rfl := Option.some.inj ho9
   refine x_A fun a hf => ⟨decide (x1 ≥ x3), rfl, hf.sub ⟨rfl, trivial⟩, H⟩
 ·rintro a wd10 ⟨x8, rfl, hf, H⟩
  try dsimp only at hF
  refine CW.at hf <| C_ret ?_
  obtain rfl := Option.some.inj hF
  exact fn_ret (l := [.tmp 3]) (vs := [.bool x8]) rfl rfl rfl ⟨x8, rfl, rfl, H⟩
theorem c_128 {N : Nat} {C : Cx} {w : World} {ρ : View} {hs : List Hl} {gV : Nat → Value} {v1 : Value} {b4 : Nat} {x2 : (List Int)} {x5 : Int} (H : Hp C w ρ (Box b4 [.int .i64 x5] :: hs)) (gle : GErrs ρ 394 errIds gV) (r3 : RdSl ρ (eI .i64) v1 x2) {r : Int} (hF : F_slices_IndexFunc_int_int N x2 x5 = some r) :
  Calls Tryz.prog 128 [v1, .func (.func 108) #[] [.pointer (some ⟨b4, 0, none⟩)].toArray].toArray w (Rets (fun v w' => (∃ (x88 : Int), x88 = r ∧ .int .i64 x88 = v ∧ Hp C w' ρ (Box b4 [.int .i64 x5] :: hs)))) := by
 unfold F_slices_IndexFunc_int_int at hF
 have h0 : Tryz.f128.body = some _ := rfl
 refine fn_calls' Tryz.func128 h0 (n := 19) rfl (by simp) <| C_seq <| R_nd <| nq (Q_assign rfl) rfl rfl <| WL_nil <| x_then <| C_seq <| C_seq <| R_nd <| nq (Q_move rfl) rfl rfl <| nq (Q_len Tryz.underlying23 rfl r3) rfl rfl <| nq (Q_move rfl) rfl rfl <| WL_nil <| x_then ?_
 obtain ⟨o129, ho129, hF⟩ := bnd hF
 refine C_cutQ (fun a w' => .inl () = o129 ∧ Fr 19 a [] ∧ Hp C w' ρ (Box b4 [.int .i64 x5] :: hs)) ?_ ?_
 ·refine C_block ?_
  refine C_iter (f := fun s => F_slices_IndexFunc_int_int_l0 N x2 x5 s) ho129 (fun s a w' => ∃ (x142 : Int), x142 = s ∧ Fr 19 a [(0, v1), (1, .func (.func 108) #[] [.pointer (some ⟨b4, 0, none⟩)].toArray), (7, .int .i64 (x2.length : Int)), (8, .int .i64 x142)] ∧ Hp C w' ρ (Box b4 [.int .i64 x5] :: hs)) ?_ ?_
  ·exact fun a hf => ⟨0, rfl, hf.sub ⟨rfl, rfl, rfl, rfl, trivial⟩, H⟩
  ·rintro s o155 a wd158 ⟨x142, rfl, hf, H⟩ hB156 hO157
   replace hB156 : F_slices_IndexFunc_int_int_l0 N x2 x5 x142 = some o155 := hB156
   unfold F_slices_IndexFunc_int_int_l0 at hB156
   refine CW.at hf <| C_seq <| R_nd <| nq (Q_lss rfl rfl) rfl rfl <| WL_nil <| x_then <| C_seq ?_
   refine C_cond rfl (fun hb => ?_) (fun hb => ?_)
   ·replace hB156 := itT hb hB156
    refine C_skip <| x_then <| C_seq <| C_block <| C_seq <| R_nd <| nq (Q_move rfl) rfl rfl <| nq (Q_assign rfl) rfl rfl <| WL_nil <| x_then <| C_seq <| R_nd <| nq (Q_move rfl) rfl rfl <| nq (Q_move rfl) rfl rfl ?_
    refine nq (Q_move rfl) rfl rfl ?_
    obtain ⟨x159, hx159, hB156⟩ := bnd hB156
    obtain ⟨b160, o161, c162, hc163, ha164, hi165⟩ := idxR r3 hx159
    refine nq (Q_idx hi165 Tryz.underlying23 ty3 rfl rfl) rfl rfl <| nq (v := .int .i64 x159) (Q_ld (show cellsAt _ _ _ [.int .i64 x159] from (show _ = [_] from hc163) ▸ (ha164.up H.ok.view)) ty3 rfl (fun _ => rfl) rfl rfl) rfl rfl ?_
    obtain ⟨q166, hq166, hB156⟩ := bnd hB156
    refine ne (E_callV fn108 rfl rfl (c_108 H gle   hq166)) rfl rfl ?_
    rintro _ wd169 ⟨x168, rfl, rfl, H⟩
    try dsimp only at hB156
    refine WL_nil <| x_then ?_
    refine C_cond rfl (fun hb => ?_) (fun hb => ?_)
    ·replace hB156 := itT hb hB156
     refine C_seq <| R_nd <| nq (Q_move rfl) rfl rfl <| nq (Q_assign rfl) rfl rfl <| WL_nil <| x_then <| C_ret <| x_block_ret <| x_then_ret <| x_then_ret <| x_block_ret <| x_then_ret <| x_then_ret ?_
     obtain rfl := Option.some.inj hB156
     obtain rfl := hO157 _ rfl
     obtain rfl := Option.some.inj (show some _ = some _ from hF)
     exact fn_ret (l := [.tmp 4]) (vs := [.int .i64 x142]) rfl rfl rfl ⟨x142, rfl, rfl, H⟩
    ·replace hB156 := itF hb hB156
     refine C_skip <| x_block <| x_then <| R_nd <| nq (Q_add rfl rfl) rfl rfl <| nq (Q_move rfl) rfl rfl <| WL_nil ?_
     obtain rfl := Option.some.inj hB156
     refine x_A fun a hf => ⟨_, rfl, w64 (x142 + 1), rfl, hf.sub ⟨rfl, rfl, rfl, rfl, trivial⟩, H⟩
   ·replace hB156 := itF hb hB156
    refine C_exit <| x_then_exit <| x_then_exit <| x_block_exit ?_
    obtain rfl := Option.some.inj hB156
    obtain rfl := hO157 _ rfl
    refine x_A fun a hf => ⟨rfl, hf.sub trivial, H⟩
 ·rintro a wd170 ⟨rfl, hf, H⟩
  try dsimp only at hF
  refine XX.at hf <| x_then <| C_seq <| R_nd <| nq (Q_assign rfl) rfl rfl <| WL_nil <| x_then <| C_ret ?_
  obtain rfl := Option.some.inj hF
  exact fn_ret (l := [.tmp 4]) (vs := [.int .i64 (-1)]) rfl rfl rfl ⟨(-1), rfl, rfl, H⟩
theorem c_76 {N : Nat} {C : Cx} {w : World} {ρ : View} {hs : List Hl} {gV : Nat → Value} {v1 : Value} {b4 : Nat} {x2 : (List Int)} {x5 : Int} (H : Hp C w ρ (Box b4 [.int .i64 x5] :: hs)) (gle : GErrs ρ 394 errIds gV) (r3 : RdSl ρ (eI .i64) v1 x2) {r : Bool} (hF : F_slices_ContainsFunc_int_int N x2 x5 = some r) :
  Calls Tryz.prog 76 [v1, .func (.func 108) #[] [.pointer (some ⟨b4, 0, none⟩)].toArray].toArray w (Rets (fun v w' => (∃ (x10 : Bool), x10 = r ∧ .bool x10 = v ∧ Hp C w' ρ (Box b4 [.int .i64 x5] :: hs)))) := by
 unfold F_slices_ContainsFunc_int_int at hF
 have h0 : Tryz.f76.body = some _ := rfl
 refine fn_calls' Tryz.func76 h0 (n := 9) rfl (by simp) <| C_seq <| R_nd <| nq (Q_assign rfl) rfl rfl <| WL_nil <| x_then <| C_seq <| R_nd <| nq (Q_move rfl) rfl rfl <| nq (Q_move rfl) rfl rfl ?_
 obtain ⟨q11, hq11, hF⟩ := bnd hF
 refine ne (E_call fn128 rfl (c_128 H gle  r3 hq11)) rfl rfl ?_
 rintro _ wd14 ⟨x13, rfl, rfl, H⟩
 try dsimp only at hF
 refine nq (Q_geq rfl rfl) rfl rfl <| nq (Q_assign rfl) rfl rfl <| WL_nil <| x_then <| C_ret ?_
 obtain rfl := Option.some.inj hF
 exact fn_ret (l := [.tmp 4]) (vs := [.bool (decide (x13 ≥ 0))]) rfl rfl rfl ⟨decide (x13 ≥ 0), rfl, rfl, H⟩
theorem c_109 {N : Nat} {C : Cx} {w : World} {ρ : View} {hs : List Hl} {gV : Nat → Value} {x1 : Int} (H : Hp C w ρ (hs)) (_gle : GErrs ρ 394 errIds gV) {r : Bool} (hF : F_subset_Right_2 N x1 = some r) :
  Calls Tryz.prog 109 [.int .i64 x1].toArray w (Rets (fun v w' => (∃ (x5 : Bool), x5 = r ∧ .bool x5 = v ∧ Hp C w' ρ (hs)))) := by
 unfold F_subset_Right_2 at hF
 have h0 : Tryz.f109.body = some _ := rfl
 refine fn_calls' Tryz.func109 h0 (n := 9) rfl (by simp) <| C_seq <| R_nd <| nq (Q_assign rfl) rfl rfl <| WL_nil <| x_then ?_
 obtain ⟨o7, ho7, hF⟩ := bnd hF
 refine C_cut (fun a w' => ∃ (x6 : Bool), x6 = o7 ∧ Fr 9 a [(2, .bool x6)] ∧ Hp C w' ρ (hs)) ?_ ?_
 ·refine R_nd <| nq (Q_move rfl) rfl rfl <| nq (Q_lss rfl rfl) rfl rfl <| nq (Q_move rfl) rfl rfl ?_
  rcases Bool.eq_false_or_eq_true (decide (x1 < (-1))) with hb | hb
  ·rw [hb]
   replace ho7 := itT hb ho7
   refine gs rfl rfl rfl rfl <| gs rfl rfl rfl rfl <| nq (Q_pickT rfl rfl) rfl rfl <| nq (Q_assign rfl) rfl rfl <| WL_nil ?_
   obtain rfl := Option.some.inj ho7
   refine x_A fun a hf => ⟨true, rfl, hf.sub ⟨rfl, trivial⟩, H⟩
  ·rw [hb]
   replace ho7 := itF hb ho7
   refine gq (Q_move rfl) rfl rfl rfl <| gq (Q_geq rfl rfl) rfl rfl rfl <| nq (Q_pickF rfl rfl) rfl rfl <| nq (Q_assign rfl) rfl rfl <| WL_nil ?_
   obtain rfl := Option.some.inj ho7
   refine x_A fun a hf => ⟨decide (x1 ≥ 48), rfl, hf.sub ⟨rfl, trivial⟩, H⟩
 ·rintro a wd8 ⟨x6, rfl, hf, H⟩
  try dsimp only at hF
  refine CW.at hf <| C_ret ?_
  obtain rfl := Option.some.inj hF
  exact fn_ret (l := [.tmp 2]) (vs := [.bool x6]) rfl rfl rfl ⟨x6, rfl, rfl, H⟩
theorem c_128_1 {N : Nat} {C : Cx} {w : World} {ρ : View} {hs : List Hl} {gV : Nat → Value} {v1 : Value} {x2 : (List Int)} (H : Hp C w ρ (hs)) (gle : GErrs ρ 394 errIds gV) (r3 : RdSl ρ (eI .i64) v1 x2) {r : Int} (hF : F_slices_IndexFunc_int_int_1 N x2 = some r) :
  Calls Tryz.prog 128 [v1, .func (.func 109) #[] [].toArray].toArray w (Rets (fun v w' => (∃ (x86 : Int), x86 = r ∧ .int .i64 x86 = v ∧ Hp C w' ρ (hs)))) := by
 unfold F_slices_IndexFunc_int_int_1 at hF
 have h0 : Tryz.f128.body = some _ := rfl
 refine fn_calls' Tryz.func128 h0 (n := 19) rfl (by simp) <| C_seq <| R_nd <| nq (Q_assign rfl) rfl rfl <| WL_nil <| x_then <| C_seq <| C_seq <| R_nd <| nq (Q_move rfl) rfl rfl <| nq (Q_len Tryz.underlying23 rfl r3) rfl rfl <| nq (Q_move rfl) rfl rfl <| WL_nil <| x_then ?_
 obtain ⟨o127, ho127, hF⟩ := bnd hF
 refine C_cutQ (fun a w' => .inl () = o127 ∧ Fr 19 a [] ∧ Hp C w' ρ (hs)) ?_ ?_
 ·refine C_block ?_
  refine C_iter (f := fun s => F_slices_IndexFunc_int_int_1_l0 N x2 s) ho127 (fun s a w' => ∃ (x140 : Int), x140 = s ∧ Fr 19 a [(0, v1), (1, .func (.func 109) #[] [].toArray), (7, .int .i64 (x2.length : Int)), (8, .int .i64 x140)] ∧ Hp C w' ρ (hs)) ?_ ?_
  ·exact fun a hf => ⟨0, rfl, hf.sub ⟨rfl, rfl, rfl, rfl, trivial⟩, H⟩
  ·rintro s o153 a wd156 ⟨x140, rfl, hf, H⟩ hB154 hO155
   replace hB154 : F_slices_IndexFunc_int_int_1_l0 N x2 x140 = some o153 := hB154
   unfold F_slices_IndexFunc_int_int_1_l0 at hB154
   refine CW.at hf <| C_seq <| R_nd <| nq (Q_lss rfl rfl) rfl rfl <| WL_nil <| x_then <| C_seq ?_
   refine C_cond rfl (fun hb => ?_) (fun hb => ?_)
   ·replace hB154 := itT hb hB154
    refine C_skip <| x_then <| C_seq <| C_block <| C_seq <| R_nd <| nq (Q_move rfl) rfl rfl <| nq (Q_assign rfl) rfl rfl <| WL_nil <| x_then <| C_seq <| R_nd <| nq (Q_move rfl) rfl rfl <| nq (Q_move rfl) rfl rfl ?_
    refine nq (Q_move rfl) rfl rfl ?_
    obtain ⟨x157, hx157, hB154⟩ := bnd hB154
    obtain ⟨b158, o159, c160, hc161, ha162, hi163⟩ := idxR r3 hx157
    refine nq (Q_idx hi163 Tryz.underlying23 ty3 rfl rfl) rfl rfl <| nq (v := .int .i64 x157) (Q_ld (show cellsAt _ _ _ [.int .i64 x157] from (show _ = [_] from hc161) ▸ (ha162.up H.ok.view)) ty3 rfl (fun _ => rfl) rfl rfl) rfl rfl ?_
    obtain ⟨q164, hq164, hB154⟩ := bnd hB154
    refine ne (E_callV fn109 rfl rfl (c_109 H gle   hq164)) rfl rfl ?_
    rintro _ wd167 ⟨x166, rfl, rfl, H⟩
    try dsimp only at hB154
    refine WL_nil <| x_then ?_
    refine C_cond rfl (fun hb => ?_) (fun hb => ?_)
    ·replace hB154 := itT hb hB154
     refine C_seq <| R_nd <| nq (Q_move rfl) rfl rfl <| nq (Q_assign rfl) rfl rfl <| WL_nil <| x_then <| C_ret <| x_block_ret <| x_then_ret <| x_then_ret <| x_block_ret <| x_then_ret <| x_then_ret ?_
     obtain rfl := Option.some.inj hB154
     obtain rfl := hO155 _ rfl
     obtain rfl := Option.some.inj (show some _ = some _ from hF)
     exact fn_ret (l := [.tmp 4]) (vs := [.int .i64 x140]) rfl rfl rfl ⟨x140, rfl, rfl, H⟩
    ·replace hB154 := itF hb hB154
     refine C_skip <| x_block <| x_then <| R_nd <| nq (Q_add rfl rfl) rfl rfl <| nq (Q_move rfl) rfl rfl <| WL_nil ?_
     obtain rfl := Option.some.inj hB154
     refine x_A fun a hf => ⟨_, rfl, w64 (x140 + 1), rfl, hf.sub ⟨rfl, rfl, rfl, rfl, trivial⟩, H⟩
   ·replace hB154 := itF hb hB154
    refine C_exit <| x_then_exit <| x_then_exit <| x_block_exit ?_
    obtain rfl := Option.some.inj hB154
    obtain rfl := hO155 _ rfl
    refine x_A fun a hf => ⟨rfl, hf.sub trivial, H⟩
 ·rintro a wd168 ⟨rfl, hf, H⟩
  try dsimp only at hF
  refine XX.at hf <| x_then <| C_seq <| R_nd <| nq (Q_assign rfl) rfl rfl <| WL_nil <| x_then <| C_ret ?_
  obtain rfl := Option.some.inj hF
  exact fn_ret (l := [.tmp 4]) (vs := [.int .i64 (-1)]) rfl rfl rfl ⟨(-1), rfl, rfl, H⟩
theorem c_76_1 {N : Nat} {C : Cx} {w : World} {ρ : View} {hs : List Hl} {gV : Nat → Value} {v1 : Value} {x2 : (List Int)} (H : Hp C w ρ (hs)) (gle : GErrs ρ 394 errIds gV) (r3 : RdSl ρ (eI .i64) v1 x2) {r : Bool} (hF : F_slices_ContainsFunc_int_int_1 N x2 = some r) :
  Calls Tryz.prog 76 [v1, .func (.func 109) #[] [].toArray].toArray w (Rets (fun v w' => (∃ (x8 : Bool), x8 = r ∧ .bool x8 = v ∧ Hp C w' ρ (hs)))) := by
 unfold F_slices_ContainsFunc_int_int_1 at hF
 have h0 : Tryz.f76.body = some _ := rfl
 refine fn_calls' Tryz.func76 h0 (n := 9) rfl (by simp) <| C_seq <| R_nd <| nq (Q_assign rfl) rfl rfl <| WL_nil <| x_then <| C_seq <| R_nd <| nq (Q_move rfl) rfl rfl <| nq (Q_move rfl) rfl rfl ?_
 obtain ⟨q9, hq9, hF⟩ := bnd hF
 refine ne (E_call fn128 rfl (c_128_1 H gle  r3 hq9)) rfl rfl ?_
 rintro _ wd12 ⟨x11, rfl, rfl, H⟩
 try dsimp only at hF
 refine nq (Q_geq rfl rfl) rfl rfl <| nq (Q_assign rfl) rfl rfl <| WL_nil <| x_then <| C_ret ?_
 obtain rfl := Option.some.inj hF
 exact fn_ret (l := [.tmp 4]) (vs := [.bool (decide (x11 ≥ 0))]) rfl rfl rfl ⟨decide (x11 ≥ 0), rfl, rfl, H⟩
theorem c_57 {N : Nat} {C : Cx} {w : World} {ρ : View} {hs : List Hl} {gV : Nat → Value} {v1 : Value} {v4 : Value} {v7 : Value} {x2 : (List (List Int))} {x5 : (List Int)} {x8 : (List Int)} (H : Hp C w ρ (hs)) (gle : GErrs ρ 394 errIds gV) (r3 : RdSl ρ (eA 256 (eI .i64)) v1 x2) (r6 : RdSl ρ (eI .i64) v4 x5) (r9 : RdSl ρ (eI .i64) v7 x8) {r : Bool} (hF : F_subset_Right N x2 x5 x8 = some r) :
  Calls Tryz.prog 57 [.agg #[v1, v4, v7]].toArray w (Rets (fun v w' => (∃ (x168 : Bool), x168 = r ∧ .bool x168 = v ∧ Hp C w' ρ (hs)))) := by
 unfold F_subset_Right at hF
 have h0 : Tryz.f57.body = some _ := rfl
 refine fn_calls' Tryz.func57 h0 (n := 71) rfl (by simp) <| C_seq <| R_nd <| ne (E_box H (vs := [v1, v4, v7]) rfl rfl) rfl rfl ?_
 rintro _ wd170 ⟨b169, rfl, H⟩
 refine nq (Q_assign rfl) rfl rfl <| WL_nil <| x_then <| C_seq <| R_nd <| nq (v := .pointer (some ⟨b169, 0, none⟩)) (Q_fld Tryz.underlying78 rfl ty76 (by decide) rfl rfl) rfl rfl <| nq (v := v1) (Q_ldB (k := 0) (cs := [v1]) H.ok rfl ty76 rfl rfl rfl (fun _ => rfl) rfl) rfl rfl <| nq (Q_len Tryz.underlying76 rfl r3) rfl rfl <| ne (E_alloc H ty3 (zs := [.int .i64 0]) rfl) rfl rfl ?_
 rintro _ wd172 ⟨b171, rfl, H⟩
 refine ne (E_stB (k := 0) (cs := [.int .i64 (x2.length : Int)]) (vs' := [.int .i64 (x2.length : Int)]) H rfl ty3 rfl rfl rfl rfl (one_cons rfl one_nil) (by simp) rfl) rfl rfl ?_
 rintro _ wd173 H
 dsimp only [List.set] at H
 refine WL_nil <| x_then <| C_seq ?_
 obtain ⟨o175, ho175, hF⟩ := bnd hF
 refine C_cut (fun a w' => ∃ (x174 : Bool), x174 = o175 ∧ Fr 71 a [(1, .pointer (some ⟨b169, 0, none⟩)), (3, .pointer (some ⟨b171, 0, none⟩)), (35, .bool x174)] ∧ Hp C w' ρ (Box b169 [v1, v4, v7] :: Box b171 [.int .i64 (x2.length : Int)] :: hs)) ?_ ?_
 ·refine R_nd <| nq (v := .int .i64 (x2.length : Int)) (Q_ldB (k := 0) (cs := [.int .i64 (x2.length : Int)]) H.ok rfl ty3 rfl rfl rfl (fun _ => rfl) rfl) rfl rfl <| nq (Q_lss rfl rfl) rfl rfl <| nq (Q_move rfl) rfl rfl ?_
  rcases Bool.eq_false_or_eq_true (decide ((x2.length : Int) < 1)) with hb | hb
  ·rw [hb]
   replace ho175 := itT hb ho175
   refine gs rfl rfl rfl rfl <| gs rfl rfl rfl rfl <| nq (Q_pickT rfl rfl) rfl rfl <| nq (Q_move rfl) rfl rfl <| gs rfl rfl rfl rfl <| gs rfl rfl rfl rfl <| gs rfl rfl rfl rfl <| gs rfl rfl rfl rfl <| gs rfl rfl rfl rfl <| nq (Q_pickT rfl rfl) rfl rfl <| nq (Q_move rfl) rfl rfl <| gs rfl rfl rfl rfl <| gs rfl rfl rfl rfl <| gs rfl rfl rfl rfl ?_
   refine gs rfl rfl rfl rfl <| nq (Q_pickT rfl rfl) rfl rfl <| nq (Q_move rfl) rfl rfl <| gs rfl rfl rfl rfl <| gs rfl rfl rfl rfl <| gs rfl rfl rfl rfl <| gs rfl rfl rfl rfl <| nq (Q_pickT rfl rfl) rfl rfl <| WL_nil ?_
   replace H := H.f1
   obtain rfl := Option.some.inj ho175
   refine x_A fun a hf => ⟨true, rfl, hf.sub ⟨rfl, rfl, rfl, trivial⟩, H⟩
  ·rw [hb]
   replace ho175 := itF hb ho175
   refine gq (v := .int .i64 (x2.length : Int)) (Q_ldB (k := 0) (cs := [.int .i64 (x2.length : Int)]) H.ok rfl ty3 rfl rfl rfl (fun _ => rfl) rfl) rfl rfl rfl <| gq (Q_gtr rfl rfl) rfl rfl rfl <| nq (Q_pickF rfl rfl) rfl rfl <| nq (Q_move rfl) rfl rfl ?_
   rcases Bool.eq_false_or_eq_true (decide ((x2.length : Int) > 200)) with hb | hb
   ·rw [hb]
    replace ho175 := itT hb ho175
    refine gs rfl rfl rfl rfl <| gs rfl rfl rfl rfl <| gs rfl rfl rfl rfl <| gs rfl rfl rfl rfl <| gs rfl rfl rfl rfl <| nq (Q_pickT rfl rfl) rfl rfl <| nq (Q_move rfl) rfl rfl <| gs rfl rfl rfl rfl <| gs rfl rfl rfl rfl <| gs rfl rfl rfl rfl <| gs rfl rfl rfl rfl <| nq (Q_pickT rfl rfl) rfl rfl <| nq (Q_move rfl) rfl rfl <| gs rfl rfl rfl rfl ?_
    refine gs rfl rfl rfl rfl <| gs rfl rfl rfl rfl <| gs rfl rfl rfl rfl <| nq (Q_pickT rfl rfl) rfl rfl <| WL_nil ?_
    replace H := H.f1
    obtain rfl := Option.some.inj ho175
    refine x_A fun a hf => ⟨true, rfl, hf.sub ⟨rfl, rfl, rfl, trivial⟩, H⟩
   ·rw [hb]
    replace ho175 := itF hb ho175
    refine gq (v := .pointer (some ⟨b169, 1, none⟩)) (Q_fld Tryz.underlying78 rfl ty23 (by decide) rfl rfl) rfl rfl rfl <| gq (v := v4) (Q_ldB (k := 1) (cs := [v4]) H.ok rfl ty23 rfl rfl rfl (fun _ => rfl) rfl) rfl rfl rfl <| gq (Q_len Tryz.underlying23 rfl r6) rfl rfl rfl <| gq (v := .int .i64 (x2.length : Int)) (Q_ldB (k := 0) (cs := [.int .i64 (x2.length : Int)]) H.ok rfl ty3 rfl rfl rfl (fun _ => rfl) rfl) rfl rfl rfl <| gq (Q_neq rfl rfl) rfl rfl rfl <| nq (Q_pickF rfl rfl) rfl rfl <| nq (Q_move rfl) rfl rfl ?_
    rcases Bool.eq_false_or_eq_true ((x5.length : Int) != (x2.length : Int)) with hb | hb
    ·rw [hb]
     replace ho175 := itT hb ho175
     refine gs rfl rfl rfl rfl <| gs rfl rfl rfl rfl <| gs rfl rfl rfl rfl <| gs rfl rfl rfl rfl <| nq (Q_pickT rfl rfl) rfl rfl <| nq (Q_move rfl) rfl rfl <| gs rfl rfl rfl rfl <| gs rfl rfl rfl rfl <| gs rfl rfl rfl rfl <| gs rfl rfl rfl rfl <| nq (Q_pickT rfl rfl) rfl rfl <| WL_nil ?_
     replace H := H.f1
     obtain rfl := Option.some.inj ho175
     refine x_A fun a hf => ⟨true, rfl, hf.sub ⟨rfl, rfl, rfl, trivial⟩, H⟩
    ·rw [hb]
     replace ho175 := itF hb ho175
     refine gq (v := .pointer (some ⟨b169, 2, none⟩)) (Q_fld Tryz.underlying78 rfl ty23 (by decide) rfl rfl) rfl rfl rfl <| gq (v := v7) (Q_ldB (k := 1) (cs := [v7]) H.ok rfl ty23 rfl rfl rfl (fun _ => rfl) rfl) rfl rfl rfl <| gq (Q_len Tryz.underlying23 rfl r9) rfl rfl rfl <| gq (Q_lss rfl rfl) rfl rfl rfl <| nq (Q_pickF rfl rfl) rfl rfl <| nq (Q_move rfl) rfl rfl ?_
     rcases Bool.eq_false_or_eq_true (decide ((x8.length : Int) < 1)) with hb | hb
     ·rw [hb]
      replace ho175 := itT hb ho175
      refine gs rfl rfl rfl rfl <| gs rfl rfl rfl rfl <| gs rfl rfl rfl rfl <| gs rfl rfl rfl rfl <| nq (Q_pickT rfl rfl) rfl rfl <| WL_nil ?_
      replace H := H.f1
      obtain rfl := Option.some.inj ho175
      refine x_A fun a hf => ⟨true, rfl, hf.sub ⟨rfl, rfl, rfl, trivial⟩, H⟩
     ·rw [hb]
      replace ho175 := itF hb ho175
      refine gq (v := .pointer (some ⟨b169, 2, none⟩)) (Q_fld Tryz.underlying78 rfl ty23 (by decide) rfl rfl) rfl rfl rfl <| gq (v := v7) (Q_ldB (k := 1) (cs := [v7]) H.ok rfl ty23 rfl rfl rfl (fun _ => rfl) rfl) rfl rfl rfl <| gq (Q_len Tryz.underlying23 rfl r9) rfl rfl rfl <| gq (Q_gtr rfl rfl) rfl rfl rfl <| nq (Q_pickF rfl rfl) rfl rfl <| WL_nil ?_
      replace H := H.f1
      obtain rfl := Option.some.inj ho175
      refine x_A fun a hf => ⟨decide ((x8.length : Int) > 8), rfl, hf.sub ⟨rfl, rfl, rfl, trivial⟩, H⟩
 ·rintro a wd176 ⟨x174, rfl, hf, H⟩
  try dsimp only at hF
  refine CW.at hf ?_
  refine C_cond rfl (fun hb => ?_) (fun hb => ?_)
  ·replace hF := itT hb hF
   refine C_seq <| R_nd <| nq (Q_assign rfl) rfl rfl <| WL_nil <| x_then <| C_ret <| x_then_ret ?_
   replace H := H.e1.e0
   obtain rfl := Option.some.inj hF
   exact fn_ret (l := [.tmp 2]) (vs := [.bool false]) rfl rfl rfl ⟨false, rfl, rfl, H⟩
  ·replace hF := itF hb hF
   refine C_skip <| x_then <| C_seq <| R_nd <| nq (v := .func (.func 108) #[] [.pointer (some ⟨b171, 0, none⟩)].toArray) (Q_func rfl) rfl rfl <| nq (Q_assign rfl) rfl rfl <| WL_nil <| x_then <| C_seq <| C_seq <| R_nd <| nq (v := .pointer (some ⟨b169, 0, none⟩)) (Q_fld Tryz.underlying78 rfl ty76 (by decide) rfl rfl) rfl rfl <| nq (v := v1) (Q_ldB (k := 0) (cs := [v1]) H.ok rfl ty76 rfl rfl rfl (fun _ => rfl) rfl) rfl rfl <| nq (Q_len Tryz.underlying76 rfl r3) rfl rfl ?_
   refine nq (Q_move rfl) rfl rfl <| WL_nil <| x_then ?_
   obtain ⟨o226, ho226, hF⟩ := bnd hF
   refine C_cutQ (fun a w' => .inl () = o226 ∧ Fr 71 a [(1, .pointer (some ⟨b169, 0, none⟩)), (4, .func (.func 108) #[] [.pointer (some ⟨b171, 0, none⟩)].toArray)] ∧ Hp C w' ρ (Box b169 [v1, v4, v7] :: Box b171 [.int .i64 (x2.length : Int)] :: hs)) ?_ ?_
   ·refine C_block ?_
    refine C_iter (f := fun s => F_subset_Right_l0 N x2 s) ho226 (fun s a w' => ∃ (x242 : Int), x242 = s ∧ Fr 71 a [(1, .pointer (some ⟨b169, 0, none⟩)), (4, .func (.func 108) #[] [.pointer (some ⟨b171, 0, none⟩)].toArray), (38, v1), (39, .int .i64 (x2.length : Int)), (40, .int .i64 x242)] ∧ Hp C w' ρ (Box b169 [v1, v4, v7] :: Box b171 [.int .i64 (x2.length : Int)] :: hs)) ?_ ?_
    ·exact fun a hf => ⟨0, rfl, hf.sub ⟨rfl, rfl, rfl, rfl, rfl, trivial⟩, H⟩
    ·rintro s o258 a wd261 ⟨x242, rfl, hf, H⟩ hB259 hO260
     replace hB259 : F_subset_Right_l0 N x2 x242 = some o258 := hB259
     unfold F_subset_Right_l0 at hB259
     refine CW.at hf <| C_seq <| R_nd <| nq (Q_lss rfl rfl) rfl rfl <| WL_nil <| x_then <| C_seq ?_
     refine C_cond rfl (fun hb => ?_) (fun hb => ?_)
     ·replace hB259 := itT hb hB259
      refine C_skip <| x_then <| C_seq <| C_block <| C_seq <| R_nd ?_
      obtain ⟨x262, hx262, hB259⟩ := bnd hB259
      obtain ⟨b263, o264, c265, hc266, ha267, hi268⟩ := idxR r3 hx262
      refine nq (Q_idx hi268 Tryz.underlying76 ty88 rfl rfl) rfl rfl <| nq (v := .agg c265.toArray) (Q_ld (ha267.up H.ok.view) ty88 ((eA 256 (eI .i64)).len hc266) (fun h => nomatch h) rfl rfl) rfl rfl <| ne (E_allocA (N := 256) (n := 1) (zs := (repC 256 [.int .i64 0])) H ty88 rfl (by simp [repC_length])) rfl rfl ?_
      rintro _ wd270 ⟨b269, rfl, H⟩
      refine ne (E_stW (k := 0) H rfl ty88 rfl rfl (rdL.one hc266.2) (arr_clen (rdL_rep (e:=(eI .i64)) (ρ:=ρ) (rfl) 256) List.length_replicate) (arr_clen hc266.2 hc266.1)) rfl rfl ?_
      rintro _ wd271 H
      dsimp only [List.set] at H
      refine WL_nil <| x_then <| C_seq <| R_nd <| nq (v := (.slice (some ⟨b269, 0, none⟩) 256 256)) (Q_slA Tryz.underlying88 ty3 rfl) rfl rfl <| nq (Q_move rfl) rfl rfl ?_
      replace H := H.f2
      obtain ⟨q272, hq272, hB259⟩ := bnd hB259
      obtain ⟨C', ρ', hl273, HA, hL, hback⟩ := Hp.lend (A := [Box b171 [.int .i64 (x2.length : Int)]]) (L := [Arr (.slice (some ⟨b269, 0, none⟩) 256 256) 1 c265]) (F := Box b169 [v1, v4, v7] :: hs) H
      refine ne (E_call fn76 rfl (c_76 HA (gle.up hl273)  (arr_rd (by decide) hl273 (hL (Arr (.slice (some ⟨b269, 0, none⟩) 256 256) 1 c265) (by simp)) hc266.2) hq272)) rfl rfl ?_
      rintro _ wd275 ⟨x274, rfl, rfl, H⟩
      try dsimp only at hB259
      replace H := hback H
      dsimp only [List.cons_append, List.nil_append] at H
      refine WL_nil <| x_then ?_
      refine C_cond rfl (fun hb => ?_) (fun hb => ?_)
      ·replace hB259 := itT hb hB259
       refine C_seq <| R_nd <| nq (Q_assign rfl) rfl rfl <| WL_nil <| x_then <| C_ret <| x_block_ret <| x_then_ret <| x_then_ret <| x_block_ret <| x_then_ret <| x_then_ret ?_
       replace H := H.e2.e1.e0
       obtain rfl := Option.some.inj hB259
       obtain rfl := hO260 _ rfl
       obtain rfl := Option.some.inj (show some _ = some _ from hF)
       exact fn_ret (l := [.tmp 2]) (vs := [.bool false]) rfl rfl rfl ⟨false, rfl, rfl, H⟩
      ·replace hB259 := itF hb hB259
       refine C_skip <| x_block <| x_then <| R_nd <| nq (Q_add rfl rfl) rfl rfl <| nq (Q_move rfl) rfl rfl <| WL_nil ?_
       replace H := H.e1.f1
       obtain rfl := Option.some.inj hB259
       refine x_A fun a hf => ⟨_, rfl, w64 (x242 + 1), rfl, hf.sub ⟨rfl, rfl, rfl, rfl, rfl, trivial⟩, H⟩
     ·replace hB259 := itF hb hB259
      refine C_exit <| x_then_exit <| x_then_exit <| x_block_exit ?_
      obtain rfl := Option.some.inj hB259
      obtain rfl := hO260 _ rfl
      refine x_A fun a hf => ⟨rfl, hf.sub ⟨rfl, rfl, trivial⟩, H⟩
   ·rintro a wd276 ⟨rfl, hf, H⟩
    try dsimp only at hF
    refine XX.at hf <| x_then <| C_seq <| R_nd <| nq (Q_assign rfl) rfl rfl <| WL_nil <| x_then <| C_seq ?_
    obtain ⟨o286, ho286, hF⟩ := bnd hF
    refine C_cut (fun a w' => ∃ (x285 : Bool), x285 = o286 ∧ Fr 71 a [(1, .pointer (some ⟨b169, 0, none⟩)), (57, .bool x285)] ∧ Hp C w' ρ (Box b169 [v1, v4, v7] :: hs)) ?_ ?_
    ·refine R_nd <| nq (v := .pointer (some ⟨b169, 1, none⟩)) (Q_fld Tryz.underlying78 rfl ty23 (by decide) rfl rfl) rfl rfl <| nq (v := v4) (Q_ldB (k := 0) (cs := [v4]) H.ok rfl ty23 rfl rfl rfl (fun _ => rfl) rfl) rfl rfl <| nq (Q_move rfl) rfl rfl ?_
     obtain ⟨q287, hq287, ho286⟩ := bnd ho286
     refine ne (E_call fn76 rfl (c_76_1 H gle  r6 hq287)) rfl rfl ?_
     rintro _ wd290 ⟨x289, rfl, rfl, H⟩
     try dsimp only at ho286
     refine nq (Q_move rfl) rfl rfl ?_
     rcases Bool.eq_false_or_eq_true x289 with hb | hb
     ·rw [hb]
      replace ho286 := itT hb ho286
      refine gs rfl rfl rfl rfl <| gs rfl rfl rfl rfl <| gs rfl rfl rfl rfl <| gs rfl rfl rfl rfl <| nq (Q_pickT rfl rfl) rfl rfl <| WL_nil ?_
      replace H := H.e1
      obtain rfl := Option.some.inj ho286
      refine x_A fun a hf => ⟨true, rfl, hf.sub ⟨rfl, rfl, trivial⟩, H⟩
     ·rw [hb]
      replace ho286 := itF hb ho286
      refine gq (v := .pointer (some ⟨b169, 2, none⟩)) (Q_fld Tryz.underlying78 rfl ty23 (by decide) rfl rfl) rfl rfl rfl <| gq (v := v7) (Q_ldB (k := 0) (cs := [v7]) H.ok rfl ty23 rfl rfl rfl (fun _ => rfl) rfl) rfl rfl rfl <| gq (Q_move rfl) rfl rfl rfl ?_
      replace H := H.f1
      obtain ⟨q291, hq291, ho286⟩ := bnd ho286
      refine ge (E_call fn76 rfl (c_76 H gle  r9 hq291)) rfl rfl rfl ?_
      rintro _ wd294 ⟨x293, rfl, rfl, H⟩
      try dsimp only at ho286
      refine nq (Q_pickF rfl rfl) rfl rfl <| WL_nil ?_
      replace H := H.e0
      obtain rfl := Option.some.inj ho286
      refine x_A fun a hf => ⟨x293, rfl, hf.sub ⟨rfl, rfl, trivial⟩, H⟩
    ·rintro a wd295 ⟨x285, rfl, hf, H⟩
     try dsimp only at hF
     refine CW.at hf ?_
     refine C_cond rfl (fun hb => ?_) (fun hb => ?_)
     ·replace hF := itT hb hF
      refine C_seq <| R_nd <| nq (Q_assign rfl) rfl rfl <| WL_nil <| x_then <| C_ret <| x_then_ret ?_
      replace H := H.e0
      obtain rfl := Option.some.inj hF
      exact fn_ret (l := [.tmp 2]) (vs := [.bool false]) rfl rfl rfl ⟨false, rfl, rfl, H⟩
     ·replace hF := itF hb hF
      refine C_skip <| x_then ?_
      obtain ⟨o311, ho311, hF⟩ := bnd hF
      refine C_cut (fun a w' => ∃ (x310 : Bool), x310 = o311 ∧ Fr 71 a [(2, .bool x310)] ∧ Hp C w' ρ (hs)) ?_ ?_
      ·refine R_nd <| nq (v := .pointer (some ⟨b169, 0, none⟩)) (Q_fld Tryz.underlying78 rfl ty76 (by decide) rfl rfl) rfl rfl <| nq (v := v1) (Q_ldB (k := 0) (cs := [v1]) H.ok rfl ty76 rfl rfl rfl (fun _ => rfl) rfl) rfl rfl ?_
       obtain ⟨x312, hx312, ho311⟩ := bnd ho311
       obtain ⟨b313, o314, c315, hc316, ha317, hi318⟩ := idxR r3 hx312
       refine nq (Q_idx hi318 Tryz.underlying76 ty88 rfl rfl) rfl rfl <| nq (v := .agg c315.toArray) (Q_ld (ha317.up H.ok.view) ty88 ((eA 256 (eI .i64)).len hc316) (fun h => nomatch h) rfl rfl) rfl rfl <| nq (v := .agg (repC 256 [.int .i64 0]).toArray) (Q_build0 (zs := (repC 256 [.int .i64 0])) ty88 Tryz.underlying88 ty3 rfl) rfl rfl <| nq (v := .bool (x312 == (List.replicate 256 0))) (Q_eqlA Tryz.underlying88 ty3 (by kernel_rfl) Tryz.underlying3 hc316.2 hc316.1 (rdL_rep (e:=(eI .i64)) (ρ:=ρ) (rfl) 256) List.length_replicate rfl rfl) rfl rfl <| nq (Q_move rfl) rfl rfl ?_
       rcases Bool.eq_false_or_eq_true (x312 == (List.replicate 256 0)) with hb | hb
       ·rw [hb]
        replace ho311 := itT hb ho311
        refine gq (v := .pointer (some ⟨b169, 1, none⟩)) (Q_fld Tryz.underlying78 rfl ty23 (by decide) rfl rfl) rfl rfl rfl <| gq (v := v4) (Q_ldB (k := 0) (cs := [v4]) H.ok rfl ty23 rfl rfl rfl (fun _ => rfl) rfl) rfl rfl rfl ?_
        obtain ⟨x319, hx319, ho311⟩ := bnd ho311
        obtain ⟨b320, o321, c322, hc323, ha324, hi325⟩ := idxR r6 hx319
        refine gq (Q_idx hi325 Tryz.underlying23 ty3 rfl rfl) rfl rfl rfl <| gq (v := .int .i64 x319) (Q_ld (show cellsAt _ _ _ [.int .i64 x319] from (show _ = [_] from hc323) ▸ (ha324.up H.ok.view)) ty3 rfl (fun _ => rfl) rfl rfl) rfl rfl rfl <| gq (Q_eql rfl rfl) rfl rfl rfl <| nq (Q_pickT rfl rfl) rfl rfl <| nq (Q_assign rfl) rfl rfl <| WL_nil ?_
        replace H := H.e0
        obtain rfl := Option.some.inj ho311
        refine x_A fun a hf => ⟨x319 == (-1), rfl, hf.sub ⟨rfl, trivial⟩, H⟩
       ·rw [hb]
        replace ho311 := itF hb ho311
        refine gs rfl rfl rfl rfl <| gs rfl rfl rfl rfl <| gs rfl rfl rfl rfl <| gs rfl rfl rfl rfl <| gs rfl rfl rfl rfl <| nq (Q_pickF rfl rfl) rfl rfl <| nq (Q_assign rfl) rfl rfl <| WL_nil ?_
        replace H := H.e0
        obtain rfl := Option.some.inj ho311
        refine x_A fun a hf => ⟨false, rfl, hf.sub ⟨rfl, trivial⟩, H⟩
      ·rintro a wd326 ⟨x310, rfl, hf, H⟩
       try dsimp only at hF
       refine CW.at hf <| C_ret ?_
       obtain rfl := Option.some.inj hF
       exact fn_ret (l := [.tmp 2]) (vs := [.bool x310]) rfl rfl rfl ⟨x310, rfl, rfl, H⟩
theorem c_100 {N : Nat} {C : Cx} {w : World} {ρ : View} {hs : List Hl} {gV : Nat → Value} {v1 : Value} {v4 : Value} {v7 : Value} {v10 : Value} {v13 : Value} {v16 : Value} {x2 : (List (List Int))} {x5 : (List Int)} {x8 : (List Int)} {x11 : (List (List Int))} {x14 : (List Int)} {x17 : (List Int)} (H : Hp C w ρ (hs)) (gle : GErrs ρ 394 errIds gV) (r3 : RdSl ρ (eA 256 (eI .i64)) v1 x2) (r6 : RdSl ρ (eI .i64) v4 x5) (r9 : RdSl ρ (eI .i64) v7 x8) (r12 : RdSl ρ (eA 256 (eI .i64)) v10 x11) (r15 : RdSl ρ (eI .i64) v13 x14) (r18 : RdSl ρ (eI .i64) v16 x17) {r : Bool} (hF : F_product_two_right N x2 x5 x8 x11 x14 x17 = some r) :
  Calls Tryz.prog 100 [.agg #[v1, v4, v7, v10, v13, v16]].toArray w (Rets (fun v w' => (∃ (x40 : Bool), x40 = r ∧ .bool x40 = v ∧ Hp C w' ρ (hs)))) := by
 unfold F_product_two_right at hF
 have h0 : Tryz.f100.body = some _ := rfl
 refine fn_calls' Tryz.func100 h0 (n := 11) rfl (by simp) <| C_seq <| R_nd <| ne (E_box H (vs := [v1, v4, v7, v10, v13, v16]) rfl rfl) rfl rfl ?_
 rintro _ wd42 ⟨b41, rfl, H⟩
 refine nq (Q_assign rfl) rfl rfl <| WL_nil <| x_then ?_
 obtain ⟨o52, ho52, hF⟩ := bnd hF
 refine C_cut (fun a w' => ∃ (x51 : Bool), x51 = o52 ∧ Fr 11 a [(2, .bool x51)] ∧ Hp C w' ρ (hs)) ?_ ?_
 ·refine R_nd <| nq (v := .pointer (some ⟨b41, 0, none⟩)) (Q_fld Tryz.underlying162 rfl ty78 (by decide) rfl rfl) rfl rfl <| nq (v := .agg #[v1, v4, v7]) (Q_ldB (k := 0) (cs := [v1, v4, v7]) H.ok rfl ty78 rfl rfl rfl (fun h => nomatch h) rfl) rfl rfl ?_
  obtain ⟨q53, hq53, ho52⟩ := bnd ho52
  refine ne (E_call fn57 rfl (c_57 H gle  r3 r6 r9 hq53)) rfl rfl ?_
  rintro _ wd56 ⟨x55, rfl, rfl, H⟩
  try dsimp only at ho52
  refine nq (Q_move rfl) rfl rfl ?_
  rcases Bool.eq_false_or_eq_true x55 with hb | hb
  ·rw [hb]
   replace ho52 := itT hb ho52
   refine gq (v := .pointer (some ⟨b41, 3, none⟩)) (Q_fld Tryz.underlying162 rfl ty78 (by decide) rfl rfl) rfl rfl rfl <| gq (v := .agg #[v10, v13, v16]) (Q_ldB (k := 0) (cs := [v10, v13, v16]) H.ok rfl ty78 rfl rfl rfl (fun h => nomatch h) rfl) rfl rfl rfl ?_
   obtain ⟨q57, hq57, ho52⟩ := bnd ho52
   refine ge (E_call fn57 rfl (c_57 H gle  r12 r15 r18 hq57)) rfl rfl rfl ?_
   rintro _ wd60 ⟨x59, rfl, rfl, H⟩
   try dsimp only at ho52
   refine nq (Q_pickT rfl rfl) rfl rfl <| nq (Q_assign rfl) rfl rfl <| WL_nil ?_
   replace H := H.e0
   obtain rfl := Option.some.inj ho52
   refine x_A fun a hf => ⟨x59, rfl, hf.sub ⟨rfl, trivial⟩, H⟩
  ·rw [hb]
   replace ho52 := itF hb ho52
   refine gs rfl rfl rfl rfl <| gs rfl rfl rfl rfl <| gs rfl rfl rfl rfl <| nq (Q_pickF rfl rfl) rfl rfl <| nq (Q_assign rfl) rfl rfl <| WL_nil ?_
   replace H := H.e0
   obtain rfl := Option.some.inj ho52
   refine x_A fun a hf => ⟨false, rfl, hf.sub ⟨rfl, trivial⟩, H⟩
 ·rintro a wd61 ⟨x51, rfl, hf, H⟩
  try dsimp only at hF
  refine CW.at hf <| C_ret ?_
  obtain rfl := Option.some.inj hF
  exact fn_ret (l := [.tmp 2]) (vs := [.bool x51]) rfl rfl rfl ⟨x51, rfl, rfl, H⟩
theorem c_143 {N : Nat} {C : Cx} {w : World} {ρ : View} {hs : List Hl} {gV : Nat → Value} {v1 : Value} {v4 : Value} {v7 : Value} {x2 : (List (List Int))} {x5 : (List Int)} {x8 : (List Int)} {x10 : Int} (H : Hp C w ρ (hs)) (_gle : GErrs ρ 394 errIds gV) (_r3 : RdSl ρ (eA 256 (eI .i64)) v1 x2) (_r6 : RdSl ρ (eI .i64) v4 x5) (r9 : RdSl ρ (eI .i64) v7 x8) {r : Int} (hF : F_product_entry N x2 x5 x8 x10 = some r) :
  Calls Tryz.prog 143 [.agg #[v1, v4, v7], .int .i64 x10].toArray w (Rets (fun v w' => (∃ (x23 : Int), x23 = r ∧ .int .i64 x23 = v ∧ Hp C w' ρ (hs)))) := by
 unfold F_product_entry at hF
 have h0 : Tryz.f143.body = some _ := rfl
 refine fn_calls' Tryz.func143 h0 (n := 19) rfl (by simp) <| C_seq <| R_nd <| ne (E_box H (vs := [v1, v4, v7]) rfl rfl) rfl rfl ?_
 rintro _ wd25 ⟨b24, rfl, H⟩
 refine nq (Q_assign rfl) rfl rfl <| WL_nil <| x_then <| C_seq ?_
 obtain ⟨o27, ho27, hF⟩ := bnd hF
 refine C_cut (fun a w' => ∃ (x26 : Bool), x26 = o27 ∧ Fr 19 a [(1, .int .i64 x10), (2, .pointer (some ⟨b24, 0, none⟩)), (13, .bool x26)] ∧ Hp C w' ρ (Box b24 [v1, v4, v7] :: hs)) ?_ ?_
 ·refine R_nd <| nq (Q_move rfl) rfl rfl <| nq (Q_lss rfl rfl) rfl rfl <| nq (Q_move rfl) rfl rfl ?_
  rcases Bool.eq_false_or_eq_true (decide (x10 < 0)) with hb | hb
  ·rw [hb]
   replace ho27 := itT hb ho27
   refine gs rfl rfl rfl rfl <| gs rfl rfl rfl rfl <| gs rfl rfl rfl rfl <| gs rfl rfl rfl rfl <| gs rfl rfl rfl rfl <| nq (Q_pickT rfl rfl) rfl rfl <| WL_nil ?_
   obtain rfl := Option.some.inj ho27
   refine x_A fun a hf => ⟨true, rfl, hf.sub ⟨rfl, rfl, rfl, trivial⟩, H⟩
  ·rw [hb]
   replace ho27 := itF hb ho27
   refine gq (Q_move rfl) rfl rfl rfl <| gq (v := .pointer (some ⟨b24, 2, none⟩)) (Q_fld Tryz.underlying78 rfl ty23 (by decide) rfl rfl) rfl rfl rfl <| gq (v := v7) (Q_ldB (k := 0) (cs := [v7]) H.ok rfl ty23 rfl rfl rfl (fun _ => rfl) rfl) rfl rfl rfl <| gq (Q_len Tryz.underlying23 rfl r9) rfl rfl rfl <| gq (Q_geq rfl rfl) rfl rfl rfl <| nq (Q_pickF rfl rfl) rfl rfl <| WL_nil ?_
   obtain rfl := Option.some.inj ho27
   refine x_A fun a hf => ⟨decide (x10 ≥ (x8.length : Int)), rfl, hf.sub ⟨rfl, rfl, rfl, trivial⟩, H⟩
 ·rintro a wd28 ⟨x26, rfl, hf, H⟩
  try dsimp only at hF
  refine CW.at hf ?_
  refine C_cond rfl (fun hb => ?_) (fun hb => ?_)
  ·replace hF := itT hb hF
   refine C_seq <| R_nd <| nq (Q_assign rfl) rfl rfl <| WL_nil <| x_then <| C_ret <| x_then_ret ?_
   replace H := H.e0
   obtain rfl := Option.some.inj hF
   exact fn_ret (l := [.tmp 4]) (vs := [.int .i64 0]) rfl rfl rfl ⟨0, rfl, rfl, H⟩
  ·replace hF := itF hb hF
   refine C_skip <| x_then <| C_seq <| R_nd <| nq (v := .pointer (some ⟨b24, 2, none⟩)) (Q_fld Tryz.underlying78 rfl ty23 (by decide) rfl rfl) rfl rfl <| nq (v := v7) (Q_ldB (k := 0) (cs := [v7]) H.ok rfl ty23 rfl rfl rfl (fun _ => rfl) rfl) rfl rfl <| nq (Q_move rfl) rfl rfl ?_
   obtain ⟨x29, hx29, hF⟩ := bnd hF
   obtain ⟨b30, o31, c32, hc33, ha34, hi35⟩ := idxR r9 hx29
   refine nq (Q_idx hi35 Tryz.underlying23 ty3 rfl rfl) rfl rfl <| nq (v := .int .i64 x29) (Q_ld (show cellsAt _ _ _ [.int .i64 x29] from (show _ = [_] from hc33) ▸ (ha34.up H.ok.view)) ty3 rfl (fun _ => rfl) rfl rfl) rfl rfl <| nq (Q_assign rfl) rfl rfl <| WL_nil <| x_then <| C_ret ?_
   replace H := H.e0
   obtain rfl := Option.some.inj hF
   exact fn_ret (l := [.tmp 4]) (vs := [.int .i64 x29]) rfl rfl rfl ⟨x29, rfl, rfl, H⟩
theorem c_115 {N : Nat} {C : Cx} {w : World} {ρ : View} {hs : List Hl} {gV : Nat → Value} {v1 : Value} {v4 : Value} {v7 : Value} {v10 : Value} {v13 : Value} {v16 : Value} {x2 : (List (List Int))} {x5 : (List Int)} {x8 : (List Int)} {x11 : (List (List Int))} {x14 : (List Int)} {x17 : (List Int)} {x19 : Int} (H : Hp C w ρ (hs)) (gle : GErrs ρ 394 errIds gV) (r3 : RdSl ρ (eA 256 (eI .i64)) v1 x2) (r6 : RdSl ρ (eI .i64) v4 x5) (r9 : RdSl ρ (eI .i64) v7 x8) (r12 : RdSl ρ (eA 256 (eI .i64)) v10 x11) (r15 : RdSl ρ (eI .i64) v13 x14) (r18 : RdSl ρ (eI .i64) v16 x17) {r : (Int × Int)} (hF : F_product_two_begin N x2 x5 x8 x11 x14 x17 x19 = some r) :
  Calls Tryz.prog 115 [.agg #[v1, v4, v7, v10, v13, v16], .int .i64 x19].toArray w (Rets (fun v w' => (∃ (x46 : Int) (x47 : Int), (x46, x47) = r ∧ .agg #[.int .i64 x46, .int .i64 x47] = v ∧ Hp C w' ρ (hs)))) := by
 unfold F_product_two_begin at hF
 have h0 : Tryz.f115.body = some _ := rfl
 refine fn_calls' Tryz.func115 h0 (n := 14) rfl (by simp) <| C_seq <| R_nd <| ne (E_box H (vs := [v1, v4, v7, v10, v13, v16]) rfl rfl) rfl rfl ?_
 rintro _ wd49 ⟨b48, rfl, H⟩
 refine ne (E_alloc H ty164 (zs := [.int .i64 0, .int .i64 0]) rfl) rfl rfl ?_
 rintro _ wd51 ⟨b50, rfl, H⟩
 refine WL_nil <| x_then ?_
 obtain ⟨o63, ho63, hF⟩ := bnd hF
 refine C_cut (fun a w' => ∃ (x61 : Int) (x62 : Int), (x61, x62) = o63 ∧ Fr 14 a [(4, .pointer (some ⟨b50, 0, none⟩))] ∧ Hp C w' ρ (Box b50 [.int .i64 x61, .int .i64 x62] :: hs)) ?_ ?_
 ·refine R_dr (.take 0 (.take 1 (.take 2 (.take 4 (.take 5 (.take 6 (.one 3 (.bar 7 (some 9) (.take 8 (.bar 9 none .done)))))))))) (some 7) (S := fun w' => Ok w' ρ [Box b50 [.int .i64 0, .int .i64 0], Box b48 [v1, v4, v7, v10, v13, v16]]) hm0 (by kernel_rfl) (H.drew.okS (by simp)) ?_
  replace H := H.drew
  refine dq (v := .pointer (some ⟨b48, 0, none⟩)) rfl (fun _ _ => Q_fld Tryz.underlying162 rfl ty78 (by decide) rfl rfl) rfl rfl <| dq (v := .agg #[v1, v4, v7]) rfl (fun _ hw => Q_ldB (k := 1) (cs := [v1, v4, v7]) hw rfl ty78 rfl rfl rfl (fun h => nomatch h) rfl) rfl rfl <| dq rfl (fun _ _ => Q_move rfl) rfl rfl <| dq (v := .pointer (some ⟨b48, 3, none⟩)) rfl (fun _ _ => Q_fld Tryz.underlying162 rfl ty78 (by decide) rfl rfl) rfl rfl <| dq (v := .agg #[v10, v13, v16]) rfl (fun _ hw => Q_ldB (k := 1) (cs := [v10, v13, v16]) hw rfl ty78 rfl rfl rfl (fun h => nomatch h) rfl) rfl rfl <| dq rfl (fun _ _ => Q_move rfl) rfl rfl ?_
  obtain ⟨q64, hq64, ho63⟩ := bnd ho63
  refine d1 (de rfl (E_call fn143 rfl (c_143 H gle  r3 r6 r9 hq64)) rfl rfl ?_)
  rintro _ wd67 ⟨x66, rfl, rfl, H⟩
  try dsimp only at ho63
  refine ⟨H.okS (by simp), ?_⟩
  obtain ⟨q68, hq68, ho63⟩ := bnd ho63
  refine db rfl (E_call fn143 rfl (c_143 H gle  r12 r15 r18 hq68)) rfl rfl ?_
  rintro _ wd71 ⟨x70, rfl, rfl, H⟩
  try dsimp only at ho63
  refine H.okF <| dq (v := .agg #[.int .i64 x66, .int .i64 x70]) rfl (fun _ _ => Q_buildS st164.choose_spec (ps := [(0, [.int .i64 x66]), (1, [.int .i64 x70])]) rfl ⟨rfl, rfl, by simp, ⟨rfl, rfl, by simp, trivial⟩⟩ rfl) rfl rfl <| db rfl (E_stB (k := 0) (cs := [.int .i64 x66, .int .i64 x70]) (vs' := [.int .i64 x66, .int .i64 x70]) H rfl ty164 rfl rfl rfl rfl (one_cons rfl (one_cons rfl one_nil)) (by simp) rfl) rfl rfl ?_
  rintro _ wd72 H
  dsimp only [List.set] at H
  refine H.okF <| DL_nil ?_
  replace H := H.e1
  obtain rfl := Option.some.inj ho63
  refine x_A fun a hf => ⟨x66, x70, rfl, hf.sub ⟨rfl, trivial⟩, H⟩
 ·rintro a wd73 ⟨x61, x62, rfl, hf, H⟩
  try dsimp only at hF
  refine CW.at hf <| C_ret ?_
  have hRV : RV Tryz.prog wd73 [(4, .pointer (some ⟨b50, 0, none⟩))] [.cell 4 164] [.agg #[.int .i64 x61, .int .i64 x62]] := ⟨⟨_, rfl, run_ldv ty164 rfl (fun h => nomatch h) (box_at (H.ok.get (k := 0) rfl) 0 2)⟩, trivial⟩
  replace H := H.e0
  obtain rfl := Option.some.inj hF
  exact fn_retV (rs := [.cell 4 164]) (vs := [.agg #[.int .i64 x61, .int .i64 x62]]) rfl hRV ⟨x61, x62, rfl, rfl, H⟩
theorem c_103 {N : Nat} {C : Cx} {w : World} {ρ : View} {hs : List Hl} {gV : Nat → Value} {v1 : Value} {v4 : Value} {v7 : Value} {v10 : Value} {v13 : Value} {v16 : Value} {x2 : (List (List Int))} {x5 : (List Int)} {x8 : (List Int)} {x11 : (List (List Int))} {x14 : (List Int)} {x17 : (List Int)} {x19 : Int} {x20 : Int} (H : Hp C w ρ (hs)) (_gle : GErrs ρ 394 errIds gV) (_r3 : RdSl ρ (eA 256 (eI .i64)) v1 x2) (r6 : RdSl ρ (eI .i64) v4 x5) (_r9 : RdSl ρ (eI .i64) v7 x8) (_r12 : RdSl ρ (eA 256 (eI .i64)) v10 x11) (r15 : RdSl ρ (eI .i64) v13 x14) (_r18 : RdSl ρ (eI .i64) v16 x17) {r : (Int × Int)} (hF : F_product_two_rules N x2 x5 x8 x11 x14 x17 x19 x20 = some r) :
  Calls Tryz.prog 103 [.agg #[v1, v4, v7, v10, v13, v16], .agg #[.int .i64 x19, .int .i64 x20]].toArray w (Rets (fun v w' => (∃ (x39 : Int) (x40 : Int), (x39, x40) = r ∧ .tuple [.int .i64 x39, .int .i64 x40].toArray = v ∧ Hp C w' ρ (hs)))) := by
 unfold F_product_two_rules at hF
 have h0 : Tryz.f103.body = some _ := rfl
 refine fn_calls' Tryz.func103 h0 (n := 20) rfl (by simp) <| C_seq <| R_nd <| ne (E_box H (vs := [v1, v4, v7, v10, v13, v16]) rfl rfl) rfl rfl ?_
 rintro _ wd42 ⟨b41, rfl, H⟩
 refine ne (E_box H (vs := [.int .i64 x19, .int .i64 x20]) rfl rfl) rfl rfl ?_
 rintro _ wd44 ⟨b43, rfl, H⟩
 refine nq (Q_assign rfl) rfl rfl <| nq (Q_assign rfl) rfl rfl <| WL_nil <| x_then <| C_seq <| H.dr (.take 0 (.take 1 (.take 2 (.take 3 (.take 4 (.take 5 (.take 6 (.take 7 (.take 8 (.take 9 (.take 10 (.take 11 (.take 12 (.take 13 (.take 14 (.take 15 .done)))))))))))))))) none hm0 (by kernel_rfl) ?_
 replace H := H.drew
 refine dq (v := .pointer (some ⟨b41, 0, none⟩)) rfl (fun _ _ => Q_fld Tryz.underlying162 rfl ty78 (by decide) rfl rfl) rfl rfl <| dq (v := .pointer (some ⟨b41, 1, none⟩)) rfl (fun _ _ => Q_fld Tryz.underlying78 rfl ty23 (by decide) rfl rfl) rfl rfl <| dq (v := v4) rfl (fun _ hw => Q_ldB (k := 1) (cs := [v4]) hw rfl ty23 rfl rfl rfl (fun _ => rfl) rfl) rfl rfl <| dq (v := .pointer (some ⟨b43, 0, none⟩)) rfl (fun _ _ => Q_fld Tryz.underlying164 rfl ty3 (by decide) rfl rfl) rfl rfl <| dq (v := .int .i64 x19) rfl (fun _ hw => Q_ldB (k := 0) (cs := [.int .i64 x19]) hw rfl ty3 rfl rfl rfl (fun _ => rfl) rfl) rfl rfl ?_
 obtain ⟨x45, hx45, hF⟩ := bnd hF
 obtain ⟨b46, o47, c48, hc49, ha50, hi51⟩ := idxR r6 hx45
 refine dq rfl (fun _ _ => Q_idx hi51 Tryz.underlying23 ty3 rfl rfl) rfl rfl <| dq (v := .int .i64 x45) rfl (fun _ hw => Q_ld (show cellsAt _ _ _ [.int .i64 x45] from (show _ = [_] from hc49) ▸ (ha50.up hw.view)) ty3 rfl (fun _ => rfl) rfl rfl) rfl rfl <| dq (v := .pointer (some ⟨b41, 3, none⟩)) rfl (fun _ _ => Q_fld Tryz.underlying162 rfl ty78 (by decide) rfl rfl) rfl rfl <| dq (v := .pointer (some ⟨b41, 4, none⟩)) rfl (fun _ _ => Q_fld Tryz.underlying78 rfl ty23 (by decide) rfl rfl) rfl rfl <| dq (v := v13) rfl (fun _ hw => Q_ldB (k := 1) (cs := [v13]) hw rfl ty23 rfl rfl rfl (fun _ => rfl) rfl) rfl rfl <| dq (v := .pointer (some ⟨b43, 1, none⟩)) rfl (fun _ _ => Q_fld Tryz.underlying164 rfl ty3 (by decide) rfl rfl) rfl rfl <| dq (v := .int .i64 x20) rfl (fun _ hw => Q_ldB (k := 0) (cs := [.int .i64 x20]) hw rfl ty3 rfl rfl rfl (fun _ => rfl) rfl) rfl rfl ?_
 obtain ⟨x52, hx52, hF⟩ := bnd hF
 obtain ⟨b53, o54, c55, hc56, ha57, hi58⟩ := idxR r15 hx52
 refine dq rfl (fun _ _ => Q_idx hi58 Tryz.underlying23 ty3 rfl rfl) rfl rfl <| dq (v := .int .i64 x52) rfl (fun _ hw => Q_ld (show cellsAt _ _ _ [.int .i64 x52] from (show _ = [_] from hc56) ▸ (ha57.up hw.view)) ty3 rfl (fun _ => rfl) rfl rfl) rfl rfl <| dq rfl (fun _ _ => Q_assign rfl) rfl rfl <| dq rfl (fun _ _ => Q_assign rfl) rfl rfl <| DL_nil <| x_then <| C_ret ?_
 replace H := H.e1.e0
 obtain rfl := Option.some.inj hF
 exact fn_ret (l := [.tmp 4, .tmp 5]) (vs := [.int .i64 x45, .int .i64 x52]) rfl rfl rfl ⟨x45, x52, rfl, rfl, H⟩
theorem c_102 {N : Nat} {C : Cx} {w : World} {ρ : View} {hs : List Hl} {gV : Nat → Value} {x1 : Int} {x2 : Int} (H : Hp C w ρ (hs)) (_gle : GErrs ρ 394 errIds gV) {r : Unit} (hF : F_product_Differ_1 N x1 x2 = some r) :
  Calls Tryz.prog 102 [.int .i64 x1, .int .i64 x2].toArray w (Rets (fun v w' => (() = r ∧ .bool (x1 != x2) = v ∧ Hp C w' ρ (hs)))) := by
 unfold F_product_Differ_1 at hF
 have h0 : Tryz.f102.body = some _ := rfl
 refine fn_calls' Tryz.func102 h0 (n := 8) rfl (by simp) <| C_seq <| R_nd <| nq (Q_assign rfl) rfl rfl <| WL_nil <| x_then <| C_seq <| R_nd <| nq (Q_move rfl) rfl rfl <| nq (Q_move rfl) rfl rfl <| nq (Q_neq rfl rfl) rfl rfl <| nq (Q_assign rfl) rfl rfl <| WL_nil <| x_then ?_
 refine C_ret ?_
 obtain rfl := Option.some.inj hF
 exact fn_ret (l := [.tmp 4]) (vs := [.bool (x1 != x2)]) rfl rfl rfl ⟨rfl, rfl, H⟩
theorem c_116 {N : Nat} {C : Cx} {w : World} {ρ : View} {hs : List Hl} {gV : Nat → Value} {v1 : Value} {v4 : Value} {v7 : Value} {v10 : Value} {v13 : Value} {v16 : Value} {x2 : (List (List Int))} {x5 : (List Int)} {x8 : (List Int)} {x11 : (List (List Int))} {x14 : (List Int)} {x17 : (List Int)} {x19 : Int} {x20 : Int} {x21 : Int} (H : Hp C w ρ (hs)) (_gle : GErrs ρ 394 errIds gV) (r3 : RdSl ρ (eA 256 (eI .i64)) v1 x2) (_r6 : RdSl ρ (eI .i64) v4 x5) (_r9 : RdSl ρ (eI .i64) v7 x8) (r12 : RdSl ρ (eA 256 (eI .i64)) v10 x11) (_r15 : RdSl ρ (eI .i64) v13 x14) (_r18 : RdSl ρ (eI .i64) v16 x17) {r : (Int × Int)} (hF : F_product_two_next N x2 x5 x8 x11 x14 x17 x19 x20 x21 = some r) :
  Calls Tryz.prog 116 [.agg #[v1, v4, v7, v10, v13, v16], .agg #[.int .i64 x19, .int .i64 x20], .int .i64 x21].toArray w (Rets (fun v w' => (∃ (x82 : Int) (x83 : Int), (x82, x83) = r ∧ .agg #[.int .i64 x82, .int .i64 x83] = v ∧ Hp C w' ρ (hs)))) := by
 unfold F_product_two_next at hF
 have h0 : Tryz.f116.body = some _ := rfl
 refine fn_calls' Tryz.func116 h0 (n := 26) rfl (by simp) <| C_seq <| R_nd <| ne (E_box H (vs := [v1, v4, v7, v10, v13, v16]) rfl rfl) rfl rfl ?_
 rintro _ wd85 ⟨b84, rfl, H⟩
 refine ne (E_box H (vs := [.int .i64 x19, .int .i64 x20]) rfl rfl) rfl rfl ?_
 rintro _ wd87 ⟨b86, rfl, H⟩
 refine ne (E_alloc H ty164 (zs := [.int .i64 0, .int .i64 0]) rfl) rfl rfl ?_
 rintro _ wd89 ⟨b88, rfl, H⟩
 refine WL_nil <| x_then ?_
 obtain ⟨o117, ho117, hF⟩ := bnd hF
 refine C_cut (fun a w' => ∃ (x115 : Int) (x116 : Int), (x115, x116) = o117 ∧ Fr 26 a [(6, .pointer (some ⟨b88, 0, none⟩))] ∧ Hp C w' ρ (Box b88 [.int .i64 x115, .int .i64 x116] :: hs)) ?_ ?_
 ·refine H.dr (.take 0 (.take 1 (.take 2 (.take 3 (.take 4 (.take 5 (.take 6 (.take 7 (.take 8 (.take 9 (.take 10 (.take 11 (.take 12 (.take 13 (.take 14 (.take 15 (.take 16 (.take 17 (.take 18 (.bar 19 none .done)))))))))))))))))))) (some 19) hm0 (by kernel_rfl) ?_
  replace H := H.drew
  refine dq (v := .pointer (some ⟨b84, 0, none⟩)) rfl (fun _ _ => Q_fld Tryz.underlying162 rfl ty78 (by decide) rfl rfl) rfl rfl <| dq (v := .pointer (some ⟨b84, 0, none⟩)) rfl (fun _ _ => Q_fld Tryz.underlying78 rfl ty76 (by decide) rfl rfl) rfl rfl <| dq (v := v1) rfl (fun _ hw => Q_ldB (k := 2) (cs := [v1]) hw rfl ty76 rfl rfl rfl (fun _ => rfl) rfl) rfl rfl <| dq (v := .pointer (some ⟨b86, 0, none⟩)) rfl (fun _ _ => Q_fld Tryz.underlying164 rfl ty3 (by decide) rfl rfl) rfl rfl <| dq (v := .int .i64 x19) rfl (fun _ hw => Q_ldB (k := 1) (cs := [.int .i64 x19]) hw rfl ty3 rfl rfl rfl (fun _ => rfl) rfl) rfl rfl <| dq rfl (fun _ _ => Q_move rfl) rfl rfl ?_
  obtain ⟨x118, hx118, ho117⟩ := bnd ho117
  obtain ⟨b119, o120, c121, hc122, ha123, hi124⟩ := idxR r3 hx118
  refine dq rfl (fun _ _ => Q_idx hi124 Tryz.underlying76 ty88 rfl rfl) rfl rfl ?_
  obtain ⟨x125, hx125, ho117⟩ := bnd ho117
  have hn126 := idx_lt hc122.1 hx125
  refine dq rfl (fun _ _ => Q_idxA hn126.1 hn126.2 Tryz.underlying88 ty3 rfl rfl) rfl rfl ?_
  obtain ⟨c127, hc128, ha129, _⟩ := arrR hc122 ha123 hx125
  refine dq (v := .int .i64 x125) rfl (fun _ hw => Q_ld (show cellsAt _ _ _ [.int .i64 x125] from (show _ = [_] from hc128) ▸ (ha129.up hw.view)) ty3 rfl (fun _ => rfl) rfl rfl) rfl rfl <| dq (v := .pointer (some ⟨b84, 3, none⟩)) rfl (fun _ _ => Q_fld Tryz.underlying162 rfl ty78 (by decide) rfl rfl) rfl rfl <| dq (v := .pointer (some ⟨b84, 3, none⟩)) rfl (fun _ _ => Q_fld Tryz.underlying78 rfl ty76 (by decide) rfl rfl) rfl rfl <| dq (v := v10) rfl (fun _ hw => Q_ldB (k := 2) (cs := [v10]) hw rfl ty76 rfl rfl rfl (fun _ => rfl) rfl) rfl rfl <| dq (v := .pointer (some ⟨b86, 1, none⟩)) rfl (fun _ _ => Q_fld Tryz.underlying164 rfl ty3 (by decide) rfl rfl) rfl rfl <| dq (v := .int .i64 x20) rfl (fun _ hw => Q_ldB (k := 1) (cs := [.int .i64 x20]) hw rfl ty3 rfl rfl rfl (fun _ => rfl) rfl) rfl rfl <| dq rfl (fun _ _ => Q_move rfl) rfl rfl ?_
  obtain ⟨x130, hx130, ho117⟩ := bnd ho117
  obtain ⟨b131, o132, c133, hc134, ha135, hi136⟩ := idxR r12 hx130
  refine dq rfl (fun _ _ => Q_idx hi136 Tryz.underlying76 ty88 rfl rfl) rfl rfl ?_
  obtain ⟨x137, hx137, ho117⟩ := bnd ho117
  have hn138 := idx_lt hc134.1 hx137
  refine dq rfl (fun _ _ => Q_idxA hn138.1 hn138.2 Tryz.underlying88 ty3 rfl rfl) rfl rfl ?_
  obtain ⟨c139, hc140, ha141, _⟩ := arrR hc134 ha135 hx137
  refine dq (v := .int .i64 x137) rfl (fun _ hw => Q_ld (show cellsAt _ _ _ [.int .i64 x137] from (show _ = [_] from hc140) ▸ (ha141.up hw.view)) ty3 rfl (fun _ => rfl) rfl rfl) rfl rfl <| dq (v := .agg #[.int .i64 x125, .int .i64 x137]) rfl (fun _ _ => Q_buildS st164.choose_spec (ps := [(0, [.int .i64 x125]), (1, [.int .i64 x137])]) rfl ⟨rfl, rfl, by simp, ⟨rfl, rfl, by simp, trivial⟩⟩ rfl) rfl rfl <| db rfl (E_stB (k := 0) (cs := [.int .i64 x125, .int .i64 x137]) (vs' := [.int .i64 x125, .int .i64 x137]) H rfl ty164 rfl rfl rfl rfl (one_cons rfl (one_cons rfl one_nil)) (by simp) rfl) rfl rfl ?_
  rintro _ wd142 H
  dsimp only [List.set] at H
  refine H.okF <| DL_nil ?_
  replace H := H.e2.e1
  obtain rfl := Option.some.inj ho117
  refine x_A fun a hf => ⟨x125, x137, rfl, hf.sub ⟨rfl, trivial⟩, H⟩
 ·rintro a wd143 ⟨x115, x116, rfl, hf, H⟩
  try dsimp only at hF
  refine CW.at hf <| C_ret ?_
  have hRV : RV Tryz.prog wd143 [(6, .pointer (some ⟨b88, 0, none⟩))] [.cell 6 164] [.agg #[.int .i64 x115, .int .i64 x116]] := ⟨⟨_, rfl, run_ldv ty164 rfl (fun h => nomatch h) (box_at (H.ok.get (k := 0) rfl) 0 2)⟩, trivial⟩
  replace H := H.e0
  obtain rfl := Option.some.inj hF
  exact fn_retV (rs := [.cell 6 164]) (vs := [.agg #[.int .i64 x115, .int .i64 x116]]) rfl hRV ⟨x115, x116, rfl, rfl, H⟩
theorem c_139 {N : Nat} {C : Cx} {w : World} {ρ : View} {hs : List Hl} {v : Value} {x : (List Int)} (H : Hp C w ρ (hs)) (r3 : RdSl ρ (eI .u8) v x) {r : (List Int)} (hF : F_clone_139 N x = some r) :
  Calls Tryz.prog 139 [v].toArray w (Rets (fun v w' => (∃ (v1 : Value) (c1 : List Value) (x1 : (List Int)), x1 = r ∧ v1 = v ∧ rdL (eI .u8) ρ x1 c1 ∧ Hp C w' ρ (Arr v1 1 c1 :: hs)))) := by
 unfold F_clone_139 at hF
 refine fn_calls' (args := [v]) Tryz.func139 rfl (n := 8) rfl (by simp) ?_
 refine C_seq ?_
 refine R_nd ?_
 refine nq (v := .slice none 0 0) (Q_assign rfl) rfl rfl ?_
 refine WL_nil ?_
 refine x_then ?_
 refine C_seq ?_
 refine C_seq ?_
 refine R_nd ?_
 refine nq (v := v) (Q_move rfl) rfl rfl ?_
 obtain ⟨o, c, news, rfl, hn, hs3⟩ : ∃ o c news, v = .slice o x.length c ∧ rdL (eI .u8) ρ x news ∧ (o = none → x = []) ∧ ∀ h', View.le ρ h' → Eng.Src h' v 1 news := by
  rcases r3 with ⟨ad, cap, rfl, rfl⟩ | ⟨b, o, cap, cs, rfl, _, h2, h3⟩
  ·exact ⟨ad, cap, [], rfl, rdL.nil, fun _ => rfl, fun _ _ => .inl ⟨ad, cap, rfl, rfl⟩⟩
  ·exact ⟨_, cap, cs, rfl, h2, fun h => (nomatch h), fun _ hl => .inr ⟨b, o, _, cap, rfl, h2.len, h3.up hl⟩⟩
 obtain ⟨hs3, hs4⟩ := hs3
 cases o with
 | none =>
  obtain rfl := hs3 rfl
  refine nq (v := .bool true) (Q_eqlS (o := none) Tryz.underlying42 rfl) rfl rfl ?_
  refine WL_nil ?_
  refine x_then ?_
  refine C_cond rfl (fun _ => ?_) (fun h => nomatch h)
  refine C_seq ?_
  refine R_nd ?_
  refine nq (v := .slice none 0 0) (Q_assign rfl) rfl rfl ?_
  refine WL_nil ?_
  refine x_then ?_
  refine C_ret ?_
  refine x_then_ret ?_
  obtain ⟨_, rfl⟩ := app_some hF
  exact fn_ret (l := [.tmp 2]) (vs := [.slice none 0 0]) rfl rfl rfl ⟨_, [], _, rfl, rfl, rdL.nil, H.nilArr 1⟩
 | some a =>
  refine nq (v := .bool false) (Q_eqlS (o := some a) Tryz.underlying42 rfl) rfl rfl ?_
  refine WL_nil ?_
  refine x_then ?_
  refine C_cond rfl (fun h => nomatch h) (fun _ => ?_)
  refine C_skip ?_
  refine x_then ?_
  obtain ⟨ha, rfl⟩ := app_some hF
  refine C_seq ?_
  refine R_nd ?_
  refine ne (E_bslice0 H Tryz.underlying42 ty5) rfl rfl ?_
  rintro _ w1 ⟨b1, rfl, H1⟩
  refine nq (Q_move rfl) rfl rfl ?_
  have hs5 := hs4 _ H1.view
  refine ne (E_append (k := 0) (cs := []) (news := news) H1 rfl Tryz.underlying42 ty5 rfl (by decide) (by decide) rfl rfl hs5 (rdL.one hn) (app_fit rdL.nil hn ha)) rfl rfl ?_
  rintro v2 w2 ⟨H2, _⟩
  refine nq (v := v2) (Q_assign rfl) rfl rfl ?_
  refine WL_nil ?_
  refine x_then ?_
  refine C_ret ?_
  exact fn_ret (l := [.tmp 2]) (vs := [v2]) rfl rfl rfl ⟨v2, _, _, rfl, rfl, rdL.app rdL.nil hn, H2⟩
theorem c_101 {N : Nat} {C : Cx} {w : World} {ρ : View} {hs : List Hl} {gV : Nat → Value} {v1 : Value} {v4 : Value} {v7 : Value} {v10 : Value} {v13 : Value} {v16 : Value} {x2 : (List (List Int))} {x5 : (List Int)} {x8 : (List Int)} {x11 : (List (List Int))} {x14 : (List Int)} {x17 : (List Int)} {x19 : Int} (H : Hp C w ρ (hs)) (gle : GErrs ρ 394 errIds gV) (r3 : RdSl ρ (eA 256 (eI .i64)) v1 x2) (r6 : RdSl ρ (eI .i64) v4 x5) (r9 : RdSl ρ (eI .i64) v7 x8) (r12 : RdSl ρ (eA 256 (eI .i64)) v10 x11) (r15 : RdSl ρ (eI .i64) v13 x14) (r18 : RdSl ρ (eI .i64) v16 x17) {r : ((Int × Int × (List Int)) ⊕ Unit)} (hF : F_product_two_find N x2 x5 x8 x11 x14 x17 x19 = some r) :
  Calls Tryz.prog 101 [.agg #[v1, v4, v7, v10, v13, v16], .int .i64 x19, .func (.func 102) #[] [].toArray].toArray w (Rets (fun v w' => (∃ (ρ' : View) (v19507 : Value) (x19505 : Int) (x19506 : Int) (x19508 : (List Int)), .inl (x19505, x19506, x19508) = r ∧ .tuple [.agg #[.int .i64 x19505, .int .i64 x19506, v19507], .bool true].toArray = v ∧ View.le ρ ρ' ∧ RdSl ρ' (eI .u8) v19507 x19508 ∧ Hp C w' ρ' (hs)) ∨ (∃ (ρ' : View), .inr () = r ∧ .tuple [.agg #[.int .i64 0, .int .i64 0, (.slice none 0 0)], .bool false].toArray = v ∧ View.le ρ ρ' ∧ Hp C w' ρ' (Arr (.slice none 0 0) 1 ([]) :: hs)))) := by
 unfold F_product_two_find at hF
 have h0 : Tryz.f101.body = some _ := rfl
 refine fn_calls' Tryz.func101 h0 (n := 73) rfl (by simp) <| C_seq <| R_nd <| ne (E_box H (vs := [v1, v4, v7, v10, v13, v16]) rfl rfl) rfl rfl ?_
 rintro _ wd19511 ⟨b19510, rfl, H⟩
 refine ne (E_alloc H ty166 (zs := [.int .i64 0, .int .i64 0, .slice none 0 0]) rfl) rfl rfl ?_
 rintro _ wd19513 ⟨b19512, rfl, H⟩
 refine nq (Q_assign rfl) rfl rfl <| WL_nil <| x_then <| C_seq <| R_nd <| nq (v := .agg #[v1, v4, v7, v10, v13, v16]) (Q_ldB (k := 1) (cs := [v1, v4, v7, v10, v13, v16]) H.ok rfl ty162 rfl rfl rfl (fun h => nomatch h) rfl) rfl rfl <| nq (Q_move rfl) rfl rfl ?_
 obtain ⟨q19514, hq19514, hF⟩ := bnd hF
 refine ne (E_call fn115 rfl (c_115 H gle  r3 r6 r9 r12 r15 r18 hq19514)) rfl rfl ?_
 rintro _ wd19518 ⟨x19516, x19517, rfl, rfl, H⟩
 try dsimp only at hF
 refine nq (v := .agg #[.int .i64 x19516, .int .i64 x19517, .slice none 0 0]) (Q_buildS st166.choose_spec (ps := [(0, [.int .i64 x19516, .int .i64 x19517])]) rfl ⟨rfl, rfl, by simp, trivial⟩ rfl) rfl rfl <| ne (E_alloc H ty166 (zs := [.int .i64 0, .int .i64 0, .slice none 0 0]) rfl) rfl rfl ?_
 rintro _ wd19520 ⟨b19519, rfl, H⟩
 refine ne (E_stB (k := 0) (cs := [.int .i64 x19516, .int .i64 x19517, .slice none 0 0]) (vs' := [.int .i64 x19516, .int .i64 x19517, .slice none 0 0]) H rfl ty166 rfl rfl rfl rfl (one_cons rfl (one_cons rfl (one_cons rfl one_nil))) (by simp) rfl) rfl rfl ?_
 rintro _ wd19521 H
 dsimp only [List.set] at H
 refine WL_nil <| x_then <| C_seq <| R_nd <| ne (E_makeMap (kP2 .i64) (Value.int .i64) H) rfl rfl ?_
 rintro _ wd19523 ⟨b19522, rfl, H⟩
 refine nq (v := .pointer (some ⟨b19519, 0, none⟩)) (Q_fld Tryz.underlying166 rfl ty164 (by decide) rfl rfl) rfl rfl <| nq (v := .agg #[.int .i64 x19516, .int .i64 x19517]) (Q_ldB (k := 1) (cs := [.int .i64 x19516, .int .i64 x19517]) H.ok rfl ty164 rfl rfl rfl (fun h => nomatch h) rfl) rfl rfl <| ne (E_minsert (b := 1) (k := 0) H rfl Tryz.underlying184 (kOk_P2 (k := .i64) kp164 (by kernel_rfl) ty3 Tryz.underlying3) trivial rfl (kP_ev rfl) rfl) rfl rfl ?_
 rintro _ wd19524 H
 dsimp only [List.set] at H
 refine nq (Q_move rfl) rfl rfl <| nq (Q_assign rfl) rfl rfl <| WL_nil <| x_then <| C_seq <| C_seq <| R_nd <| nq (v := .agg #[.int .i64 x19516, .int .i64 x19517, .slice none 0 0]) (Q_ldB (k := 1) (cs := [.int .i64 x19516, .int .i64 x19517, .slice none 0 0]) H.ok rfl ty166 rfl rfl rfl (fun h => nomatch h) rfl) rfl rfl <| ne (E_bslice (xs := [.tmp 22]) (vs := [.agg #[.int .i64 x19516, .int .i64 x19517, .slice none 0 0]]) H Tryz.underlying223 ty166 (by decide) (cs := [.int .i64 x19516, .int .i64 x19517, .slice none 0 0]) rfl (sz_cons rfl sz_nil) rfl (by simp) (by simp) rfl rfl) rfl rfl ?_
 rintro _ wd19526 ⟨b19525, rfl, H⟩
 refine nq (Q_assign rfl) rfl rfl <| WL_nil <| x_then ?_
 obtain ⟨o29258, ho29258, hF⟩ := bnd hF
 refine C_cutQ (fun a w' => ∃ (ρ' : View), View.le ρ ρ' ∧ .inl () = o29258 ∧ Fr 73 a [(6, .pointer (some ⟨b19512, 0, none⟩))] ∧ Hp C w' ρ' (Box b19512 [.int .i64 0, .int .i64 0, .slice none 0 0] :: hs)) ?_ ?_
 ·refine C_block ?_
  replace H := H.e2.f2.f3.f2
  refine C_iter (f := fun s => F_product_two_find_l0 N x2 x5 x8 x11 x14 x17 s.1 s.2) ho29258 (fun s a w' => ∃ (ρ' : View) (v32501 : Value) (c32502 : (List Value)) (x32503 : (List ((Int × Int) × (List Int)))) (x32505 : (List ((Int × Int) × Int))), View.le ρ ρ' ∧ (x32503, x32505) = s ∧ rdL (eP (eP (eI .i64) (eI .i64)) (eL (eI .u8))) ρ' x32503 c32502 ∧ Fr 73 a [(2, .func (.func 102) #[] [].toArray), (3, .pointer (some ⟨b19510, 0, none⟩)), (6, .pointer (some ⟨b19512, 0, none⟩)), (9, .map (some b19522)), (10, v32501)] ∧ Hp C w' ρ' (Arr v32501 3 c32502 :: Box b19510 [v1, v4, v7, v10, v13, v16] :: Box b19512 [.int .i64 0, .int .i64 0, .slice none 0 0] :: Mp (kP2 .i64) (Value.int .i64) b19522 x32505 :: hs)) ?_ ?_
  ·exact fun a hf => ⟨ρ, (.slice (some ⟨b19525, 0, none⟩) 1 1), [.int .i64 x19516, .int .i64 x19517, .slice none 0 0], [((x19516, x19517), [])], (mset ([] : List ((Int × Int) × Int)) (x19516, x19517) 1), (View.le_refl _), rfl, (show rdL (eP (eP (eI .i64) (eI .i64)) (eL (eI .u8))) ρ ([((x19516, x19517), [])]) ([.int .i64 x19516, .int .i64 x19517, .slice none 0 0]) from ⟨([.int .i64 x19516, .int .i64 x19517, .slice none 0 0]), _, rfl, ⟨[.int .i64 x19516, .int .i64 x19517], _, rfl, ⟨[.int .i64 x19516], _, rfl, rfl, rfl⟩, ⟨_, rfl, RdSl.nil⟩⟩, rdL.nil⟩), hf.sub ⟨rfl, rfl, rfl, rfl, rfl, trivial⟩, H⟩
  ·rintro s o35748 a wd35751 ⟨ρ, v32501, c32502, x32503, x32505, lw35752, rfl, r32504, hf, H⟩ hB35749 hO35750
   replace hB35749 : F_product_two_find_l0 N x2 x5 x8 x11 x14 x17 x32503 x32505 = some o35748 := hB35749
   unfold F_product_two_find_l0 at hB35749
   refine CW.at hf ?_
   replace r3 := RdSl.up lw35752 r3
   replace r6 := RdSl.up lw35752 r6
   replace r9 := RdSl.up lw35752 r9
   replace r12 := RdSl.up lw35752 r12
   replace r15 := RdSl.up lw35752 r15
   replace r18 := RdSl.up lw35752 r18
   replace gle := GErrs.up lw35752 gle
   refine C_seq <| C_seq <| R_nd <| nq (Q_move rfl) rfl rfl <| nq (Q_lenA (k := 0) H.ok rfl r32504 (by decide) Tryz.underlying223 rfl) rfl rfl <| nq (Q_gtr rfl rfl) rfl rfl <| WL_nil <| x_then ?_
   refine C_cond rfl (fun hb => ?_) (fun hb => ?_)
   ·replace hB35749 := itT hb hB35749
    refine C_skip <| x_then <| C_seq <| C_block <| C_seq <| R_nd <| nq (Q_move rfl) rfl rfl ?_
    obtain ⟨x35753, hx35753, hB35749⟩ := bnd hB35749
    obtain ⟨b35754, o35755, hi35759, hc35757, ha35758⟩ := arr_at (hs := [Arr v32501 3 c32502]) (k := 0) (by decide) (H.okS (by simp)) rfl r32504 hx35753
    refine nq (Q_idx hi35759 Tryz.underlying223 ty166 rfl rfl) rfl rfl ?_
    obtain ⟨c35760, c35761, he35762, hc35763, hc35764⟩ := (id hc35757)
    obtain ⟨c35765, c35766, he35767, hc35768, hc35769⟩ := hc35763
    obtain ⟨v35770, he35771, r35772⟩ := hc35764
    refine nq (v := .agg #[.int .i64 x35753.1.1, .int .i64 x35753.1.2, v35770]) (Q_ld (show cellsAt _ _ _ [.int .i64 x35753.1.1, .int .i64 x35753.1.2, v35770] from cellsAt.cg (cat2 he35762 (cat2 he35767 (rdI hc35768) (rdI hc35769)) he35771) (ha35758 _ (Ok.subS (by simp) H.ok))) ty166 rfl (fun h => nomatch h) rfl rfl) rfl rfl <| ne (E_alloc H ty166 (zs := [.int .i64 0, .int .i64 0, .slice none 0 0]) rfl) rfl rfl ?_
    rintro _ wd35774 ⟨b35773, rfl, H⟩
    refine ne (E_stB (k := 0) (cs := [.int .i64 x35753.1.1, .int .i64 x35753.1.2, v35770]) (vs' := [.int .i64 x35753.1.1, .int .i64 x35753.1.2, v35770]) H rfl ty166 rfl rfl rfl rfl (one_cons rfl (one_cons rfl (one_cons (RdSl.one r35772) one_nil))) (by simp) rfl) rfl rfl ?_
    rintro _ wd35775 H
    dsimp only [List.set] at H
    refine WL_nil <| x_then <| C_seq <| C_seq <| R_nd <| nq (Q_move rfl) rfl rfl <| nq (v := .agg #[v1, v4, v7, v10, v13, v16]) (Q_ldB (k := 2) (cs := [v1, v4, v7, v10, v13, v16]) H.ok rfl ty162 rfl rfl rfl (fun h => nomatch h) rfl) rfl rfl <| nq (v := .pointer (some ⟨b35773, 0, none⟩)) (Q_fld Tryz.underlying166 rfl ty164 (by decide) rfl rfl) rfl rfl <| nq (v := .agg #[.int .i64 x35753.1.1, .int .i64 x35753.1.2]) (Q_ldB (k := 0) (cs := [.int .i64 x35753.1.1, .int .i64 x35753.1.2]) H.ok rfl ty164 rfl rfl rfl (fun h => nomatch h) rfl) rfl rfl ?_
    obtain ⟨q35776, hq35776, hB35749⟩ := bnd hB35749
    refine ne (E_call fn103 rfl (c_103 H gle  r3 r6 r9 r12 r15 r18 hq35776)) rfl rfl ?_
    rintro _ wd35780 ⟨x35778, x35779, rfl, rfl, H⟩
    try dsimp only at hB35749
    refine nq (Q_extract rfl rfl) rfl rfl <| nq (Q_extract rfl rfl) rfl rfl ?_
    obtain ⟨q35781, hq35781, hB35749⟩ := bnd hB35749
    refine ne (E_callV fn102 rfl rfl (c_102 H gle   hq35781)) rfl rfl ?_
    rintro _ wd35783 ⟨rfl, rfl, H⟩
    try dsimp only at hB35749
    refine WL_nil <| x_then ?_
    refine C_cond rfl (fun hb => ?_) (fun hb => ?_)
    ·replace hB35749 := itT hb hB35749
     refine C_seq <| R_nd <| nq (v := .agg #[.int .i64 x35753.1.1, .int .i64 x35753.1.2, v35770]) (Q_ldB (k := 0) (cs := [.int .i64 x35753.1.1, .int .i64 x35753.1.2, v35770]) H.ok rfl ty166 rfl rfl rfl (fun h => nomatch h) rfl) rfl rfl <| ne (E_stB (k := 3) (cs := [.int .i64 x35753.1.1, .int .i64 x35753.1.2, v35770]) (vs' := [.int .i64 x35753.1.1, .int .i64 x35753.1.2, v35770]) H rfl ty166 rfl rfl rfl rfl (one_cons rfl (one_cons rfl (one_cons (RdSl.one r35772) one_nil))) (by simp) rfl) rfl rfl ?_
     rintro _ wd35784 H
     dsimp only [List.set] at H
     refine nq (Q_assign rfl) rfl rfl <| WL_nil <| x_then <| C_ret <| x_then_ret <| x_block_ret <| x_then_ret <| x_then_ret <| x_block_ret <| x_then_ret <| x_then_ret ?_
     have hRV : RV Tryz.prog wd35784 [(6, .pointer (some ⟨b19512, 0, none⟩)), (7, .bool true)] [.cell 6 166, .tmp 7] [.agg #[.int .i64 x35753.1.1, .int .i64 x35753.1.2, v35770], .bool true] := ⟨⟨_, rfl, run_ldv ty166 rfl (fun h => nomatch h) (box_at (H.ok.get (k := 3) rfl) 0 3)⟩, rfl, trivial⟩
     replace H := H.e4.e3.e2.e1.e0
     obtain rfl := Option.some.inj hB35749
     obtain rfl := hO35750 _ rfl
     obtain rfl := Option.some.inj (show some _ = some _ from hF)
     exact fn_retV (rs := [.cell 6 166, .tmp 7]) (vs := [.agg #[.int .i64 x35753.1.1, .int .i64 x35753.1.2, v35770], .bool true]) rfl hRV (.inl ⟨ρ, v35770, x35753.1.1, x35753.1.2, x35753.2, rfl, rfl, lw35752, r35772, H⟩)
    ·replace hB35749 := itF hb hB35749
     refine C_skip <| x_then <| C_seq <| R_nd <| nq (Q_move rfl) rfl rfl <| WL_nil <| x_then ?_
     obtain ⟨o37385, ho37385, hB35749⟩ := bnd hB35749
     refine C_cutQ (fun a w' => ∃ (ρ' : View) (v37380 : Value) (c37381 : (List Value)) (x37382 : (List ((Int × Int) × (List Int)))) (x37384 : (List ((Int × Int) × Int))), View.le ρ ρ' ∧ (x37382, x37384) = o37385 ∧ rdL (eP (eP (eI .i64) (eI .i64)) (eL (eI .u8))) ρ' x37382 c37381 ∧ Fr 73 a [(2, .func (.func 102) #[] [].toArray), (3, .pointer (some ⟨b19510, 0, none⟩)), (6, .pointer (some ⟨b19512, 0, none⟩)), (9, .map (some b19522)), (10, v37380)] ∧ Hp C w' ρ' (Arr v37380 3 c37381 :: Box b19510 [v1, v4, v7, v10, v13, v16] :: Box b19512 [.int .i64 0, .int .i64 0, .slice none 0 0] :: Mp (kP2 .i64) (Value.int .i64) b19522 x37384 :: hs)) ?_ ?_
     ·refine C_block ?_
      replace H := H.f1
      refine C_iter (f := fun s => F_product_two_find_l1 N x2 x5 x8 x11 x14 x17 x35753 s.1 s.2.1 s.2.2) ho37385 (fun s a w' => ∃ (ρ' : View) (v37916 : Value) (c37917 : (List Value)) (x37918 : (List ((Int × Int) × (List Int)))) (x37920 : Int) (x37921 : (List ((Int × Int) × Int))), View.le ρ ρ' ∧ (x37918, x37920, x37921) = s ∧ rdL (eP (eP (eI .i64) (eI .i64)) (eL (eI .u8))) ρ' x37918 c37917 ∧ Fr 73 a [(2, .func (.func 102) #[] [].toArray), (3, .pointer (some ⟨b19510, 0, none⟩)), (6, .pointer (some ⟨b19512, 0, none⟩)), (9, .map (some b19522)), (10, v37916), (11, .pointer (some ⟨b35773, 0, none⟩)), (41, .int .i64 x37920)] ∧ Hp C w' ρ' (Arr v37916 3 c37917 :: Box b35773 [.int .i64 x35753.1.1, .int .i64 x35753.1.2, v35770] :: Box b19510 [v1, v4, v7, v10, v13, v16] :: Box b19512 [.int .i64 0, .int .i64 0, .slice none 0 0] :: Mp (kP2 .i64) (Value.int .i64) b19522 x37921 :: hs)) ?_ ?_
      ·exact fun a hf => ⟨ρ, v32501, c32502, x32503, 0, x32505, (View.le_refl _), rfl, r32504, hf.sub ⟨rfl, rfl, rfl, rfl, rfl, rfl, rfl, trivial⟩, H⟩
      ·rintro s o38452 a wd38455 ⟨ρ, v37916, c37917, x37918, x37920, x37921, lw38456, rfl, r37919, hf, H⟩ hB38453 hO38454
       replace hB38453 : F_product_two_find_l1 N x2 x5 x8 x11 x14 x17 x35753 x37918 x37920 x37921 = some o38452 := hB38453
       unfold F_product_two_find_l1 at hB38453
       refine CW.at hf ?_
       replace r35772 := RdSl.up lw38456 r35772
       replace r3 := RdSl.up lw38456 r3
       replace r6 := RdSl.up lw38456 r6
       replace r9 := RdSl.up lw38456 r9
       replace r12 := RdSl.up lw38456 r12
       replace r15 := RdSl.up lw38456 r15
       replace r18 := RdSl.up lw38456 r18
       replace gle := GErrs.up lw38456 gle
       refine C_seq <| R_nd <| nq (Q_lss rfl rfl) rfl rfl <| WL_nil <| x_then <| C_seq ?_
       refine C_cond rfl (fun hb => ?_) (fun hb => ?_)
       ·replace hB38453 := itT hb hB38453
        refine C_skip <| x_then ?_
        obtain ⟨o38720, ho38720, hB38453⟩ := bnd hB38453
        refine C_cut (fun a w' => ∃ (ρ' : View) (v38715 : Value) (c38716 : (List Value)) (x38717 : (List ((Int × Int) × (List Int)))) (x38719 : (List ((Int × Int) × Int))), View.le ρ ρ' ∧ (x38717, x38719) = o38720 ∧ rdL (eP (eP (eI .i64) (eI .i64)) (eL (eI .u8))) ρ' x38717 c38716 ∧ Fr 73 a [(2, .func (.func 102) #[] [].toArray), (3, .pointer (some ⟨b19510, 0, none⟩)), (6, .pointer (some ⟨b19512, 0, none⟩)), (9, .map (some b19522)), (10, v38715), (11, .pointer (some ⟨b35773, 0, none⟩)), (41, .int .i64 x37920)] ∧ Hp C w' ρ' (Arr v38715 3 c38716 :: Box b35773 [.int .i64 x35753.1.1, .int .i64 x35753.1.2, v35770] :: Box b19510 [v1, v4, v7, v10, v13, v16] :: Box b19512 [.int .i64 0, .int .i64 0, .slice none 0 0] :: Mp (kP2 .i64) (Value.int .i64) b19522 x38719 :: hs)) ?_ ?_
        ·refine C_block <| C_seq <| R_nd <| nq (Q_move rfl) rfl rfl <| nq (Q_assign rfl) rfl rfl <| WL_nil <| x_then <| C_seq <| R_nd <| nq (v := .agg #[v1, v4, v7, v10, v13, v16]) (Q_ldB (k := 2) (cs := [v1, v4, v7, v10, v13, v16]) H.ok rfl ty162 rfl rfl rfl (fun h => nomatch h) rfl) rfl rfl <| nq (v := .pointer (some ⟨b35773, 0, none⟩)) (Q_fld Tryz.underlying166 rfl ty164 (by decide) rfl rfl) rfl rfl <| nq (v := .agg #[.int .i64 x35753.1.1, .int .i64 x35753.1.2]) (Q_ldB (k := 1) (cs := [.int .i64 x35753.1.1, .int .i64 x35753.1.2]) H.ok rfl ty164 rfl rfl rfl (fun h => nomatch h) rfl) rfl rfl <| nq (Q_move rfl) rfl rfl ?_
         obtain ⟨q38721, hq38721, ho38720⟩ := bnd ho38720
         refine ne (E_call fn116 rfl (c_116 H gle  r3 r6 r9 r12 r15 r18 hq38721)) rfl rfl ?_
         rintro _ wd38725 ⟨x38723, x38724, rfl, rfl, H⟩
         try dsimp only at ho38720
         refine ne (E_alloc H ty164 (zs := [.int .i64 0, .int .i64 0]) rfl) rfl rfl ?_
         rintro _ wd38727 ⟨b38726, rfl, H⟩
         refine ne (E_stB (k := 0) (cs := [.int .i64 x38723, .int .i64 x38724]) (vs' := [.int .i64 x38723, .int .i64 x38724]) H rfl ty164 rfl rfl rfl rfl (one_cons rfl (one_cons rfl one_nil)) (by simp) rfl) rfl rfl ?_
         rintro _ wd38728 H
         dsimp only [List.set] at H
         refine WL_nil <| x_then <| C_seq <| R_nd <| nq (Q_move rfl) rfl rfl <| nq (v := .agg #[.int .i64 x38723, .int .i64 x38724]) (Q_ldB (k := 0) (cs := [.int .i64 x38723, .int .i64 x38724]) H.ok rfl ty164 rfl rfl rfl (fun h => nomatch h) rfl) rfl rfl <| nq (v := .int .i64 ((mget x37921 (x38723, x38724)).getD 0)) (Q_look1 (zp := 0) (k := 5) H.ok rfl Tryz.underlying184 (kOk_P2 (k := .i64) kp164 (by kernel_rfl) ty3 Tryz.underlying3) trivial ty3 rfl rfl (kP_ev rfl)) rfl rfl <| nq (Q_eql rfl rfl) rfl rfl <| WL_nil <| x_then ?_
         obtain ⟨o38855, ho38855, ho38720⟩ := bnd ho38720
         refine C_cutQ (fun a w' => ∃ (ρ' : View) (v38850 : Value) (c38851 : (List Value)) (x38852 : (List ((Int × Int) × (List Int)))) (x38854 : (List ((Int × Int) × Int))), View.le ρ ρ' ∧ (x38852, x38854) = o38855 ∧ rdL (eP (eP (eI .i64) (eI .i64)) (eL (eI .u8))) ρ' x38852 c38851 ∧ Fr 73 a [(2, .func (.func 102) #[] [].toArray), (3, .pointer (some ⟨b19510, 0, none⟩)), (6, .pointer (some ⟨b19512, 0, none⟩)), (9, .map (some b19522)), (10, v38850), (11, .pointer (some ⟨b35773, 0, none⟩)), (41, .int .i64 x37920)] ∧ Hp C w' ρ' (Arr v38850 3 c38851 :: Box b35773 [.int .i64 x35753.1.1, .int .i64 x35753.1.2, v35770] :: Box b19510 [v1, v4, v7, v10, v13, v16] :: Box b19512 [.int .i64 0, .int .i64 0, .slice none 0 0] :: Mp (kP2 .i64) (Value.int .i64) b19522 x38854 :: hs)) ?_ ?_
         ·refine C_cond rfl (fun hb => ?_) (fun hb => ?_)
          ·replace ho38855 := itT hb ho38855
           obtain ⟨o38862, ho38862, ho38855⟩ := bnd ho38855
           refine C_cut (fun a w' => Fr 73 a [(2, .func (.func 102) #[] [].toArray), (3, .pointer (some ⟨b19510, 0, none⟩)), (6, .pointer (some ⟨b19512, 0, none⟩)), (9, .map (some b19522)), (10, v37916), (11, .pointer (some ⟨b35773, 0, none⟩)), (12, .int .i64 x37920), (13, .pointer (some ⟨b38726, 0, none⟩)), (41, .int .i64 x37920)] ∧ Hp C w' ρ (Arr v37916 3 c37917 :: Box b35773 [.int .i64 x35753.1.1, .int .i64 x35753.1.2, v35770] :: Box b38726 [.int .i64 x38723, .int .i64 x38724] :: Box b19510 [v1, v4, v7, v10, v13, v16] :: Box b19512 [.int .i64 0, .int .i64 0, .slice none 0 0] :: Mp (kP2 .i64) (Value.int .i64) b19522 (mset (mset x37921 (x38723, x38724) ((mget x37921 (x38723, x38724)).getD 0)) (x38723, x38724) (w64 (((mget x37921 (x38723, x38724)).getD 0) + 1))) :: hs)) ?_ ?_
           ·refine R_dr (.take 0 (.take 1 (.two 2 4 (.take 3 (.one 4 (.take 5 (.bar 6 none .done)))) (.take 5 (.one 2 (.take 3 (.bar 6 none .done))))))) (some 6) (S := fun w' => Ok w' ρ [Box b38726 [.int .i64 x38723, .int .i64 x38724], Arr v37916 3 c37917, Box b35773 [.int .i64 x35753.1.1, .int .i64 x35753.1.2, v35770], Box b19510 [v1, v4, v7, v10, v13, v16], Box b19512 [.int .i64 0, .int .i64 0, .slice none 0 0]]) hm0 (by kernel_rfl) (H.drew.okS (by simp)) ?_
            replace H := H.drew
            refine dq rfl (fun _ _ => Q_move rfl) rfl rfl <| dq (v := .agg #[.int .i64 x38723, .int .i64 x38724]) rfl (fun _ hw => Q_ldB (k := 0) (cs := [.int .i64 x38723, .int .i64 x38724]) hw rfl ty164 rfl rfl rfl (fun h => nomatch h) rfl) rfl rfl ?_
            refine d2 ?_ ?_
            ·refine de rfl (Eff.quiet (v := .int .i64 ((mget x37921 (x38723, x38724)).getD 0)) (Q_look1 (zp := 0) (k := 5) H.ok rfl Tryz.underlying184 (kOk_P2 (k := .i64) kp164 (by kernel_rfl) ty3 Tryz.underlying3) trivial ty3 rfl rfl (kP_ev rfl))) rfl rfl ?_
             rintro _ _ ⟨rfl, rfl⟩
             refine ⟨H.okS (by simp), ?_⟩
             refine dq rfl (fun _ _ => Q_add rfl rfl) rfl rfl ?_
             refine d1 (de rfl (E_mentry (zp := 0) (k := 5) H rfl Tryz.underlying184 (kOk_P2 (k := .i64) kp164 (by kernel_rfl) ty3 Tryz.underlying3) trivial ty3 rfl rfl (kP_ev rfl)) rfl rfl ?_)
             rintro _ wd38864 ⟨n38863, rfl, H⟩
             refine ⟨H.okS (by simp), ?_⟩
             dsimp only [List.set] at H
             refine dq rfl (fun _ _ => Q_extract rfl rfl) rfl rfl <| db rfl (E_estore (b := (w64 (((mget x37921 (x38723, x38724)).getD 0) + 1))) (k := 5) (kOk_P2 (k := .i64) kp164 (by kernel_rfl) ty3 Tryz.underlying3).law H rfl rfl rfl rfl) rfl rfl ?_
             rintro _ wd38865 H
             refine H.okF ?_
             dsimp only [List.set] at H
             refine DL_nil ?_
             replace H := H.f2.f2
             obtain rfl := Option.some.inj ho38862
             refine x_A fun a hf => ⟨hf.sub ⟨rfl, rfl, rfl, rfl, rfl, rfl, rfl, rfl, rfl, trivial⟩, H⟩
            ·refine de rfl (E_mentry (zp := 0) (k := 5) H rfl Tryz.underlying184 (kOk_P2 (k := .i64) kp164 (by kernel_rfl) ty3 Tryz.underlying3) trivial ty3 rfl rfl (kP_ev rfl)) rfl rfl ?_
             rintro _ wd38867 ⟨n38866, rfl, H⟩
             refine ⟨H.okS (by simp), ?_⟩
             dsimp only [List.set] at H
             refine dq rfl (fun _ _ => Q_extract rfl rfl) rfl rfl ?_
             refine d1 (de rfl (Eff.quiet (v := .int .i64 ((mget x37921 (x38723, x38724)).getD 0)) (Q_look1E (m := x37921) (zp := 0) (k := 5) H.ok rfl Tryz.underlying184 (kOk_P2 (k := .i64) kp164 (by kernel_rfl) ty3 Tryz.underlying3) trivial ty3 rfl rfl (kP_ev rfl))) rfl rfl ?_)
             rintro _ _ ⟨rfl, rfl⟩
             refine ⟨H.okS (by simp), ?_⟩
             refine dq rfl (fun _ _ => Q_add rfl rfl) rfl rfl <| db rfl (E_estore (b := (w64 (((mget x37921 (x38723, x38724)).getD 0) + 1))) (k := 5) (kOk_P2 (k := .i64) kp164 (by kernel_rfl) ty3 Tryz.underlying3).law H rfl rfl rfl rfl) rfl rfl ?_
             rintro _ wd38868 H
             refine H.okF ?_
             dsimp only [List.set] at H
             refine DL_nil ?_
             replace H := H.f2.f2
             obtain rfl := Option.some.inj ho38862
             refine x_A fun a hf => ⟨hf.sub ⟨rfl, rfl, rfl, rfl, rfl, rfl, rfl, rfl, rfl, trivial⟩, H⟩
           ·rintro a wd38869 ⟨hf, H⟩
            try dsimp only at ho38855
            refine CW.at hf ?_
            obtain ⟨o38924, ho38924, ho38855⟩ := bnd ho38855
            refine C_cutQ (fun a w' => ∃ (ρ' : View) (v38920 : Value) (c38921 : (List Value)) (x38922 : (List ((Int × Int) × (List Int)))), View.le ρ ρ' ∧ x38922 = o38924 ∧ rdL (eP (eP (eI .i64) (eI .i64)) (eL (eI .u8))) ρ' x38922 c38921 ∧ Fr 73 a [(2, .func (.func 102) #[] [].toArray), (3, .pointer (some ⟨b19510, 0, none⟩)), (6, .pointer (some ⟨b19512, 0, none⟩)), (9, .map (some b19522)), (10, v38920), (11, .pointer (some ⟨b35773, 0, none⟩)), (41, .int .i64 x37920)] ∧ Hp C w' ρ' (Arr v38920 3 c38921 :: Box b35773 [.int .i64 x35753.1.1, .int .i64 x35753.1.2, v35770] :: Box b19510 [v1, v4, v7, v10, v13, v16] :: Box b19512 [.int .i64 0, .int .i64 0, .slice none 0 0] :: Mp (kP2 .i64) (Value.int .i64) b19522 (mset (mset x37921 (x38723, x38724) ((mget x37921 (x38723, x38724)).getD 0)) (x38723, x38724) (w64 (((mget x37921 (x38723, x38724)).getD 0) + 1))) :: hs)) ?_ ?_
            ·refine R_dr (.take 0 (.take 1 (.take 2 (.take 3 (.take 5 (.take 6 (.two 4 7 (.one 7 (.one 8 (.take 9 (.one 10 (.bar 11 none (.take 12 .done)))))) (.one 4 (.one 8 (.take 9 (.one 10 (.bar 11 none (.take 12 .done))))))))))))) (some 11) (S := fun w' => Ok w' ρ [Arr v37916 3 c37917, Box b35773 [.int .i64 x35753.1.1, .int .i64 x35753.1.2, v35770], Box b38726 [.int .i64 x38723, .int .i64 x38724], Box b19510 [v1, v4, v7, v10, v13, v16], Box b19512 [.int .i64 0, .int .i64 0, .slice none 0 0], Mp (kP2 .i64) (Value.int .i64) b19522 (mset (mset x37921 (x38723, x38724) ((mget x37921 (x38723, x38724)).getD 0)) (x38723, x38724) (w64 (((mget x37921 (x38723, x38724)).getD 0) + 1)))]) hm0 (by kernel_rfl) (H.drew.okS (by simp)) ?_
             replace H := H.drew
             refine dq rfl (fun _ _ => Q_move rfl) rfl rfl <| dq (v := .agg #[.int .i64 x38723, .int .i64 x38724]) rfl (fun _ hw => Q_ldB (k := 2) (cs := [.int .i64 x38723, .int .i64 x38724]) hw rfl ty164 rfl rfl rfl (fun h => nomatch h) rfl) rfl rfl <| dq (v := .pointer (some ⟨b35773, 2, none⟩)) rfl (fun _ _ => Q_fld Tryz.underlying166 rfl ty42 (by decide) rfl rfl) rfl rfl <| dq (v := v35770) rfl (fun _ hw => Q_ldB (k := 1) (cs := [v35770]) hw rfl ty42 rfl rfl rfl (fun _ => rfl) rfl) rfl rfl <| dq rfl (fun _ _ => Q_move rfl) rfl rfl <| dq rfl (fun _ _ => Q_cvI ⟨_, Tryz.underlying3⟩ Tryz.underlying5 rfl) rfl rfl ?_
             refine d2 ?_ ?_
             ·obtain ⟨q38925, hq38925, ho38924⟩ := bnd ho38924
              refine de rfl (E_call fn139 rfl (c_139 H  r35772 hq38925)) rfl rfl ?_
              rintro _ wd38931 ⟨v38927, c38928, x38929, rfl, rfl, r38930, H⟩
              try dsimp only at ho38924
              refine ⟨H.okS (by simp), ?_⟩
              refine d1 (de rfl (E_bslice (xs := [.tmp 65]) (vs := [.int .u8 (IntKind.wrap .u8 x37920)]) H Tryz.underlying42 ty5 (by decide) (cs := [.int .u8 (IntKind.wrap .u8 x37920)]) rfl (sz_cons rfl sz_nil) rfl (by simp) (by simp) rfl rfl) rfl rfl ?_)
              rintro _ wd38933 ⟨b38932, rfl, H⟩
              refine ⟨H.okS (by simp), ?_⟩
              obtain ⟨x38934, hx38934, ho38924⟩ := bnd ho38924
              obtain ⟨ha38935a, ha38935b⟩ := app_some hx38934
              have r38937 : rdL (eI .u8) ρ x38934 (c38928 ++ ([.int .u8 (IntKind.wrap .u8 x37920)])) := ha38935b ▸ rdL.app r38930 (show rdL (eI .u8) ρ ([IntKind.wrap .u8 x37920]) ([.int .u8 (IntKind.wrap .u8 x37920)]) from ⟨([.int .u8 (IntKind.wrap .u8 x37920)]), _, rfl, rfl, rdL.nil⟩)
              refine d1 (de rfl (E_append (k := 1) H rfl Tryz.underlying42 ty5 rfl (by decide) (by decide) rfl rfl (Src.ofArr (k := 0) H.ok rfl) (rdL.one (show rdL (eI .u8) ρ ([IntKind.wrap .u8 x37920]) ([.int .u8 (IntKind.wrap .u8 x37920)]) from ⟨([.int .u8 (IntKind.wrap .u8 x37920)]), _, rfl, rfl, rdL.nil⟩)) (app_fit r38930 (show rdL (eI .u8) ρ ([IntKind.wrap .u8 x37920]) ([.int .u8 (IntKind.wrap .u8 x37920)]) from ⟨([.int .u8 (IntKind.wrap .u8 x37920)]), _, rfl, rfl, rdL.nil⟩) ha38935a)) rfl rfl ?_)
              rintro v38936 wd38939 ⟨H, hc38938⟩
              dsimp only [List.set] at H
              refine ⟨H.okS (by simp), ?_⟩
              refine dq (v := .agg #[.int .i64 x38723, .int .i64 x38724, v38936]) rfl (fun _ _ => Q_buildS st166.choose_spec (ps := [(0, [.int .i64 x38723, .int .i64 x38724]), (2, [v38936])]) rfl ⟨rfl, rfl, by simp, ⟨rfl, (arr_cells (H.ok.get (k := 1) rfl)).1, by simp, trivial⟩⟩ rfl) rfl rfl ?_
              replace H := H.f1
              obtain ⟨ρ, lw38940, H, r38941⟩ := Hp.frz (en := (eI .u8)) H (by decide) r38937
              replace r37919 := rdL.up lw38940 r37919
              replace r35772 := RdSl.up lw38940 r35772
              replace r3 := RdSl.up lw38940 r3
              replace r6 := RdSl.up lw38940 r6
              replace r9 := RdSl.up lw38940 r9
              replace r12 := RdSl.up lw38940 r12
              replace r15 := RdSl.up lw38940 r15
              replace r18 := RdSl.up lw38940 r18
              replace gle := GErrs.up lw38940 gle
              refine d1 (de rfl (E_bslice (xs := [.tmp 68]) (vs := [.agg #[.int .i64 x38723, .int .i64 x38724, v38936]]) H Tryz.underlying223 ty166 (by decide) (cs := [.int .i64 x38723, .int .i64 x38724, v38936]) rfl (sz_cons rfl sz_nil) rfl (by simp) (by simp) rfl rfl) rfl rfl ?_)
              rintro _ wd38943 ⟨b38942, rfl, H⟩
              refine ⟨(H.okS (by simp)).low lw38940, ?_⟩
              obtain ⟨x38944, hx38944, ho38924⟩ := bnd ho38924
              obtain ⟨ha38945a, ha38945b⟩ := app_some hx38944
              have r38947 : rdL (eP (eP (eI .i64) (eI .i64)) (eL (eI .u8))) ρ x38944 (c37917 ++ ([.int .i64 x38723, .int .i64 x38724, v38936])) := ha38945b ▸ rdL.app r37919 (show rdL (eP (eP (eI .i64) (eI .i64)) (eL (eI .u8))) ρ ([((x38723, x38724), x38934)]) ([.int .i64 x38723, .int .i64 x38724, v38936]) from ⟨([.int .i64 x38723, .int .i64 x38724, v38936]), _, rfl, ⟨[.int .i64 x38723, .int .i64 x38724], _, rfl, ⟨[.int .i64 x38723], _, rfl, rfl, rfl⟩, ⟨_, rfl, r38941⟩⟩, rdL.nil⟩)
              refine db rfl (E_append (k := 2) H rfl Tryz.underlying223 ty166 rfl (by decide) (by decide) rfl rfl (Src.ofArr (k := 0) H.ok rfl) (rdL.one (show rdL (eP (eP (eI .i64) (eI .i64)) (eL (eI .u8))) ρ ([((x38723, x38724), x38934)]) ([.int .i64 x38723, .int .i64 x38724, v38936]) from ⟨([.int .i64 x38723, .int .i64 x38724, v38936]), _, rfl, ⟨[.int .i64 x38723, .int .i64 x38724], _, rfl, ⟨[.int .i64 x38723], _, rfl, rfl, rfl⟩, ⟨_, rfl, r38941⟩⟩, rdL.nil⟩)) (app_fit r37919 (show rdL (eP (eP (eI .i64) (eI .i64)) (eL (eI .u8))) ρ ([((x38723, x38724), x38934)]) ([.int .i64 x38723, .int .i64 x38724, v38936]) from ⟨([.int .i64 x38723, .int .i64 x38724, v38936]), _, rfl, ⟨[.int .i64 x38723, .int .i64 x38724], _, rfl, ⟨[.int .i64 x38723], _, rfl, rfl, rfl⟩, ⟨_, rfl, r38941⟩⟩, rdL.nil⟩) ha38945a)) rfl rfl ?_
              rintro v38946 wd38949 ⟨H, hc38948⟩
              dsimp only [List.set] at H
              refine H.okF <| dq rfl (fun _ _ => Q_assign rfl) rfl rfl <| DL_nil ?_
              replace H := H.e4.e1.e0
              obtain rfl := Option.some.inj ho38924
              refine x_A fun a hf => ⟨ρ, v38946, (c37917 ++ ([.int .i64 x38723, .int .i64 x38724, v38936])), x38944, lw38940, rfl, r38947, hf.sub ⟨rfl, rfl, rfl, rfl, rfl, rfl, rfl, trivial⟩, H⟩
             ·refine de rfl (E_bslice (xs := [.tmp 65]) (vs := [.int .u8 (IntKind.wrap .u8 x37920)]) H Tryz.underlying42 ty5 (by decide) (cs := [.int .u8 (IntKind.wrap .u8 x37920)]) rfl (sz_cons rfl sz_nil) rfl (by simp) (by simp) rfl rfl) rfl rfl ?_
              rintro _ wd38951 ⟨b38950, rfl, H⟩
              refine ⟨H.okS (by simp), ?_⟩
              obtain ⟨q38952, hq38952, ho38924⟩ := bnd ho38924
              refine d1 (de rfl (E_call fn139 rfl (c_139 H  r35772 hq38952)) rfl rfl ?_)
              rintro _ wd38958 ⟨v38954, c38955, x38956, rfl, rfl, r38957, H⟩
              try dsimp only at ho38924
              refine ⟨H.okS (by simp), ?_⟩
              obtain ⟨x38959, hx38959, ho38924⟩ := bnd ho38924
              obtain ⟨ha38960a, ha38960b⟩ := app_some hx38959
              have r38962 : rdL (eI .u8) ρ x38959 (c38955 ++ ([.int .u8 (IntKind.wrap .u8 x37920)])) := ha38960b ▸ rdL.app r38957 (show rdL (eI .u8) ρ ([IntKind.wrap .u8 x37920]) ([.int .u8 (IntKind.wrap .u8 x37920)]) from ⟨([.int .u8 (IntKind.wrap .u8 x37920)]), _, rfl, rfl, rdL.nil⟩)
              refine d1 (de rfl (E_append (k := 0) H rfl Tryz.underlying42 ty5 rfl (by decide) (by decide) rfl rfl (Src.ofArr (k := 1) H.ok rfl) (rdL.one (show rdL (eI .u8) ρ ([IntKind.wrap .u8 x37920]) ([.int .u8 (IntKind.wrap .u8 x37920)]) from ⟨([.int .u8 (IntKind.wrap .u8 x37920)]), _, rfl, rfl, rdL.nil⟩)) (app_fit r38957 (show rdL (eI .u8) ρ ([IntKind.wrap .u8 x37920]) ([.int .u8 (IntKind.wrap .u8 x37920)]) from ⟨([.int .u8 (IntKind.wrap .u8 x37920)]), _, rfl, rfl, rdL.nil⟩) ha38960a)) rfl rfl ?_)
              rintro v38961 wd38964 ⟨H, hc38963⟩
              dsimp only [List.set] at H
              refine ⟨H.okS (by simp), ?_⟩
              refine dq (v := .agg #[.int .i64 x38723, .int .i64 x38724, v38961]) rfl (fun _ _ => Q_buildS st166.choose_spec (ps := [(0, [.int .i64 x38723, .int .i64 x38724]), (2, [v38961])]) rfl ⟨rfl, rfl, by simp, ⟨rfl, (arr_cells (H.ok.get (k := 0) rfl)).1, by simp, trivial⟩⟩ rfl) rfl rfl ?_
              obtain ⟨ρ, lw38965, H, r38966⟩ := Hp.frz (en := (eI .u8)) H (by decide) r38962
              replace r37919 := rdL.up lw38965 r37919
              replace r35772 := RdSl.up lw38965 r35772
              replace r3 := RdSl.up lw38965 r3
              replace r6 := RdSl.up lw38965 r6
              replace r9 := RdSl.up lw38965 r9
              replace r12 := RdSl.up lw38965 r12
              replace r15 := RdSl.up lw38965 r15
              replace r18 := RdSl.up lw38965 r18
              replace gle := GErrs.up lw38965 gle
              refine d1 (de rfl (E_bslice (xs := [.tmp 68]) (vs := [.agg #[.int .i64 x38723, .int .i64 x38724, v38961]]) H Tryz.underlying223 ty166 (by decide) (cs := [.int .i64 x38723, .int .i64 x38724, v38961]) rfl (sz_cons rfl sz_nil) rfl (by simp) (by simp) rfl rfl) rfl rfl ?_)
              rintro _ wd38968 ⟨b38967, rfl, H⟩
              refine ⟨(H.okS (by simp)).low lw38965, ?_⟩
              obtain ⟨x38969, hx38969, ho38924⟩ := bnd ho38924
              obtain ⟨ha38970a, ha38970b⟩ := app_some hx38969
              have r38972 : rdL (eP (eP (eI .i64) (eI .i64)) (eL (eI .u8))) ρ x38969 (c37917 ++ ([.int .i64 x38723, .int .i64 x38724, v38961])) := ha38970b ▸ rdL.app r37919 (show rdL (eP (eP (eI .i64) (eI .i64)) (eL (eI .u8))) ρ ([((x38723, x38724), x38959)]) ([.int .i64 x38723, .int .i64 x38724, v38961]) from ⟨([.int .i64 x38723, .int .i64 x38724, v38961]), _, rfl, ⟨[.int .i64 x38723, .int .i64 x38724], _, rfl, ⟨[.int .i64 x38723], _, rfl, rfl, rfl⟩, ⟨_, rfl, r38966⟩⟩, rdL.nil⟩)
              refine db rfl (E_append (k := 2) H rfl Tryz.underlying223 ty166 rfl (by decide) (by decide) rfl rfl (Src.ofArr (k := 0) H.ok rfl) (rdL.one (show rdL (eP (eP (eI .i64) (eI .i64)) (eL (eI .u8))) ρ ([((x38723, x38724), x38959)]) ([.int .i64 x38723, .int .i64 x38724, v38961]) from ⟨([.int .i64 x38723, .int .i64 x38724, v38961]), _, rfl, ⟨[.int .i64 x38723, .int .i64 x38724], _, rfl, ⟨[.int .i64 x38723], _, rfl, rfl, rfl⟩, ⟨_, rfl, r38966⟩⟩, rdL.nil⟩)) (app_fit r37919 (show rdL (eP (eP (eI .i64) (eI .i64)) (eL (eI .u8))) ρ ([((x38723, x38724), x38959)]) ([.int .i64 x38723, .int .i64 x38724, v38961]) from ⟨([.int .i64 x38723, .int .i64 x38724, v38961]), _, rfl, ⟨[.int .i64 x38723, .int .i64 x38724], _, rfl, ⟨[.int .i64 x38723], _, rfl, rfl, rfl⟩, ⟨_, rfl, r38966⟩⟩, rdL.nil⟩) ha38970a)) rfl rfl ?_
              rintro v38971 wd38974 ⟨H, hc38973⟩
              dsimp only [List.set] at H
              refine H.okF <| dq rfl (fun _ _ => Q_assign rfl) rfl rfl <| DL_nil ?_
              replace H := H.e4.e1.e0
              obtain rfl := Option.some.inj ho38924
              refine x_A fun a hf => ⟨ρ, v38971, (c37917 ++ ([.int .i64 x38723, .int .i64 x38724, v38961])), x38969, lw38965, rfl, r38972, hf.sub ⟨rfl, rfl, rfl, rfl, rfl, rfl, rfl, trivial⟩, H⟩
            ·rintro a wd38975 ⟨ρ, v38920, c38921, x38922, lw38976, rfl, r38923, hf, H⟩
             try dsimp only at ho38855
             replace r35772 := RdSl.up lw38976 r35772
             replace r3 := RdSl.up lw38976 r3
             replace r6 := RdSl.up lw38976 r6
             replace r9 := RdSl.up lw38976 r9
             replace r12 := RdSl.up lw38976 r12
             replace r15 := RdSl.up lw38976 r15
             replace r18 := RdSl.up lw38976 r18
             replace gle := GErrs.up lw38976 gle
             refine XX.at hf ?_
             obtain rfl := Option.some.inj ho38855
             refine x_A fun a hf => ⟨ρ, v38920, c38921, x38922, (mset (mset x37921 (x38723, x38724) ((mget x37921 (x38723, x38724)).getD 0)) (x38723, x38724) (w64 (((mget x37921 (x38723, x38724)).getD 0) + 1))), lw38976, rfl, r38923, hf.sub ⟨rfl, rfl, rfl, rfl, rfl, rfl, rfl, trivial⟩, H⟩
          ·replace ho38855 := itF hb ho38855
           refine C_skip ?_
           replace H := H.e0
           obtain rfl := Option.some.inj ho38855
           refine x_A fun a hf => ⟨ρ, v37916, c37917, x37918, x37921, (View.le_refl _), rfl, r37919, hf.sub ⟨rfl, rfl, rfl, rfl, rfl, rfl, rfl, trivial⟩, H⟩
         ·rintro a wd38977 ⟨ρ, v38850, c38851, x38852, x38854, lw38978, rfl, r38853, hf, H⟩
          try dsimp only at ho38720
          replace r35772 := RdSl.up lw38978 r35772
          replace r3 := RdSl.up lw38978 r3
          replace r6 := RdSl.up lw38978 r6
          replace r9 := RdSl.up lw38978 r9
          replace r12 := RdSl.up lw38978 r12
          replace r15 := RdSl.up lw38978 r15
          replace r18 := RdSl.up lw38978 r18
          replace gle := GErrs.up lw38978 gle
          refine XX.at hf <| x_block ?_
          obtain rfl := Option.some.inj ho38720
          refine x_A fun a hf => ⟨ρ, v38850, c38851, x38852, x38854, lw38978, rfl, r38853, hf.sub ⟨rfl, rfl, rfl, rfl, rfl, rfl, rfl, trivial⟩, H⟩
        ·rintro a wd38979 ⟨ρ, v38715, c38716, x38717, x38719, lw38980, rfl, r38718, hf, H⟩
         try dsimp only at hB38453
         replace r35772 := RdSl.up lw38980 r35772
         replace r3 := RdSl.up lw38980 r3
         replace r6 := RdSl.up lw38980 r6
         replace r9 := RdSl.up lw38980 r9
         replace r12 := RdSl.up lw38980 r12
         replace r15 := RdSl.up lw38980 r15
         replace r18 := RdSl.up lw38980 r18
         replace gle := GErrs.up lw38980 gle
         refine CW.at hf <| R_nd <| nq (Q_add rfl rfl) rfl rfl <| nq (Q_move rfl) rfl rfl <| WL_nil ?_
         obtain rfl := Option.some.inj hB38453
         refine x_A fun a hf => ⟨_, rfl, ρ, v38715, c38716, x38717, w64 (x37920 + 1), x38719, (View.le_trans lw38456 lw38980), rfl, r38718, hf.sub ⟨rfl, rfl, rfl, rfl, rfl, rfl, rfl, trivial⟩, H⟩
       ·replace hB38453 := itF hb hB38453
        refine C_exit <| x_then_exit <| x_then_exit <| x_block_exit ?_
        replace H := H.e1
        obtain rfl := Option.some.inj hB38453
        obtain rfl := hO38454 _ rfl
        refine x_A fun a hf => ⟨ρ, v37916, c37917, x37918, x37921, lw38456, rfl, r37919, hf.sub ⟨rfl, rfl, rfl, rfl, rfl, trivial⟩, H⟩
     ·rintro a wd38981 ⟨ρ, v37380, c37381, x37382, x37384, lw38982, rfl, r37383, hf, H⟩
      try dsimp only at hB35749
      replace r3 := RdSl.up lw38982 r3
      replace r6 := RdSl.up lw38982 r6
      replace r9 := RdSl.up lw38982 r9
      replace r12 := RdSl.up lw38982 r12
      replace r15 := RdSl.up lw38982 r15
      replace r18 := RdSl.up lw38982 r18
      replace gle := GErrs.up lw38982 gle
      refine XX.at hf <| x_block <| x_then <| R_nd <| nq (Q_move rfl) rfl rfl ?_
      obtain ⟨x38983, hx38983, hB35749⟩ := bnd hB35749
      obtain ⟨v38985, c38988, H, r38986, hq38989⟩ := sliceW (P := Tryz.prog) (en := (eP (eP (eI .i64) (eI .i64)) (eL (eI .u8)))) (k := 0) H rfl (by decide) r37383 hx38983
      dsimp only [List.set] at H
      replace H : Hp C _ ρ (Arr v38985 3 c38988 :: Box b19510 [v1, v4, v7, v10, v13, v16] :: Box b19512 [.int .i64 0, .int .i64 0, .slice none 0 0] :: Mp (kP2 .i64) (Value.int .i64) b19522 x37384 :: hs) := H
      refine nq (v := v38985) (hq38989 _ _ _ _ _ _ _ _ _ _ _ _ _ _ _ Tryz.underlying223 ty166 rfl ⟨_, rfl⟩ rfl) rfl rfl <| nq (Q_assign rfl) rfl rfl <| WL_nil ?_
      obtain rfl := Option.some.inj hB35749
      refine x_A fun a hf => ⟨_, rfl, ρ, v38985, c38988, x38983, x37384, (View.le_trans lw35752 lw38982), rfl, r38986, hf.sub ⟨rfl, rfl, rfl, rfl, rfl, trivial⟩, H⟩
   ·replace hB35749 := itF hb hB35749
    refine C_exit <| x_then_exit <| x_then_exit <| x_block_exit ?_
    replace H := H.e3.e1.e0
    obtain rfl := Option.some.inj hB35749
    obtain rfl := hO35750 _ rfl
    refine x_A fun a hf => ⟨ρ, lw35752, rfl, hf.sub ⟨rfl, trivial⟩, H⟩
 ·rintro a wd38990 ⟨ρ, lw38991, rfl, hf, H⟩
  try dsimp only at hF
  replace gle := GErrs.up lw38991 gle
  refine XX.at hf <| x_then <| C_seq <| R_nd <| nq (v := .agg #[.int .i64 0, .int .i64 0, .slice none 0 0]) (Q_buildS st166.choose_spec (ps := []) rfl trivial rfl) rfl rfl <| ne (E_stB (k := 0) (cs := [.int .i64 0, .int .i64 0, .slice none 0 0]) (vs' := [.int .i64 0, .int .i64 0, .slice none 0 0]) H rfl ty166 rfl rfl rfl rfl (one_cons rfl (one_cons rfl (one_cons rfl one_nil))) (by simp) rfl) rfl rfl ?_
  rintro _ wd38992 H
  dsimp only [List.set] at H
  refine nq (Q_assign rfl) rfl rfl <| WL_nil <| x_then <| C_ret ?_
  have H := H.nilArr 1
  have hRV : RV Tryz.prog wd38992 [(6, .pointer (some ⟨b19512, 0, none⟩)), (7, .bool false)] [.cell 6 166, .tmp 7] [.agg #[.int .i64 0, .int .i64 0, (.slice none 0 0)], .bool false] := ⟨⟨_, rfl, run_ldv ty166 rfl (fun h => nomatch h) (box_at (H.ok.get (k := 1) rfl) 0 3)⟩, rfl, trivial⟩
  replace H := H.e1
  obtain rfl := Option.some.inj hF
  exact fn_retV (rs := [.cell 6 166, .tmp 7]) (vs := [.agg #[.int .i64 0, .int .i64 0, (.slice none 0 0)], .bool false]) rfl hRV (.inr ⟨ρ, rfl, rfl, lw38991, H⟩)
theorem c_51 {N : Nat} {C : Cx} {w : World} {ρ : View} {hs : List Hl} {gV : Nat → Value} {v1 : Value} {v4 : Value} {v7 : Value} {v10 : Value} {v13 : Value} {v16 : Value} {x2 : (List (List Int))} {x5 : (List Int)} {x8 : (List Int)} {x11 : (List (List Int))} {x14 : (List Int)} {x17 : (List Int)} (H : Hp C w ρ (hs)) (gle : GErrs ρ 394 errIds gV) (r3 : RdSl ρ (eA 256 (eI .i64)) v1 x2) (r6 : RdSl ρ (eI .i64) v4 x5) (r9 : RdSl ρ (eI .i64) v7 x8) (r12 : RdSl ρ (eA 256 (eI .i64)) v10 x11) (r15 : RdSl ρ (eI .i64) v13 x14) (r18 : RdSl ρ (eI .i64) v16 x17) {r : (Unit ⊕ (Int × (List Int) × Int × Int))} (hF : F_product_Differ N x2 x5 x8 x11 x14 x17 = some r) :
  Calls Tryz.prog 51 [.agg #[v1, v4, v7], .agg #[v10, v13, v16]].toArray w (Rets (fun v w' => (∃ (ρ' : View), .inl () = r ∧ .tuple [.agg #[.int .i64 0, (.slice none 0 0), .int .i64 0, .int .i64 0], .bool false].toArray = v ∧ View.le ρ ρ' ∧ Hp C w' ρ' (Arr (.slice none 0 0) 1 ([]) :: hs)) ∨ (∃ (ρ' : View) (v186 : Value) (x185 : Int) (x187 : (List Int)) (x189 : Int) (x190 : Int), .inr (x185, x187, x189, x190) = r ∧ .tuple [.agg #[.int .i64 x185, v186, .int .i64 x189, .int .i64 x190], .bool true].toArray = v ∧ View.le ρ ρ' ∧ RdSl ρ' (eI .u8) v186 x187 ∧ Hp C w' ρ' (hs)))) := by
 unfold F_product_Differ at hF
 have h0 : Tryz.f51.body = some _ := rfl
 refine fn_calls' Tryz.func51 h0 (n := 51) rfl (by simp) <| C_seq <| R_nd <| ne (E_box H (vs := [v1, v4, v7]) rfl rfl) rfl rfl ?_
 rintro _ wd192 ⟨b191, rfl, H⟩
 refine ne (E_box H (vs := [v10, v13, v16]) rfl rfl) rfl rfl ?_
 rintro _ wd194 ⟨b193, rfl, H⟩
 refine ne (E_alloc H ty90 (zs := [.int .i64 0, .slice none 0 0, .int .i64 0, .int .i64 0]) rfl) rfl rfl ?_
 rintro _ wd196 ⟨b195, rfl, H⟩
 refine nq (Q_assign rfl) rfl rfl <| WL_nil <| x_then <| C_seq <| R_nd <| nq (v := .agg #[v1, v4, v7]) (Q_ldB (k := 2) (cs := [v1, v4, v7]) H.ok rfl ty78 rfl rfl rfl (fun h => nomatch h) rfl) rfl rfl <| nq (v := .agg #[v10, v13, v16]) (Q_ldB (k := 1) (cs := [v10, v13, v16]) H.ok rfl ty78 rfl rfl rfl (fun h => nomatch h) rfl) rfl rfl <| nq (v := .agg #[v1, v4, v7, v10, v13, v16]) (Q_buildS st162.choose_spec (ps := [(0, [v1, v4, v7]), (3, [v10, v13, v16])]) rfl ⟨rfl, rfl, by simp, ⟨rfl, rfl, by simp, trivial⟩⟩ rfl) rfl rfl <| ne (E_alloc H ty162 (zs := [.slice none 0 0, .slice none 0 0, .slice none 0 0, .slice none 0 0, .slice none 0 0, .slice none 0 0]) rfl) rfl rfl ?_
 rintro _ wd198 ⟨b197, rfl, H⟩
 refine ne (E_stB (k := 0) (cs := [v1, v4, v7, v10, v13, v16]) (vs' := [v1, v4, v7, v10, v13, v16]) H rfl ty162 rfl rfl rfl rfl (one_cons (RdSl.one r3) (one_cons (RdSl.one r6) (one_cons (RdSl.one r9) (one_cons (RdSl.one r12) (one_cons (RdSl.one r15) (one_cons (RdSl.one r18) one_nil)))))) (by simp) rfl) rfl rfl ?_
 rintro _ wd199 H
 dsimp only [List.set] at H
 refine WL_nil <| x_then <| C_seq <| C_seq <| R_nd <| nq (v := .agg #[v1, v4, v7, v10, v13, v16]) (Q_ldB (k := 0) (cs := [v1, v4, v7, v10, v13, v16]) H.ok rfl ty162 rfl rfl rfl (fun h => nomatch h) rfl) rfl rfl ?_
 obtain ⟨q200, hq200, hF⟩ := bnd hF
 refine ne (E_call fn100 rfl (c_100 H gle  r3 r6 r9 r12 r15 r18 hq200)) rfl rfl ?_
 rintro _ wd203 ⟨x202, rfl, rfl, H⟩
 try dsimp only at hF
 refine nq (Q_not rfl) rfl rfl <| WL_nil <| x_then ?_
 refine C_cond rfl (fun hb => ?_) (fun hb => ?_)
 ·replace hF := itT hb hF
  refine C_seq <| R_nd <| nq (v := .agg #[.int .i64 0, .slice none 0 0, .int .i64 0, .int .i64 0]) (Q_buildS st90.choose_spec (ps := []) rfl trivial rfl) rfl rfl <| ne (E_stB (k := 1) (cs := [.int .i64 0, .slice none 0 0, .int .i64 0, .int .i64 0]) (vs' := [.int .i64 0, .slice none 0 0, .int .i64 0, .int .i64 0]) H rfl ty90 rfl rfl rfl rfl (one_cons rfl (one_cons rfl (one_cons rfl (one_cons rfl one_nil)))) (by simp) rfl) rfl rfl ?_
  rintro _ wd204 H
  dsimp only [List.set] at H
  refine nq (Q_assign rfl) rfl rfl <| WL_nil <| x_then <| C_ret <| x_then_ret ?_
  have H := H.nilArr 1
  have hRV : RV Tryz.prog wd204 [(4, .pointer (some ⟨b195, 0, none⟩)), (5, .bool false)] [.cell 4 90, .tmp 5] [.agg #[.int .i64 0, (.slice none 0 0), .int .i64 0, .int .i64 0], .bool false] := ⟨⟨_, rfl, run_ldv ty90 rfl (fun h => nomatch h) (box_at (H.ok.get (k := 2) rfl) 0 4)⟩, rfl, trivial⟩
  replace H := H.e4.e3.e2.e1
  obtain rfl := Option.some.inj hF
  exact fn_retV (rs := [.cell 4 90, .tmp 5]) (vs := [.agg #[.int .i64 0, (.slice none 0 0), .int .i64 0, .int .i64 0], .bool false]) rfl hRV (.inl ⟨ρ, rfl, rfl, (View.le_refl _), H⟩)
 ·replace hF := itF hb hF
  refine C_skip <| x_then <| C_seq <| C_seq <| R_nd <| nq (v := .pointer (some ⟨b191, 2, none⟩)) (Q_fld Tryz.underlying78 rfl ty23 (by decide) rfl rfl) rfl rfl <| nq (v := v7) (Q_ldB (k := 3) (cs := [v7]) H.ok rfl ty23 rfl rfl rfl (fun _ => rfl) rfl) rfl rfl <| nq (Q_len Tryz.underlying23 rfl r9) rfl rfl <| nq (v := .pointer (some ⟨b193, 2, none⟩)) (Q_fld Tryz.underlying78 rfl ty23 (by decide) rfl rfl) rfl rfl <| nq (v := v16) (Q_ldB (k := 2) (cs := [v16]) H.ok rfl ty23 rfl rfl rfl (fun _ => rfl) rfl) rfl rfl <| nq (Q_len Tryz.underlying23 rfl r18) rfl rfl <| nq (v := .int .i64 (imax (x8.length : Int) (x17.length : Int))) (Q_max rfl rfl) rfl rfl <| nq (Q_move rfl) rfl rfl <| WL_nil ?_
  refine x_then ?_
  obtain ⟨o279, ho279, hF⟩ := bnd hF
  refine C_cutQ (fun a w' => ∃ (ρ' : View), View.le ρ ρ' ∧ .inl () = o279 ∧ Fr 51 a [(4, .pointer (some ⟨b195, 0, none⟩))] ∧ Hp C w' ρ' (Box b195 [.int .i64 0, .slice none 0 0, .int .i64 0, .int .i64 0] :: hs)) ?_ ?_
  ·refine C_block ?_
   replace H := H.e3.e2.f1
   refine C_iter (f := fun s => F_product_Differ_l0 N x2 x5 x8 x11 x14 x17 s) ho279 (fun s a w' => ∃ (ρ' : View) (x303 : Int), View.le ρ ρ' ∧ x303 = s ∧ Fr 51 a [(4, .pointer (some ⟨b195, 0, none⟩)), (6, .pointer (some ⟨b197, 0, none⟩)), (25, .int .i64 (imax (x8.length : Int) (x17.length : Int))), (26, .int .i64 x303)] ∧ Hp C w' ρ' (Box b195 [.int .i64 0, .slice none 0 0, .int .i64 0, .int .i64 0] :: Box b197 [v1, v4, v7, v10, v13, v16] :: hs)) ?_ ?_
   ·exact fun a hf => ⟨ρ, 0, (View.le_refl _), rfl, hf.sub ⟨rfl, rfl, rfl, rfl, trivial⟩, H⟩
   ·rintro s o327 a wd330 ⟨ρ, x303, lw331, rfl, hf, H⟩ hB328 hO329
    replace hB328 : F_product_Differ_l0 N x2 x5 x8 x11 x14 x17 x303 = some o327 := hB328
    unfold F_product_Differ_l0 at hB328
    refine CW.at hf ?_
    replace r3 := RdSl.up lw331 r3
    replace r6 := RdSl.up lw331 r6
    replace r9 := RdSl.up lw331 r9
    replace r12 := RdSl.up lw331 r12
    replace r15 := RdSl.up lw331 r15
    replace r18 := RdSl.up lw331 r18
    replace gle := GErrs.up lw331 gle
    refine C_seq <| R_nd <| nq (Q_lss rfl rfl) rfl rfl <| WL_nil <| x_then <| C_seq ?_
    refine C_cond rfl (fun hb => ?_) (fun hb => ?_)
    ·replace hB328 := itT hb hB328
     refine C_skip <| x_then <| C_seq <| C_block <| C_seq <| R_nd <| nq (Q_move rfl) rfl rfl <| nq (Q_assign rfl) rfl rfl <| WL_nil <| x_then <| C_seq <| R_nd <| nq (v := .agg #[v1, v4, v7, v10, v13, v16]) (Q_ldB (k := 1) (cs := [v1, v4, v7, v10, v13, v16]) H.ok rfl ty162 rfl rfl rfl (fun h => nomatch h) rfl) rfl rfl <| nq (Q_move rfl) rfl rfl ?_
     obtain ⟨q332, hq332, hB328⟩ := bnd hB328
     refine ne (E_call fn101 rfl (c_101 H gle  r3 r6 r9 r12 r15 r18 hq332)) rfl rfl ?_
     rintro _ wd341 (⟨ρ, v334, x335, x336, x337, rfl, rfl, lw338, r339, H⟩ | ⟨ρ, rfl, rfl, lw340, H⟩)
     ·try dsimp only at hB328
      replace r3 := RdSl.up lw338 r3
      replace r6 := RdSl.up lw338 r6
      replace r9 := RdSl.up lw338 r9
      replace r12 := RdSl.up lw338 r12
      replace r15 := RdSl.up lw338 r15
      replace r18 := RdSl.up lw338 r18
      replace gle := GErrs.up lw338 gle
      refine nq (Q_move rfl) rfl rfl <| nq (Q_extract rfl rfl) rfl rfl <| nq (Q_extract rfl rfl) rfl rfl <| ne (E_alloc H ty166 (zs := [.int .i64 0, .int .i64 0, .slice none 0 0]) rfl) rfl rfl ?_
      rintro _ wd343 ⟨b342, rfl, H⟩
      refine ne (E_stB (k := 0) (cs := [.int .i64 x335, .int .i64 x336, v334]) (vs' := [.int .i64 x335, .int .i64 x336, v334]) H rfl ty166 rfl rfl rfl rfl (one_cons rfl (one_cons rfl (one_cons (RdSl.one r339) one_nil))) (by simp) rfl) rfl rfl ?_
      rintro _ wd344 H
      dsimp only [List.set] at H
      refine nq (Q_assign rfl) rfl rfl <| WL_nil <| x_then <| C_seq <| R_nd <| nq (Q_move rfl) rfl rfl <| WL_nil <| x_then ?_
      refine C_cond rfl (fun _ => ?_) (fun h => nomatch h)
      refine C_seq <| R_nd <| nq (v := .agg #[v1, v4, v7, v10, v13, v16]) (Q_ldB (k := 2) (cs := [v1, v4, v7, v10, v13, v16]) H.ok rfl ty162 rfl rfl rfl (fun h => nomatch h) rfl) rfl rfl <| nq (v := .pointer (some ⟨b342, 0, none⟩)) (Q_fld Tryz.underlying166 rfl ty164 (by decide) rfl rfl) rfl rfl <| nq (v := .agg #[.int .i64 x335, .int .i64 x336]) (Q_ldB (k := 0) (cs := [.int .i64 x335, .int .i64 x336]) H.ok rfl ty164 rfl rfl rfl (fun h => nomatch h) rfl) rfl rfl ?_
      obtain ⟨q345, hq345, hB328⟩ := bnd hB328
      refine ne (E_call fn103 rfl (c_103 H gle  r3 r6 r9 r12 r15 r18 hq345)) rfl rfl ?_
      rintro _ wd349 ⟨x347, x348, rfl, rfl, H⟩
      try dsimp only at hB328
      refine nq (Q_move rfl) rfl rfl <| nq (Q_extract rfl rfl) rfl rfl <| nq (Q_extract rfl rfl) rfl rfl <| nq (Q_assign rfl) rfl rfl <| nq (Q_assign rfl) rfl rfl <| WL_nil <| x_then <| C_seq <| R_nd <| nq (Q_move rfl) rfl rfl <| nq (v := .pointer (some ⟨b342, 2, none⟩)) (Q_fld Tryz.underlying166 rfl ty42 (by decide) rfl rfl) rfl rfl <| nq (v := v334) (Q_ldB (k := 0) (cs := [v334]) H.ok rfl ty42 rfl rfl rfl (fun _ => rfl) rfl) rfl rfl <| nq (Q_move rfl) rfl rfl <| nq (Q_move rfl) rfl rfl ?_
      refine nq (v := .agg #[.int .i64 x303, v334, .int .i64 x347, .int .i64 x348]) (Q_buildS st90.choose_spec (ps := [(0, [.int .i64 x303]), (1, [v334]), (2, [.int .i64 x347]), (3, [.int .i64 x348])]) rfl ⟨rfl, rfl, by simp, ⟨rfl, (RdSl.cells r339), by simp, ⟨rfl, rfl, by simp, ⟨rfl, rfl, by simp, trivial⟩⟩⟩⟩ rfl) rfl rfl <| ne (E_stB (k := 1) (cs := [.int .i64 x303, v334, .int .i64 x347, .int .i64 x348]) (vs' := [.int .i64 x303, v334, .int .i64 x347, .int .i64 x348]) H rfl ty90 rfl rfl rfl rfl (one_cons rfl (one_cons (RdSl.one r339) (one_cons rfl (one_cons rfl one_nil)))) (by simp) rfl) rfl rfl ?_
      rintro _ wd350 H
      dsimp only [List.set] at H
      refine nq (Q_assign rfl) rfl rfl <| WL_nil <| x_then <| C_ret <| x_block_ret <| x_then_ret <| x_then_ret <| x_block_ret <| x_then_ret <| x_then_ret ?_
      have hRV : RV Tryz.prog wd350 [(4, .pointer (some ⟨b195, 0, none⟩)), (5, .bool true)] [.cell 4 90, .tmp 5] [.agg #[.int .i64 x303, v334, .int .i64 x347, .int .i64 x348], .bool true] := ⟨⟨_, rfl, run_ldv ty90 rfl (fun h => nomatch h) (box_at (H.ok.get (k := 1) rfl) 0 4)⟩, rfl, trivial⟩
      replace H := H.e2.e1.e0
      obtain rfl := Option.some.inj hB328
      obtain rfl := hO329 _ rfl
      obtain rfl := Option.some.inj (show some _ = some _ from hF)
      exact fn_retV (rs := [.cell 4 90, .tmp 5]) (vs := [.agg #[.int .i64 x303, v334, .int .i64 x347, .int .i64 x348], .bool true]) rfl hRV (.inr ⟨ρ, v334, x303, x337, x347, x348, rfl, rfl, (View.le_trans lw331 lw338), r339, H⟩)
     ·try dsimp only at hB328
      replace r3 := RdSl.up lw340 r3
      replace r6 := RdSl.up lw340 r6
      replace r9 := RdSl.up lw340 r9
      replace r12 := RdSl.up lw340 r12
      replace r15 := RdSl.up lw340 r15
      replace r18 := RdSl.up lw340 r18
      replace gle := GErrs.up lw340 gle
      refine nq (Q_move rfl) rfl rfl <| nq (Q_extract rfl rfl) rfl rfl <| nq (Q_extract rfl rfl) rfl rfl <| ne (E_alloc H ty166 (zs := [.int .i64 0, .int .i64 0, .slice none 0 0]) rfl) rfl rfl ?_
      rintro _ wd352 ⟨b351, rfl, H⟩
      refine ne (E_stB (k := 0) (cs := [.int .i64 0, .int .i64 0, (.slice none 0 0)]) (vs' := [.int .i64 0, .int .i64 0, (.slice none 0 0)]) H rfl ty166 rfl rfl rfl rfl (one_cons rfl (one_cons rfl (one_cons (arr_cells (H.ok.get (k := 1) rfl)).2 one_nil))) (by simp) rfl) rfl rfl ?_
      rintro _ wd353 H
      dsimp only [List.set] at H
      refine nq (Q_assign rfl) rfl rfl <| WL_nil <| x_then <| C_seq <| R_nd <| nq (Q_move rfl) rfl rfl <| WL_nil <| x_then ?_
      refine C_cond rfl (fun h => nomatch h) (fun _ => ?_)
      refine C_skip <| x_block <| x_then <| R_nd <| nq (Q_add rfl rfl) rfl rfl <| nq (Q_move rfl) rfl rfl <| WL_nil ?_
      replace H := H.e1.e0
      obtain rfl := Option.some.inj hB328
      refine x_A fun a hf => ⟨_, rfl, ρ, w64 (x303 + 1), (View.le_trans lw331 lw340), rfl, hf.sub ⟨rfl, rfl, rfl, rfl, trivial⟩, H⟩
    ·replace hB328 := itF hb hB328
     refine C_exit <| x_then_exit <| x_then_exit <| x_block_exit ?_
     replace H := H.e1
     obtain rfl := Option.some.inj hB328
     obtain rfl := hO329 _ rfl
     refine x_A fun a hf => ⟨ρ, lw331, rfl, hf.sub ⟨rfl, trivial⟩, H⟩
  ·rintro a wd354 ⟨ρ, lw355, rfl, hf, H⟩
   try dsimp only at hF
   replace gle := GErrs.up lw355 gle
   refine XX.at hf <| x_then <| C_seq <| R_nd <| nq (v := .agg #[.int .i64 0, .slice none 0 0, .int .i64 0, .int .i64 0]) (Q_buildS st90.choose_spec (ps := []) rfl trivial rfl) rfl rfl <| ne (E_stB (k := 0) (cs := [.int .i64 0, .slice none 0 0, .int .i64 0, .int .i64 0]) (vs' := [.int .i64 0, .slice none 0 0, .int .i64 0, .int .i64 0]) H rfl ty90 rfl rfl rfl rfl (one_cons rfl (one_cons rfl (one_cons rfl (one_cons rfl one_nil)))) (by simp) rfl) rfl rfl ?_
   rintro _ wd356 H
   dsimp only [List.set] at H
   refine nq (Q_assign rfl) rfl rfl <| WL_nil <| x_then <| C_ret ?_
   have H := H.nilArr 1
   have hRV : RV Tryz.prog wd356 [(4, .pointer (some ⟨b195, 0, none⟩)), (5, .bool false)] [.cell 4 90, .tmp 5] [.agg #[.int .i64 0, (.slice none 0 0), .int .i64 0, .int .i64 0], .bool false] := ⟨⟨_, rfl, run_ldv ty90 rfl (fun h => nomatch h) (box_at (H.ok.get (k := 1) rfl) 0 4)⟩, rfl, trivial⟩
   replace H := H.e1
   obtain rfl := Option.some.inj hF
   exact fn_retV (rs := [.cell 4 90, .tmp 5]) (vs := [.agg #[.int .i64 0, (.slice none 0 0), .int .i64 0, .int .i64 0], .bool false]) rfl hRV (.inl ⟨ρ, rfl, rfl, lw355, H⟩)
theorem c_50 {N : Nat} {C : Cx} {w : World} {ρ : View} {hs : List Hl} {gV : Nat → Value} (H : Hp C w ρ (hs)) (gle : GErrs ρ 394 errIds gV) (gl18 : GTab ρ 18 .u8 tab_math_bits_deBruijn64tab) {r : Bool} (hF : F_dofferlaw21_alive N = some r) :
  Calls Tryz.prog 50 [].toArray w (Rets (fun v w' => (∃ (ρ' : View) (x41 : Bool), x41 = r ∧ .bool x41 = v ∧ View.le ρ ρ' ∧ Hp C w' ρ' (hs)))) := by
 unfold F_dofferlaw21_alive at hF
 have h0 : Tryz.f50.body = some _ := rfl
 refine fn_calls' Tryz.func50 h0 (n := 31) rfl (by simp) <| C_seq <| R_nd <| nq (Q_assign rfl) rfl rfl <| WL_nil <| x_then <| C_seq <| R_nd <| ne (E_call fn99 rfl (Cr.c_runD runD99_0 Cr.R256.up (fun hl => GTab.up hl gl18) H)) rfl rfl ?_
 rintro _ wd49 ⟨ρ, lw45, ⟨v42, v43, v44, rfl, r46, r47, r48⟩, H⟩
 replace gle := GErrs.up lw45 gle
 replace gl18 := GTab.up lw45 gl18
 refine ne (E_call fn99 rfl (Cr.c_runD runD99_1 Cr.R256.up (fun hl => GTab.up hl gl18) H)) rfl rfl ?_
 rintro _ wd57 ⟨ρ, lw53, ⟨v50, v51, v52, rfl, r54, r55, r56⟩, H⟩
 replace r46 := RdSl.up lw53 r46
 replace r47 := RdSl.up lw53 r47
 replace r48 := RdSl.up lw53 r48
 replace gle := GErrs.up lw53 gle
 replace gl18 := GTab.up lw53 gl18
 obtain ⟨q58, hq58, hF⟩ := bnd hF
 refine ne (E_call fn51 rfl (c_51 H gle  r46 r47 r48 r54 r55 r56 hq58)) rfl rfl ?_
 rintro _ wd68 (⟨ρ, rfl, rfl, lw60, H⟩ | ⟨ρ, v61, x62, x63, x64, x65, rfl, rfl, lw66, r67, H⟩)
 ·try dsimp only at hF
  replace r46 := RdSl.up lw60 r46
  replace r47 := RdSl.up lw60 r47
  replace r48 := RdSl.up lw60 r48
  replace r54 := RdSl.up lw60 r54
  replace r55 := RdSl.up lw60 r55
  replace r56 := RdSl.up lw60 r56
  replace gle := GErrs.up lw60 gle
  replace gl18 := GTab.up lw60 gl18
  refine nq (Q_move rfl) rfl rfl <| nq (Q_extract rfl rfl) rfl rfl <| nq (Q_extract rfl rfl) rfl rfl <| ne (E_alloc H ty90 (zs := [.int .i64 0, .slice none 0 0, .int .i64 0, .int .i64 0]) rfl) rfl rfl ?_
  rintro _ wd70 ⟨b69, rfl, H⟩
  refine ne (E_stB (k := 0) (cs := [.int .i64 0, (.slice none 0 0), .int .i64 0, .int .i64 0]) (vs' := [.int .i64 0, (.slice none 0 0), .int .i64 0, .int .i64 0]) H rfl ty90 rfl rfl rfl rfl (one_cons rfl (one_cons (arr_cells (H.ok.get (k := 1) rfl)).2 (one_cons rfl (one_cons rfl one_nil)))) (by simp) rfl) rfl rfl ?_
  rintro _ wd71 H
  dsimp only [List.set] at H
  refine nq (Q_assign rfl) rfl rfl <| WL_nil <| x_then ?_
  obtain ⟨o72, ho72, hF⟩ := bnd hF
  refine C_cut (fun a w' => Fr 31 a [(0, .bool false)] ∧ Hp C w' ρ (hs)) ?_ ?_
  ·refine R_nd <| nq (Q_move rfl) rfl rfl <| nq (Q_move rfl) rfl rfl <| gs rfl rfl rfl rfl <| gs rfl rfl rfl rfl <| gs rfl rfl rfl rfl <| nq (Q_pickF rfl rfl) rfl rfl <| nq (Q_move rfl) rfl rfl <| gs rfl rfl rfl rfl <| gs rfl rfl rfl rfl <| gs rfl rfl rfl rfl <| gs rfl rfl rfl rfl <| nq (Q_pickF rfl rfl) rfl rfl <| nq (Q_move rfl) rfl rfl ?_
   refine gs rfl rfl rfl rfl <| gs rfl rfl rfl rfl <| gs rfl rfl rfl rfl <| nq (Q_pickF rfl rfl) rfl rfl <| nq (Q_move rfl) rfl rfl <| gs rfl rfl rfl rfl <| gs rfl rfl rfl rfl <| gs rfl rfl rfl rfl <| nq (Q_pickF rfl rfl) rfl rfl <| nq (Q_assign rfl) rfl rfl <| WL_nil ?_
   replace H := H.e1.e0
   obtain rfl := Option.some.inj ho72
   refine x_A fun a hf => ⟨hf.sub ⟨rfl, trivial⟩, H⟩
  ·rintro a wd73 ⟨hf, H⟩
   try dsimp only at hF
   refine CW.at hf <| C_ret ?_
   obtain rfl := Option.some.inj hF
   exact fn_ret (l := [.tmp 0]) (vs := [.bool false]) rfl rfl rfl ⟨ρ, false, rfl, rfl, (View.le_trans lw45 (View.le_trans lw53 lw60)), H⟩
 ·try dsimp only at hF
  replace r46 := RdSl.up lw66 r46
  replace r47 := RdSl.up lw66 r47
  replace r48 := RdSl.up lw66 r48
  replace r54 := RdSl.up lw66 r54
  replace r55 := RdSl.up lw66 r55
  replace r56 := RdSl.up lw66 r56
  replace gle := GErrs.up lw66 gle
  replace gl18 := GTab.up lw66 gl18
  refine nq (Q_move rfl) rfl rfl <| nq (Q_extract rfl rfl) rfl rfl <| nq (Q_extract rfl rfl) rfl rfl <| ne (E_alloc H ty90 (zs := [.int .i64 0, .slice none 0 0, .int .i64 0, .int .i64 0]) rfl) rfl rfl ?_
  rintro _ wd75 ⟨b74, rfl, H⟩
  refine ne (E_stB (k := 0) (cs := [.int .i64 x62, v61, .int .i64 x64, .int .i64 x65]) (vs' := [.int .i64 x62, v61, .int .i64 x64, .int .i64 x65]) H rfl ty90 rfl rfl rfl rfl (one_cons rfl (one_cons (RdSl.one r67) (one_cons rfl (one_cons rfl one_nil)))) (by simp) rfl) rfl rfl ?_
  rintro _ wd76 H
  dsimp only [List.set] at H
  refine nq (Q_assign rfl) rfl rfl <| WL_nil <| x_then ?_
  obtain ⟨o79, ho79, hF⟩ := bnd hF
  refine C_cut (fun a w' => ∃ (x78 : Bool), x78 = o79 ∧ Fr 31 a [(0, .bool x78)] ∧ Hp C w' ρ (hs)) ?_ ?_
  ·refine R_nd <| nq (Q_move rfl) rfl rfl <| nq (Q_move rfl) rfl rfl <| gq (v := .pointer (some ⟨b74, 0, none⟩)) (Q_fld Tryz.underlying90 rfl ty3 (by decide) rfl rfl) rfl rfl rfl <| gq (v := .int .i64 x62) (Q_ldB (k := 0) (cs := [.int .i64 x62]) H.ok rfl ty3 rfl rfl rfl (fun _ => rfl) rfl) rfl rfl rfl <| gq (Q_eql rfl rfl) rfl rfl rfl <| nq (Q_pickT rfl rfl) rfl rfl <| nq (Q_move rfl) rfl rfl ?_
   rcases Bool.eq_false_or_eq_true (x62 == 0) with hb | hb
   ·rw [hb]
    replace ho79 := itT hb ho79
    refine gq (v := .pointer (some ⟨b74, 1, none⟩)) (Q_fld Tryz.underlying90 rfl ty42 (by decide) rfl rfl) rfl rfl rfl <| gq (v := v61) (Q_ldB (k := 0) (cs := [v61]) H.ok rfl ty42 rfl rfl rfl (fun _ => rfl) rfl) rfl rfl rfl <| ge (E_bstrR H Tryz.underlying42 Tryz.underlying5 Tryz.underlying9 rfl r67) rfl rfl rfl ?_
    rintro _ wd80 ⟨rfl, rfl⟩
    refine gq (v := .bool ((bstr x63).toList == (⟨#[97]⟩ : ByteArray).toList)) (Q_eqlStr Tryz.underlying9 rfl rfl) rfl rfl rfl <| nq (Q_pickT rfl rfl) rfl rfl <| nq (Q_move rfl) rfl rfl ?_
    rcases Bool.eq_false_or_eq_true ((bstr x63).toList == (⟨#[97]⟩ : ByteArray).toList) with hb | hb
    ·rw [hb]
     replace ho79 := itT hb ho79
     refine gq (v := .pointer (some ⟨b74, 2, none⟩)) (Q_fld Tryz.underlying90 rfl ty3 (by decide) rfl rfl) rfl rfl rfl <| gq (v := .int .i64 x64) (Q_ldB (k := 0) (cs := [.int .i64 x64]) H.ok rfl ty3 rfl rfl rfl (fun _ => rfl) rfl) rfl rfl rfl <| gq (Q_eql rfl rfl) rfl rfl rfl <| nq (Q_pickT rfl rfl) rfl rfl <| nq (Q_move rfl) rfl rfl ?_
     rcases Bool.eq_false_or_eq_true (x64 == 0) with hb | hb
     ·rw [hb]
      replace ho79 := itT hb ho79
      refine gq (v := .pointer (some ⟨b74, 3, none⟩)) (Q_fld Tryz.underlying90 rfl ty3 (by decide) rfl rfl) rfl rfl rfl <| gq (v := .int .i64 x65) (Q_ldB (k := 0) (cs := [.int .i64 x65]) H.ok rfl ty3 rfl rfl rfl (fun _ => rfl) rfl) rfl rfl rfl <| gq (Q_eql rfl rfl) rfl rfl rfl <| nq (Q_pickT rfl rfl) rfl rfl <| nq (Q_assign rfl) rfl rfl <| WL_nil ?_
      replace H := H.e0
      obtain rfl := Option.some.inj ho79
      refine x_A fun a hf => ⟨x65 == (-1), rfl, hf.sub ⟨rfl, trivial⟩, H⟩
     ·rw [hb]
      replace ho79 := itF hb ho79
      refine gs rfl rfl rfl rfl <| gs rfl rfl rfl rfl <| gs rfl rfl rfl rfl <| nq (Q_pickF rfl rfl) rfl rfl <| nq (Q_assign rfl) rfl rfl <| WL_nil ?_
      replace H := H.e0
      obtain rfl := Option.some.inj ho79
      refine x_A fun a hf => ⟨false, rfl, hf.sub ⟨rfl, trivial⟩, H⟩
    ·rw [hb]
     replace ho79 := itF hb ho79
     refine gs rfl rfl rfl rfl <| gs rfl rfl rfl rfl <| gs rfl rfl rfl rfl <| nq (Q_pickF rfl rfl) rfl rfl <| nq (Q_move rfl) rfl rfl <| gs rfl rfl rfl rfl <| gs rfl rfl rfl rfl <| gs rfl rfl rfl rfl <| nq (Q_pickF rfl rfl) rfl rfl <| nq (Q_assign rfl) rfl rfl <| WL_nil ?_
     replace H := H.e0
     obtain rfl := Option.some.inj ho79
     refine x_A fun a hf => ⟨false, rfl, hf.sub ⟨rfl, trivial⟩, H⟩
   ·rw [hb]
    replace ho79 := itF hb ho79
    refine gs rfl rfl rfl rfl <| gs rfl rfl rfl rfl <| gs rfl rfl rfl rfl <| gs rfl rfl rfl rfl <| nq (Q_pickF rfl rfl) rfl rfl <| nq (Q_move rfl) rfl rfl <| gs rfl rfl rfl rfl <| gs rfl rfl rfl rfl <| gs rfl rfl rfl rfl <| nq (Q_pickF rfl rfl) rfl rfl <| nq (Q_move rfl) rfl rfl <| gs rfl rfl rfl rfl <| gs rfl rfl rfl rfl <| gs rfl rfl rfl rfl ?_
    refine nq (Q_pickF rfl rfl) rfl rfl <| nq (Q_assign rfl) rfl rfl <| WL_nil ?_
    replace H := H.e0
    obtain rfl := Option.some.inj ho79
    refine x_A fun a hf => ⟨false, rfl, hf.sub ⟨rfl, trivial⟩, H⟩
  ·rintro a wd81 ⟨x78, rfl, hf, H⟩
   try dsimp only at hF
   refine CW.at hf <| C_ret ?_
   obtain rfl := Option.some.inj hF
   exact fn_ret (l := [.tmp 0]) (vs := [.bool x78]) rfl rfl rfl ⟨ρ, x78, rfl, rfl, (View.le_trans lw45 (View.le_trans lw53 lw66)), H⟩
theorem c_46 {N : Nat} {C : Cx} {w : World} {ρ : View} {hs : List Hl} {gV : Nat → Value} {v1 : Value} {v4 : Value} {v7 : Value} {x2 : (List (List Int))} {x5 : (List Int)} {x8 : (List Int)} {x10 : Int} (H : Hp C w ρ (hs)) (_gle : GErrs ρ 394 errIds gV) (r3 : RdSl ρ (eA 256 (eI .i64)) v1 x2) (r6 : RdSl ρ (eI .i64) v4 x5) (r9 : RdSl ρ (eI .i64) v7 x8) {r : ((List (List Int)) × Bool)} (hF : F_dofferlaw17_Of N x2 x5 x8 x10 = some r) :
  Calls Tryz.prog 46 [.agg #[v1, v4, v7], .int .i64 x10].toArray w (Rets (fun v w' => (∃ (v181 : Value) (c182 : (List Value)) (x183 : (List (List Int))) (x185 : Bool), (x183, x185) = r ∧ .tuple [.agg #[v181, v4, v7], .bool x185].toArray = v ∧ rdL (eA 256 (eI .i64)) ρ x183 c182 ∧ Hp C w' ρ (Arr v181 256 c182 :: hs)))) := by
 unfold F_dofferlaw17_Of at hF
 have h0 : Tryz.f46.body = some _ := rfl
 refine fn_calls' Tryz.func46 h0 (n := 48) rfl (by simp) <| C_seq <| R_nd <| ne (E_box H (vs := [v1, v4, v7]) rfl rfl) rfl rfl ?_
 rintro _ wd187 ⟨b186, rfl, H⟩
 refine ne (E_alloc H ty81 (zs := [.slice none 0 0, .slice none 0 0, .slice none 0 0]) rfl) rfl rfl ?_
 rintro _ wd189 ⟨b188, rfl, H⟩
 refine nq (Q_assign rfl) rfl rfl <| WL_nil <| x_then <| C_seq <| R_nd <| nq (v := .pointer (some ⟨b186, 1, none⟩)) (Q_fld Tryz.underlying78 rfl ty23 (by decide) rfl rfl) rfl rfl <| nq (v := v4) (Q_ldB (k := 1) (cs := [v4]) H.ok rfl ty23 rfl rfl rfl (fun _ => rfl) rfl) rfl rfl <| nq (v := .pointer (some ⟨b186, 2, none⟩)) (Q_fld Tryz.underlying78 rfl ty23 (by decide) rfl rfl) rfl rfl <| nq (v := v7) (Q_ldB (k := 1) (cs := [v7]) H.ok rfl ty23 rfl rfl rfl (fun _ => rfl) rfl) rfl rfl <| nq (v := .agg #[.slice none 0 0, v4, v7]) (Q_buildS st81.choose_spec (ps := [(1, [v4]), (2, [v7])]) rfl ⟨rfl, (RdSl.cells r6), by simp, ⟨rfl, (RdSl.cells r9), by simp, trivial⟩⟩ rfl) rfl rfl <| ne (E_alloc H ty81 (zs := [.slice none 0 0, .slice none 0 0, .slice none 0 0]) rfl) rfl rfl ?_
 rintro _ wd191 ⟨b190, rfl, H⟩
 refine ne (E_stB (k := 0) (cs := [.slice none 0 0, v4, v7]) (vs' := [.slice none 0 0, v4, v7]) H rfl ty81 rfl rfl rfl rfl (one_cons rfl (one_cons (RdSl.one r6) (one_cons (RdSl.one r9) one_nil))) (by simp) rfl) rfl rfl ?_
 rintro _ wd192 H
 dsimp only [List.set] at H
 refine WL_nil <| x_then <| C_seq ?_
 obtain ⟨o194, ho194, hF⟩ := bnd hF
 refine C_cut (fun a w' => ∃ (x193 : Bool), x193 = o194 ∧ Fr 48 a [(2, .pointer (some ⟨b186, 0, none⟩)), (4, .pointer (some ⟨b188, 0, none⟩)), (6, .pointer (some ⟨b190, 0, none⟩)), (31, .bool x193)] ∧ Hp C w' ρ (Box b186 [v1, v4, v7] :: Box b188 [.slice none 0 0, .slice none 0 0, .slice none 0 0] :: Box b190 [.slice none 0 0, v4, v7] :: hs)) ?_ ?_
 ·refine R_nd <| nq (v := .pointer (some ⟨b186, 0, none⟩)) (Q_fld Tryz.underlying78 rfl ty76 (by decide) rfl rfl) rfl rfl <| nq (v := v1) (Q_ldB (k := 2) (cs := [v1]) H.ok rfl ty76 rfl rfl rfl (fun _ => rfl) rfl) rfl rfl <| nq (Q_len Tryz.underlying76 rfl r3) rfl rfl <| nq (Q_move rfl) rfl rfl <| nq (Q_gtr rfl rfl) rfl rfl <| nq (Q_move rfl) rfl rfl ?_
  rcases Bool.eq_false_or_eq_true (decide ((x2.length : Int) > x10)) with hb | hb
  ·rw [hb]
   replace ho194 := itT hb ho194
   refine gs rfl rfl rfl rfl <| gs rfl rfl rfl rfl <| gs rfl rfl rfl rfl <| gs rfl rfl rfl rfl <| gs rfl rfl rfl rfl <| nq (Q_pickT rfl rfl) rfl rfl <| nq (Q_move rfl) rfl rfl <| gs rfl rfl rfl rfl <| gs rfl rfl rfl rfl <| gs rfl rfl rfl rfl <| gs rfl rfl rfl rfl <| nq (Q_pickT rfl rfl) rfl rfl <| WL_nil ?_
   replace H := H.f1.f2
   obtain rfl := Option.some.inj ho194
   refine x_A fun a hf => ⟨true, rfl, hf.sub ⟨rfl, rfl, rfl, rfl, trivial⟩, H⟩
  ·rw [hb]
   replace ho194 := itF hb ho194
   refine gq (v := .pointer (some ⟨b186, 1, none⟩)) (Q_fld Tryz.underlying78 rfl ty23 (by decide) rfl rfl) rfl rfl rfl <| gq (v := v4) (Q_ldB (k := 2) (cs := [v4]) H.ok rfl ty23 rfl rfl rfl (fun _ => rfl) rfl) rfl rfl rfl <| gq (Q_len Tryz.underlying23 rfl r6) rfl rfl rfl <| gq (Q_move rfl) rfl rfl rfl <| gq (Q_gtr rfl rfl) rfl rfl rfl <| nq (Q_pickF rfl rfl) rfl rfl <| nq (Q_move rfl) rfl rfl ?_
   rcases Bool.eq_false_or_eq_true (decide ((x5.length : Int) > x10)) with hb | hb
   ·rw [hb]
    replace ho194 := itT hb ho194
    refine gs rfl rfl rfl rfl <| gs rfl rfl rfl rfl <| gs rfl rfl rfl rfl <| gs rfl rfl rfl rfl <| nq (Q_pickT rfl rfl) rfl rfl <| WL_nil ?_
    replace H := H.f1.f2
    obtain rfl := Option.some.inj ho194
    refine x_A fun a hf => ⟨true, rfl, hf.sub ⟨rfl, rfl, rfl, rfl, trivial⟩, H⟩
   ·rw [hb]
    replace ho194 := itF hb ho194
    refine gq (v := .pointer (some ⟨b186, 2, none⟩)) (Q_fld Tryz.underlying78 rfl ty23 (by decide) rfl rfl) rfl rfl rfl <| gq (v := v7) (Q_ldB (k := 2) (cs := [v7]) H.ok rfl ty23 rfl rfl rfl (fun _ => rfl) rfl) rfl rfl rfl <| gq (Q_len Tryz.underlying23 rfl r9) rfl rfl rfl <| gq (Q_gtr rfl rfl) rfl rfl rfl <| nq (Q_pickF rfl rfl) rfl rfl <| WL_nil ?_
    replace H := H.f1.f2
    obtain rfl := Option.some.inj ho194
    refine x_A fun a hf => ⟨decide ((x8.length : Int) > 20), rfl, hf.sub ⟨rfl, rfl, rfl, rfl, trivial⟩, H⟩
 ·rintro a wd195 ⟨x193, rfl, hf, H⟩
  try dsimp only at hF
  refine CW.at hf ?_
  refine C_cond rfl (fun hb => ?_) (fun hb => ?_)
  ·replace hF := itT hb hF
   refine C_seq <| R_nd <| nq (v := .agg #[.slice none 0 0, v4, v7]) (Q_ldB (k := 2) (cs := [.slice none 0 0, v4, v7]) H.ok rfl ty81 rfl rfl rfl (fun h => nomatch h) rfl) rfl rfl <| ne (E_stB (k := 1) (cs := [.slice none 0 0, v4, v7]) (vs' := [.slice none 0 0, v4, v7]) H rfl ty81 rfl rfl rfl rfl (one_cons rfl (one_cons (RdSl.one r6) (one_cons (RdSl.one r9) one_nil))) (by simp) rfl) rfl rfl ?_
   rintro _ wd196 H
   dsimp only [List.set] at H
   refine nq (Q_assign rfl) rfl rfl <| WL_nil <| x_then <| C_ret <| x_then_ret ?_
   have H := H.nilArr 256
   have hRV : RV Tryz.prog wd196 [(4, .pointer (some ⟨b188, 0, none⟩)), (5, .bool false)] [.cell 4 81, .tmp 5] [.agg #[(.slice none 0 0), v4, v7], .bool false] := ⟨⟨_, rfl, run_ldv ty81 rfl (fun h => nomatch h) (box_at (H.ok.get (k := 2) rfl) 0 3)⟩, rfl, trivial⟩
   replace H := H.e3.e2.e1
   obtain rfl := Option.some.inj hF
   exact fn_retV (rs := [.cell 4 81, .tmp 5]) (vs := [.agg #[(.slice none 0 0), v4, v7], .bool false]) rfl hRV ⟨(.slice none 0 0), [], [], false, rfl, rfl, rdL.nil, H⟩
  ·replace hF := itF hb hF
   refine C_skip <| x_then <| C_seq <| C_seq <| R_nd <| nq (v := .pointer (some ⟨b186, 0, none⟩)) (Q_fld Tryz.underlying78 rfl ty76 (by decide) rfl rfl) rfl rfl <| nq (v := v1) (Q_ldB (k := 0) (cs := [v1]) H.ok rfl ty76 rfl rfl rfl (fun _ => rfl) rfl) rfl rfl <| nq (Q_len Tryz.underlying76 rfl r3) rfl rfl <| nq (Q_move rfl) rfl rfl <| WL_nil <| x_then ?_
   obtain ⟨o277, ho277, hF⟩ := bnd hF
   refine C_cutQ (fun a w' => ∃ (v273 : Value) (c274 : (List Value)) (x275 : (List (List Int))), x275 = o277 ∧ rdL (eA 256 (eI .i64)) ρ x275 c274 ∧ Fr 48 a [(4, .pointer (some ⟨b188, 0, none⟩)), (6, .pointer (some ⟨b190, 0, none⟩))] ∧ Hp C w' ρ (Box b188 [.slice none 0 0, .slice none 0 0, .slice none 0 0] :: Box b190 [v273, v4, v7] :: Arr v273 256 c274 :: hs)) ?_ ?_
   ·refine C_block ?_
    have H := H.nilArr 256
    replace H := H.e1.f2.f2
    refine C_iter (f := fun s => F_dofferlaw17_Of_l0 N x2 s.1 s.2) ho277 (fun s a w' => ∃ (v303 : Value) (c304 : (List Value)) (x302 : Int) (x305 : (List (List Int))), (x302, x305) = s ∧ rdL (eA 256 (eI .i64)) ρ x305 c304 ∧ Fr 48 a [(4, .pointer (some ⟨b188, 0, none⟩)), (6, .pointer (some ⟨b190, 0, none⟩)), (34, v1), (35, .int .i64 (x2.length : Int)), (36, .int .i64 x302)] ∧ Hp C w' ρ (Box b188 [.slice none 0 0, .slice none 0 0, .slice none 0 0] :: Box b190 [v303, v4, v7] :: Arr v303 256 c304 :: hs)) ?_ ?_
    ·exact fun a hf => ⟨(.slice none 0 0), [], 0, [], rfl, rdL.nil, hf.sub ⟨rfl, rfl, rfl, rfl, rfl, trivial⟩, H⟩
    ·rintro s o331 a wd334 ⟨v303, c304, x302, x305, rfl, r306, hf, H⟩ hB332 hO333
     replace hB332 : F_dofferlaw17_Of_l0 N x2 x302 x305 = some o331 := hB332
     unfold F_dofferlaw17_Of_l0 at hB332
     refine CW.at hf <| C_seq <| R_nd <| nq (Q_lss rfl rfl) rfl rfl <| WL_nil <| x_then <| C_seq ?_
     refine C_cond rfl (fun hb => ?_) (fun hb => ?_)
     ·replace hB332 := itT hb hB332
      refine C_skip <| x_then <| C_seq <| C_block <| C_seq <| R_nd ?_
      obtain ⟨x335, hx335, hB332⟩ := bnd hB332
      obtain ⟨b336, o337, c338, hc339, ha340, hi341⟩ := idxR r3 hx335
      refine nq (Q_idx hi341 Tryz.underlying76 ty88 rfl rfl) rfl rfl <| nq (v := .agg c338.toArray) (Q_ld (ha340.up H.ok.view) ty88 ((eA 256 (eI .i64)).len hc339) (fun h => nomatch h) rfl rfl) rfl rfl <| ne (E_allocA (N := 256) (n := 1) (zs := (repC 256 [.int .i64 0])) H ty88 rfl (by simp [repC_length])) rfl rfl ?_
      rintro _ wd343 ⟨b342, rfl, H⟩
      refine ne (E_stW (k := 0) H rfl ty88 rfl rfl (rdL.one hc339.2) (arr_clen (rdL_rep (e:=(eI .i64)) (ρ:=ρ) (rfl) 256) List.length_replicate) (arr_clen hc339.2 hc339.1)) rfl rfl ?_
      rintro _ wd344 H
      dsimp only [List.set] at H
      refine WL_nil <| x_then <| R_nd <| nq (v := .pointer (some ⟨b190, 0, none⟩)) (Q_fld Tryz.underlying81 rfl ty79 (by decide) rfl rfl) rfl rfl <| nq (v := v303) (Q_ldB (k := 2) (cs := [v303]) H.ok rfl ty79 rfl rfl rfl (fun _ => rfl) rfl) rfl rfl <| nq (Q_ldW (k := 0) H.ok rfl ty88 rfl (arr_clen hc339.2 hc339.1)) rfl rfl <| ne (E_bslice (xs := [.tmp 42]) (vs := [.agg c338.toArray]) H Tryz.underlying79 ty87 (by decide) (cs := c338) rfl (sz_cons (arr_clen hc339.2 hc339.1) sz_nil) (by simp [Value.cells]) (by simp) (by simp) rfl rfl) rfl rfl ?_
      rintro _ wd346 ⟨b345, rfl, H⟩
      obtain ⟨x347, hx347, hB332⟩ := bnd hB332
      obtain ⟨ha348a, ha348b⟩ := app_some hx347
      have r350 : rdL (eA 256 (eI .i64)) ρ x347 (c304 ++ c338) := ha348b ▸ rdL.app r306 (show rdL (eA 256 (eI .i64)) ρ ([x335]) c338 from rdL.single ⟨hc339.1, hc339.2⟩)
      refine ne (E_append (k := 4) H rfl Tryz.underlying79 ty87 rfl (by decide) (by decide) rfl rfl (Src.ofArr (k := 0) H.ok rfl) (rdL.one (show rdL (eA 256 (eI .i64)) ρ ([x335]) c338 from rdL.single ⟨hc339.1, hc339.2⟩)) (app_fit r306 (show rdL (eA 256 (eI .i64)) ρ ([x335]) c338 from rdL.single ⟨hc339.1, hc339.2⟩) ha348a)) rfl rfl ?_
      rintro v349 wd352 ⟨H, hc351⟩
      dsimp only [List.set] at H
      refine nq (v := .pointer (some ⟨b190, 0, none⟩)) (Q_fld Tryz.underlying81 rfl ty79 (by decide) rfl rfl) rfl rfl <| ne (E_stB (k := 3) (cs := [v349]) (vs' := [v349, v4, v7]) H rfl ty79 rfl rfl (arr_cells (H.ok.get (k := 4) rfl)).1 rfl (one_cons (arr_cells (H.ok.get (k := 4) rfl)).2 one_nil) (by simp) rfl) rfl rfl ?_
      rintro _ wd353 H
      dsimp only [List.set] at H
      refine WL_nil <| x_block <| x_then <| R_nd <| nq (Q_add rfl rfl) rfl rfl <| nq (Q_move rfl) rfl rfl <| WL_nil ?_
      replace H := H.e1.e0
      obtain rfl := Option.some.inj hB332
      refine x_A fun a hf => ⟨_, rfl, v349, (c304 ++ c338), w64 (x302 + 1), x347, rfl, r350, hf.sub ⟨rfl, rfl, rfl, rfl, rfl, trivial⟩, H⟩
     ·replace hB332 := itF hb hB332
      refine C_exit <| x_then_exit <| x_then_exit <| x_block_exit ?_
      obtain rfl := Option.some.inj hB332
      obtain rfl := hO333 _ rfl
      refine x_A fun a hf => ⟨v303, c304, x305, rfl, r306, hf.sub ⟨rfl, rfl, trivial⟩, H⟩
   ·rintro a wd354 ⟨v273, c274, x275, rfl, r276, hf, H⟩
    try dsimp only at hF
    refine XX.at hf <| x_then <| C_seq <| R_nd <| nq (v := .agg #[v273, v4, v7]) (Q_ldB (k := 1) (cs := [v273, v4, v7]) H.ok rfl ty81 rfl rfl rfl (fun h => nomatch h) rfl) rfl rfl <| ne (E_stB (k := 0) (cs := [v273, v4, v7]) (vs' := [v273, v4, v7]) H rfl ty81 rfl rfl rfl rfl (one_cons (arr_cells (H.ok.get (k := 2) rfl)).2 (one_cons (RdSl.one r6) (one_cons (RdSl.one r9) one_nil))) (by simp) rfl) rfl rfl ?_
    rintro _ wd355 H
    dsimp only [List.set] at H
    refine nq (Q_assign rfl) rfl rfl <| WL_nil <| x_then <| C_ret ?_
    have hRV : RV Tryz.prog wd355 [(4, .pointer (some ⟨b188, 0, none⟩)), (5, .bool true)] [.cell 4 81, .tmp 5] [.agg #[v273, v4, v7], .bool true] := ⟨⟨_, rfl, run_ldv ty81 rfl (fun h => nomatch h) (box_at (H.ok.get (k := 0) rfl) 0 3)⟩, rfl, trivial⟩
    replace H := H.e1.e0
    obtain rfl := Option.some.inj hF
    exact fn_retV (rs := [.cell 4 81, .tmp 5]) (vs := [.agg #[v273, v4, v7], .bool true]) rfl hRV ⟨v273, c274, x275, true, rfl, rfl, r276, H⟩
theorem c_114 {N : Nat} {C : Cx} {w : World} {ρ : View} {hs : List Hl} {gV : Nat → Value} {b1 : Nat} {v2 : Value} {v5 : Value} {v8 : Value} {v11 : Value} {v14 : Value} {v17 : Value} {c20 : List Value} {v23 : Value} {c24 : List Value} {v27 : Value} {c28 : List Value} {v31 : Value} {b32 : Nat} {c34 : List Value} {v37 : Value} {x3 : (List (List Int))} {x6 : (List Int)} {x9 : (List Int)} {x12 : (List (List Int))} {x15 : (List Int)} {x18 : (List Int)} {x21 : (List (List Int))} {x25 : (List Int)} {x29 : (List Int)} {x33 : (List ((Int × Int) × Int))} {x35 : (List (Int × Int))} {x38 : Int} {x39 : Int} (H : Hp C w ρ (Box b1 [v2, v5, v8, v11, v14, v17, v23, v27, v31, .map (some b32), v37] :: Arr v23 256 c20 :: Arr v27 1 c24 :: Arr v31 1 c28 :: Mp (kP2 .i64) (Value.int .i64) b32 x33 :: Arr v37 2 c34 :: hs)) (gle : GErrs ρ 394 errIds gV) (r4 : RdSl ρ (eA 256 (eI .i64)) v2 x3) (r7 : RdSl ρ (eI .i64) v5 x6) (r10 : RdSl ρ (eI .i64) v8 x9) (r13 : RdSl ρ (eA 256 (eI .i64)) v11 x12) (r16 : RdSl ρ (eI .i64) v14 x15) (r19 : RdSl ρ (eI .i64) v17 x18) (_r22 : rdL (eA 256 (eI .i64)) ρ x21 c20) (r26 : rdL (eI .i64) ρ x25 c24) (_r30 : rdL (eI .i64) ρ x29 c28) (r36 : rdL (eP (eI .i64) (eI .i64)) ρ x35 c34) {r : ((List Int) × (List ((Int × Int) × Int)) × (List (Int × Int)) × Int)} (hF : F_product_joiner_state N x3 x6 x9 x12 x15 x18 x21 x25 x29 x33 x35 x38 x39 = some r) :
  Calls Tryz.prog 114 [.pointer (some ⟨b1, 0, none⟩), .agg #[.int .i64 x38, .int .i64 x39]].toArray w (Rets (fun v w' => (∃ (v96 : Value) (c97 : (List Value)) (v101 : Value) (c102 : (List Value)) (x98 : (List Int)) (x100 : (List ((Int × Int) × Int))) (x103 : (List (Int × Int))) (x105 : Int), (x98, x100, x103, x105) = r ∧ .int .i64 x105 = v ∧ rdL (eI .i64) ρ x98 c97 ∧ rdL (eP (eI .i64) (eI .i64)) ρ x103 c102 ∧ Hp C w' ρ (Box b1 [v2, v5, v8, v11, v14, v17, v23, v96, v31, .map (some b32), v101] :: Arr v23 256 c20 :: Arr v96 1 c97 :: Arr v31 1 c28 :: Mp (kP2 .i64) (Value.int .i64) b32 x100 :: Arr v101 2 c102 :: hs)))) := by
 unfold F_product_joiner_state at hF
 have h0 : Tryz.f114.body = some _ := rfl
 refine fn_calls' Tryz.func114 h0 (n := 74) rfl (by simp) <| C_seq <| R_nd <| ne (E_box H (vs := [.int .i64 x38, .int .i64 x39]) rfl rfl) rfl rfl ?_
 rintro _ wd107 ⟨b106, rfl, H⟩
 refine nq (Q_assign rfl) rfl rfl <| WL_nil <| x_then <| C_seq ?_
 obtain ⟨o109, ho109, hF⟩ := bnd hF
 refine C_cut (fun a w' => ∃ (x108 : Bool), x108 = o109 ∧ Fr 74 a [(0, .pointer (some ⟨b1, 0, none⟩)), (3, .pointer (some ⟨b106, 0, none⟩)), (16, .bool x108)] ∧ Hp C w' ρ (Box b1 [v2, v5, v8, v11, v14, v17, v23, v27, v31, .map (some b32), v37] :: Arr v23 256 c20 :: Arr v27 1 c24 :: Arr v31 1 c28 :: Mp (kP2 .i64) (Value.int .i64) b32 x33 :: Arr v37 2 c34 :: Box b106 [.int .i64 x38, .int .i64 x39] :: hs)) ?_ ?_
 ·refine R_nd <| nq (v := .pointer (some ⟨b106, 0, none⟩)) (Q_fld Tryz.underlying164 rfl ty3 (by decide) rfl rfl) rfl rfl <| nq (v := .int .i64 x38) (Q_ldB (k := 0) (cs := [.int .i64 x38]) H.ok rfl ty3 rfl rfl rfl (fun _ => rfl) rfl) rfl rfl <| nq (Q_eql rfl rfl) rfl rfl <| nq (Q_move rfl) rfl rfl ?_
  rcases Bool.eq_false_or_eq_true (x38 == 0) with hb | hb
  ·rw [hb]
   replace ho109 := itT hb ho109
   refine gs rfl rfl rfl rfl <| gs rfl rfl rfl rfl <| gs rfl rfl rfl rfl <| nq (Q_pickT rfl rfl) rfl rfl <| WL_nil ?_
   replace H := H.f6.f6.f6.f6.f6.f6
   obtain rfl := Option.some.inj ho109
   refine x_A fun a hf => ⟨true, rfl, hf.sub ⟨rfl, rfl, rfl, trivial⟩, H⟩
  ·rw [hb]
   replace ho109 := itF hb ho109
   refine gq (v := .pointer (some ⟨b106, 1, none⟩)) (Q_fld Tryz.underlying164 rfl ty3 (by decide) rfl rfl) rfl rfl rfl <| gq (v := .int .i64 x39) (Q_ldB (k := 0) (cs := [.int .i64 x39]) H.ok rfl ty3 rfl rfl rfl (fun _ => rfl) rfl) rfl rfl rfl <| gq (Q_eql rfl rfl) rfl rfl rfl <| nq (Q_pickF rfl rfl) rfl rfl <| WL_nil ?_
   replace H := H.f6.f6.f6.f6.f6.f6
   obtain rfl := Option.some.inj ho109
   refine x_A fun a hf => ⟨x39 == 0, rfl, hf.sub ⟨rfl, rfl, rfl, trivial⟩, H⟩
 ·rintro a wd110 ⟨x108, rfl, hf, H⟩
  try dsimp only at hF
  refine CW.at hf ?_
  obtain ⟨o114, ho114, hF⟩ := bnd hF
  refine C_cutQ (fun a w' => ∃ (x112 : Int) (x113 : Int), (x112, x113) = o114 ∧ Fr 74 a [(0, .pointer (some ⟨b1, 0, none⟩)), (3, .pointer (some ⟨b106, 0, none⟩))] ∧ Hp C w' ρ (Box b1 [v2, v5, v8, v11, v14, v17, v23, v27, v31, .map (some b32), v37] :: Arr v23 256 c20 :: Arr v27 1 c24 :: Arr v31 1 c28 :: Mp (kP2 .i64) (Value.int .i64) b32 x33 :: Arr v37 2 c34 :: Box b106 [.int .i64 x112, .int .i64 x113] :: hs)) ?_ ?_
  ·refine C_cond rfl (fun hb => ?_) (fun hb => ?_)
   ·replace ho114 := itT hb ho114
    refine R_nd <| nq (v := .agg #[.int .i64 0, .int .i64 0]) (Q_buildS st164.choose_spec (ps := []) rfl trivial rfl) rfl rfl <| ne (E_stB (k := 6) (cs := [.int .i64 0, .int .i64 0]) (vs' := [.int .i64 0, .int .i64 0]) H rfl ty164 rfl rfl rfl rfl (one_cons rfl (one_cons rfl one_nil)) (by simp) rfl) rfl rfl ?_
    rintro _ wd115 H
    dsimp only [List.set] at H
    refine WL_nil ?_
    obtain rfl := Option.some.inj ho114
    refine x_A fun a hf => ⟨0, 0, rfl, hf.sub ⟨rfl, rfl, trivial⟩, H⟩
   ·replace ho114 := itF hb ho114
    refine C_skip ?_
    obtain rfl := Option.some.inj ho114
    refine x_A fun a hf => ⟨x38, x39, rfl, hf.sub ⟨rfl, rfl, trivial⟩, H⟩
  ·rintro a wd116 ⟨x112, x113, rfl, hf, H⟩
   try dsimp only at hF
   refine XX.at hf <| x_then <| C_seq <| H.dr (.take 0 (.take 1 (.take 2 (.take 3 (.take 4 (.take 5 (.take 6 (.take 7 (.take 8 (.take 9 (.take 10 .done))))))))))) none hm0 (by kernel_rfl) ?_
   replace H := H.drew
   refine dq rfl (fun _ _ => Q_move rfl) rfl rfl <| dq rfl (fun _ _ => Q_nilP rfl) rfl rfl <| dq (v := .pointer (some ⟨b1, 9, none⟩)) rfl (fun _ _ => Q_fld Tryz.underlying187 rfl ty184 (by decide) rfl rfl) rfl rfl <| dq (v := .map (some b32)) rfl (fun _ hw => Q_ldB (k := 0) (cs := [.map (some b32)]) hw rfl ty184 rfl rfl rfl (fun _ => rfl) rfl) rfl rfl <| dq (v := .agg #[.int .i64 x112, .int .i64 x113]) rfl (fun _ hw => Q_ldB (k := 6) (cs := [.int .i64 x112, .int .i64 x113]) hw rfl ty164 rfl rfl rfl (fun h => nomatch h) rfl) rfl rfl <| dq (v := .tuple [.int .i64 ((mget x33 (x112, x113)).getD 0), .bool ((mget x33 (x112, x113)).isSome)].toArray) rfl (fun _ hw => Q_look (zp := 0) (k := 4) hw rfl Tryz.underlying184 (kOk_P2 (k := .i64) kp164 (by kernel_rfl) ty3 Tryz.underlying3) trivial ty3 rfl rfl (kP_ev rfl)) rfl rfl <| dq rfl (fun _ _ => Q_move rfl) rfl rfl <| dq rfl (fun _ _ => Q_extract rfl rfl) rfl rfl <| dq rfl (fun _ _ => Q_extract rfl rfl) rfl rfl <| dq rfl (fun _ _ => Q_assign rfl) rfl rfl <| dq rfl (fun _ _ => Q_assign rfl) rfl rfl <| DL_nil <| x_then <| C_seq ?_
   refine C_seq <| R_nd <| nq (Q_move rfl) rfl rfl <| WL_nil <| x_then ?_
   refine C_cond rfl (fun hb => ?_) (fun hb => ?_)
   ·replace hF := itT hb hF
    refine C_seq <| R_nd <| nq (Q_move rfl) rfl rfl <| nq (Q_assign rfl) rfl rfl <| WL_nil <| x_then <| C_ret <| x_then_ret ?_
    replace H := H.e6
    obtain rfl := Option.some.inj hF
    exact fn_ret (l := [.tmp 4]) (vs := [.int .i64 ((mget x33 (x112, x113)).getD 0)]) rfl rfl rfl ⟨v27, c24, v37, c34, x25, x33, x35, (mget x33 (x112, x113)).getD 0, rfl, rfl, r26, r36, H⟩
   ·replace hF := itF hb hF
    refine C_skip <| x_then <| C_seq <| R_nd <| nq (Q_move rfl) rfl rfl <| nq (Q_nilP rfl) rfl rfl <| nq (v := .pointer (some ⟨b1, 10, none⟩)) (Q_fld Tryz.underlying187 rfl ty185 (by decide) rfl rfl) rfl rfl <| nq (v := v37) (Q_ldB (k := 0) (cs := [v37]) H.ok rfl ty185 rfl rfl rfl (fun _ => rfl) rfl) rfl rfl <| nq (Q_lenA (k := 5) H.ok rfl r36 (by decide) Tryz.underlying185 rfl) rfl rfl <| nq (Q_assign rfl) rfl rfl <| WL_nil <| x_then ?_
    obtain ⟨o118, ho118, hF⟩ := bnd hF
    refine C_cut (fun a w' => Fr 74 a [(0, .pointer (some ⟨b1, 0, none⟩)), (3, .pointer (some ⟨b106, 0, none⟩)), (5, .int .i64 (x35.length : Int))] ∧ Hp C w' ρ (Box b1 [v2, v5, v8, v11, v14, v17, v23, v27, v31, .map (some b32), v37] :: Arr v23 256 c20 :: Arr v27 1 c24 :: Arr v31 1 c28 :: Mp (kP2 .i64) (Value.int .i64) b32 (mset x33 (x112, x113) (x35.length : Int)) :: Arr v37 2 c34 :: Box b106 [.int .i64 x112, .int .i64 x113] :: hs)) ?_ ?_
    ·refine H.dr (.take 0 (.take 1 (.take 2 (.take 3 (.take 4 (.take 5 (.bar 6 none .done))))))) (some 6) hm0 (by kernel_rfl) ?_
     replace H := H.drew
     refine dq rfl (fun _ _ => Q_move rfl) rfl rfl <| dq rfl (fun _ _ => Q_nilP rfl) rfl rfl <| dq (v := .pointer (some ⟨b1, 9, none⟩)) rfl (fun _ _ => Q_fld Tryz.underlying187 rfl ty184 (by decide) rfl rfl) rfl rfl <| dq (v := .map (some b32)) rfl (fun _ hw => Q_ldB (k := 0) (cs := [.map (some b32)]) hw rfl ty184 rfl rfl rfl (fun _ => rfl) rfl) rfl rfl <| dq (v := .agg #[.int .i64 x112, .int .i64 x113]) rfl (fun _ hw => Q_ldB (k := 6) (cs := [.int .i64 x112, .int .i64 x113]) hw rfl ty164 rfl rfl rfl (fun h => nomatch h) rfl) rfl rfl <| dq rfl (fun _ _ => Q_move rfl) rfl rfl <| db rfl (E_mset (b := (x35.length : Int)) (k := 4) H rfl Tryz.underlying184 (kOk_P2 (k := .i64) kp164 (by kernel_rfl) ty3 Tryz.underlying3) trivial rfl (kP_ev rfl) rfl) rfl rfl ?_
     rintro _ wd119 H
     dsimp only [List.set] at H
     refine H.okF <| DL_nil ?_
     obtain rfl := Option.some.inj ho118
     refine x_A fun a hf => ⟨hf.sub ⟨rfl, rfl, rfl, trivial⟩, H⟩
    ·rintro a wd120 ⟨hf, H⟩
     try dsimp only at hF
     refine CW.at hf ?_
     obtain ⟨o134, ho134, hF⟩ := bnd hF
     refine C_cut (fun a w' => ∃ (v130 : Value) (c131 : (List Value)) (x132 : (List (Int × Int))), x132 = o134 ∧ rdL (eP (eI .i64) (eI .i64)) ρ x132 c131 ∧ Fr 74 a [(0, .pointer (some ⟨b1, 0, none⟩)), (3, .pointer (some ⟨b106, 0, none⟩)), (5, .int .i64 (x35.length : Int))] ∧ Hp C w' ρ (Box b1 [v2, v5, v8, v11, v14, v17, v23, v27, v31, .map (some b32), v130] :: Arr v23 256 c20 :: Arr v27 1 c24 :: Arr v31 1 c28 :: Mp (kP2 .i64) (Value.int .i64) b32 (mset x33 (x112, x113) (x35.length : Int)) :: Arr v130 2 c131 :: Box b106 [.int .i64 x112, .int .i64 x113] :: hs)) ?_ ?_
     ·refine R_dr (.take 0 (.take 1 (.take 2 (.take 3 (.take 4 (.take 5 (.one 6 (.one 7 (.take 8 (.take 9 (.bar 10 none .done))))))))))) (some 10) (S := fun w' => Ok w' ρ [Box b1 [v2, v5, v8, v11, v14, v17, v23, v27, v31, .map (some b32), v37], Arr v23 256 c20, Arr v27 1 c24, Arr v31 1 c28, Mp (kP2 .i64) (Value.int .i64) b32 (mset x33 (x112, x113) (x35.length : Int)), Box b106 [.int .i64 x112, .int .i64 x113]]) hm0 (by kernel_rfl) (H.drew.okS (by simp)) ?_
      replace H := H.drew
      refine dq rfl (fun _ _ => Q_move rfl) rfl rfl <| dq rfl (fun _ _ => Q_move rfl) rfl rfl <| dq rfl (fun _ _ => Q_nilP rfl) rfl rfl <| dq (v := .pointer (some ⟨b1, 10, none⟩)) rfl (fun _ _ => Q_fld Tryz.underlying187 rfl ty185 (by decide) rfl rfl) rfl rfl <| dq (v := v37) rfl (fun _ hw => Q_ldB (k := 0) (cs := [v37]) hw rfl ty185 rfl rfl rfl (fun _ => rfl) rfl) rfl rfl <| dq (v := .agg #[.int .i64 x112, .int .i64 x113]) rfl (fun _ hw => Q_ldB (k := 5) (cs := [.int .i64 x112, .int .i64 x113]) hw rfl ty164 rfl rfl rfl (fun h => nomatch h) rfl) rfl rfl ?_
      refine d1 (de rfl (E_bslice (xs := [.tmp 45]) (vs := [.agg #[.int .i64 x112, .int .i64 x113]]) H Tryz.underlying185 ty164 (by decide) (cs := [.int .i64 x112, .int .i64 x113]) rfl (sz_cons rfl sz_nil) rfl (by simp) (by simp) rfl rfl) rfl rfl ?_)
      rintro _ wd136 ⟨b135, rfl, H⟩
      refine ⟨H.okS (by simp), ?_⟩
      obtain ⟨x137, hx137, ho134⟩ := bnd ho134
      obtain ⟨ha138a, ha138b⟩ := app_some hx137
      have r140 : rdL (eP (eI .i64) (eI .i64)) ρ x137 (c34 ++ ([.int .i64 x112, .int .i64 x113])) := ha138b ▸ rdL.app r36 (show rdL (eP (eI .i64) (eI .i64)) ρ ([(x112, x113)]) ([.int .i64 x112, .int .i64 x113]) from ⟨([.int .i64 x112, .int .i64 x113]), _, rfl, ⟨[.int .i64 x112], _, rfl, rfl, rfl⟩, rdL.nil⟩)
      refine d1 (de rfl (E_append (k := 6) H rfl Tryz.underlying185 ty164 rfl (by decide) (by decide) rfl rfl (Src.ofArr (k := 0) H.ok rfl) (rdL.one (show rdL (eP (eI .i64) (eI .i64)) ρ ([(x112, x113)]) ([.int .i64 x112, .int .i64 x113]) from ⟨([.int .i64 x112, .int .i64 x113]), _, rfl, ⟨[.int .i64 x112], _, rfl, rfl, rfl⟩, rdL.nil⟩)) (app_fit r36 (show rdL (eP (eI .i64) (eI .i64)) ρ ([(x112, x113)]) ([.int .i64 x112, .int .i64 x113]) from ⟨([.int .i64 x112, .int .i64 x113]), _, rfl, ⟨[.int .i64 x112], _, rfl, rfl, rfl⟩, rdL.nil⟩) ha138a)) rfl rfl ?_)
      rintro v139 wd142 ⟨H, hc141⟩
      dsimp only [List.set] at H
      refine ⟨H.okS (by simp), ?_⟩
      refine dq rfl (fun _ _ => Q_nilP rfl) rfl rfl <| dq (v := .pointer (some ⟨b1, 10, none⟩)) rfl (fun _ _ => Q_fld Tryz.underlying187 rfl ty185 (by decide) rfl rfl) rfl rfl <| db rfl (E_stB (k := 1) (cs := [v139]) (vs' := [v2, v5, v8, v11, v14, v17, v23, v27, v31, .map (some b32), v139]) H rfl ty185 rfl rfl (arr_cells (H.ok.get (k := 6) rfl)).1 rfl (one_cons (arr_cells (H.ok.get (k := 6) rfl)).2 one_nil) (by simp) rfl) rfl rfl ?_
      rintro _ wd143 H
      dsimp only [List.set] at H
      refine H.okF <| DL_nil ?_
      replace H := H.e0
      obtain rfl := Option.some.inj ho134
      refine x_A fun a hf => ⟨v139, (c34 ++ ([.int .i64 x112, .int .i64 x113])), x137, rfl, r140, hf.sub ⟨rfl, rfl, rfl, trivial⟩, H⟩
     ·rintro a wd144 ⟨v130, c131, x132, rfl, r133, hf, H⟩
      try dsimp only at hF
      refine CW.at hf <| C_seq <| H.dr (.take 0 (.take 1 (.take 2 (.take 3 (.take 4 (.bar 5 none (.take 6 (.take 7 (.take 8 (.take 9 (.take 10 .done))))))))))) (some 5) hm0 (by kernel_rfl) ?_
      replace H := H.drew
      refine dq rfl (fun _ _ => Q_move rfl) rfl rfl <| dq rfl (fun _ _ => Q_nilP rfl) rfl rfl <| dq (v := .pointer (some ⟨b1, 0, none⟩)) rfl (fun _ _ => Q_fld Tryz.underlying187 rfl ty162 (by decide) rfl rfl) rfl rfl <| dq (v := .agg #[v2, v5, v8, v11, v14, v17]) rfl (fun _ hw => Q_ldB (k := 0) (cs := [v2, v5, v8, v11, v14, v17]) hw rfl ty162 rfl rfl rfl (fun h => nomatch h) rfl) rfl rfl <| dq (v := .agg #[.int .i64 x112, .int .i64 x113]) rfl (fun _ hw => Q_ldB (k := 6) (cs := [.int .i64 x112, .int .i64 x113]) hw rfl ty164 rfl rfl rfl (fun h => nomatch h) rfl) rfl rfl ?_
      obtain ⟨q145, hq145, hF⟩ := bnd hF
      refine db rfl (E_call fn103 rfl (c_103 H gle  r4 r7 r10 r13 r16 r19 hq145)) rfl rfl ?_
      rintro _ wd149 ⟨x147, x148, rfl, rfl, H⟩
      try dsimp only at hF
      refine H.okF <| dq rfl (fun _ _ => Q_move rfl) rfl rfl <| dq rfl (fun _ _ => Q_extract rfl rfl) rfl rfl <| dq rfl (fun _ _ => Q_extract rfl rfl) rfl rfl <| dq rfl (fun _ _ => Q_assign rfl) rfl rfl <| dq rfl (fun _ _ => Q_assign rfl) rfl rfl <| DL_nil <| x_then <| C_seq <| C_seq <| R_nd <| nq (Q_move rfl) rfl rfl <| nq (Q_eql rfl rfl) rfl rfl <| WL_nil ?_
      refine x_then ?_
      obtain ⟨o151, ho151, hF⟩ := bnd hF
      refine C_cutQ (fun a w' => ∃ (x150 : Int), x150 = o151 ∧ Fr 74 a [(0, .pointer (some ⟨b1, 0, none⟩)), (5, .int .i64 (x35.length : Int)), (7, .int .i64 x150)] ∧ Hp C w' ρ (Box b1 [v2, v5, v8, v11, v14, v17, v23, v27, v31, .map (some b32), v130] :: Arr v23 256 c20 :: Arr v27 1 c24 :: Arr v31 1 c28 :: Mp (kP2 .i64) (Value.int .i64) b32 (mset x33 (x112, x113) (x35.length : Int)) :: Arr v130 2 c131 :: hs)) ?_ ?_
      ·refine C_cond rfl (fun hb => ?_) (fun hb => ?_)
       ·replace ho151 := itT hb ho151
        refine R_nd <| nq (Q_assign rfl) rfl rfl <| WL_nil ?_
        replace H := H.e6
        obtain rfl := Option.some.inj ho151
        refine x_A fun a hf => ⟨(-1), rfl, hf.sub ⟨rfl, rfl, rfl, trivial⟩, H⟩
       ·replace ho151 := itF hb ho151
        refine C_skip ?_
        replace H := H.e6
        obtain rfl := Option.some.inj ho151
        refine x_A fun a hf => ⟨x147, rfl, hf.sub ⟨rfl, rfl, rfl, trivial⟩, H⟩
      ·rintro a wd152 ⟨x150, rfl, hf, H⟩
       try dsimp only at hF
       refine XX.at hf <| x_then <| C_seq <| R_nd <| nq (Q_move rfl) rfl rfl <| nq (Q_move rfl) rfl rfl <| nq (Q_nilP rfl) rfl rfl <| nq (v := .pointer (some ⟨b1, 6, none⟩)) (Q_fld Tryz.underlying187 rfl ty78 (by decide) rfl rfl) rfl rfl <| nq (v := .pointer (some ⟨b1, 7, none⟩)) (Q_fld Tryz.underlying78 rfl ty23 (by decide) rfl rfl) rfl rfl <| nq (v := v27) (Q_ldB (k := 0) (cs := [v27]) H.ok rfl ty23 rfl rfl rfl (fun _ => rfl) rfl) rfl rfl <| nq (Q_move rfl) rfl rfl <| ne (E_bslice (xs := [.tmp 67]) (vs := [.int .i64 x150]) H Tryz.underlying23 ty3 (by decide) (cs := [.int .i64 x150]) rfl (sz_cons rfl sz_nil) rfl (by simp) (by simp) rfl rfl) rfl rfl ?_
       rintro _ wd154 ⟨b153, rfl, H⟩
       obtain ⟨x155, hx155, hF⟩ := bnd hF
       obtain ⟨ha156a, ha156b⟩ := app_some hx155
       have r158 : rdL (eI .i64) ρ x155 (c24 ++ ([.int .i64 x150])) := ha156b ▸ rdL.app r26 (show rdL (eI .i64) ρ ([x150]) ([.int .i64 x150]) from ⟨([.int .i64 x150]), _, rfl, rfl, rdL.nil⟩)
       refine ne (E_append (k := 3) H rfl Tryz.underlying23 ty3 rfl (by decide) (by decide) rfl rfl (Src.ofArr (k := 0) H.ok rfl) (rdL.one (show rdL (eI .i64) ρ ([x150]) ([.int .i64 x150]) from ⟨([.int .i64 x150]), _, rfl, rfl, rdL.nil⟩)) (app_fit r26 (show rdL (eI .i64) ρ ([x150]) ([.int .i64 x150]) from ⟨([.int .i64 x150]), _, rfl, rfl, rdL.nil⟩) ha156a)) rfl rfl ?_
       rintro v157 wd160 ⟨H, hc159⟩
       dsimp only [List.set] at H
       refine nq (Q_nilP rfl) rfl rfl <| nq (v := .pointer (some ⟨b1, 6, none⟩)) (Q_fld Tryz.underlying187 rfl ty78 (by decide) rfl rfl) rfl rfl <| nq (v := .pointer (some ⟨b1, 7, none⟩)) (Q_fld Tryz.underlying78 rfl ty23 (by decide) rfl rfl) rfl rfl <| ne (E_stB (k := 1) (cs := [v157]) (vs' := [v2, v5, v8, v11, v14, v17, v23, v157, v31, .map (some b32), v130]) H rfl ty23 rfl rfl (arr_cells (H.ok.get (k := 3) rfl)).1 rfl (one_cons (arr_cells (H.ok.get (k := 3) rfl)).2 one_nil) (by simp) rfl) rfl rfl ?_
       rintro _ wd161 H
       dsimp only [List.set] at H
       refine WL_nil <| x_then <| C_seq <| R_nd <| nq (Q_move rfl) rfl rfl <| nq (Q_assign rfl) rfl rfl <| WL_nil <| x_then <| C_ret ?_
       replace H := H.e0
       obtain rfl := Option.some.inj hF
       exact fn_ret (l := [.tmp 4]) (vs := [.int .i64 (x35.length : Int)]) rfl rfl rfl ⟨v157, (c24 ++ ([.int .i64 x150])), v130, c131, x155, (mset x33 (x112, x113) (x35.length : Int)), x132, (x35.length : Int), rfl, rfl, r158, r133, H⟩
set_option maxHeartbeats 8000000 in
theorem c_66 {N : Nat} {C : Cx} {w : World} {ρ : View} {hs : List Hl} {gV : Nat → Value} {v1 : Value} {v4 : Value} {v7 : Value} {v10 : Value} {v13 : Value} {v16 : Value} {x2 : (List (List Int))} {x5 : (List Int)} {x8 : (List Int)} {x11 : (List (List Int))} {x14 : (List Int)} {x17 : (List Int)} (H : Hp C w ρ (hs)) (gle : GErrs ρ 394 errIds gV) (r3 : RdSl ρ (eA 256 (eI .i64)) v1 x2) (r6 : RdSl ρ (eI .i64) v4 x5) (r9 : RdSl ρ (eI .i64) v7 x8) (r12 : RdSl ρ (eA 256 (eI .i64)) v10 x11) (r15 : RdSl ρ (eI .i64) v13 x14) (r18 : RdSl ρ (eI .i64) v16 x17) {r : ((List (List Int)) × (List Int) × (List Int) × Int)} (hF : F_product_Both N x2 x5 x8 x11 x14 x17 = some r) :
  Calls Tryz.prog 66 [.agg #[v1, v4, v7], .agg #[v10, v13, v16]].toArray w (Rets (fun v w' => (∃ (v10556 : Value) (c10557 : (List Value)) (v10560 : Value) (c10561 : (List Value)) (v10564 : Value) (c10565 : (List Value)) (x10558 : (List (List Int))) (x10562 : (List Int)) (x10566 : (List Int)) (x10568 : Int), (x10558, x10562, x10566, x10568) = r ∧ .tuple [.agg #[v10556, v10560, v10564], errV errIds gV x10568].toArray = v ∧ rdL (eA 256 (eI .i64)) ρ x10558 c10557 ∧ rdL (eI .i64) ρ x10562 c10561 ∧ rdL (eI .i64) ρ x10566 c10565 ∧ Hp C w' ρ (Arr v10556 256 c10557 :: Arr v10560 1 c10561 :: Arr v10564 1 c10565 :: hs)))) := by
 unfold F_product_Both at hF
 have h0 : Tryz.f66.body = some _ := rfl
 refine fn_calls' Tryz.func66 h0 (n := 117) rfl (by simp) <| C_seq <| R_nd <| ne (E_box H (vs := [v1, v4, v7]) rfl rfl) rfl rfl ?_
 rintro _ wd10570 ⟨b10569, rfl, H⟩
 refine ne (E_box H (vs := [v10, v13, v16]) rfl rfl) rfl rfl ?_
 rintro _ wd10572 ⟨b10571, rfl, H⟩
 refine ne (E_alloc H ty78 (zs := [.slice none 0 0, .slice none 0 0, .slice none 0 0]) rfl) rfl rfl ?_
 rintro _ wd10574 ⟨b10573, rfl, H⟩
 refine nq (Q_assign rfl) rfl rfl <| WL_nil <| x_then <| C_seq <| R_nd <| nq (v := .agg #[v1, v4, v7]) (Q_ldB (k := 2) (cs := [v1, v4, v7]) H.ok rfl ty78 rfl rfl rfl (fun h => nomatch h) rfl) rfl rfl <| nq (v := .agg #[v10, v13, v16]) (Q_ldB (k := 1) (cs := [v10, v13, v16]) H.ok rfl ty78 rfl rfl rfl (fun h => nomatch h) rfl) rfl rfl <| nq (v := .agg #[v1, v4, v7, v10, v13, v16]) (Q_buildS st162.choose_spec (ps := [(0, [v1, v4, v7]), (3, [v10, v13, v16])]) rfl ⟨rfl, rfl, by simp, ⟨rfl, rfl, by simp, trivial⟩⟩ rfl) rfl rfl <| ne (E_makeMap (kP2 .i64) (Value.int .i64) H) rfl rfl ?_
 rintro _ wd10576 ⟨b10575, rfl, H⟩
 refine nq (v := .agg #[v1, v4, v7, v10, v13, v16, .slice none 0 0, .slice none 0 0, .slice none 0 0, .map (some b10575), .slice none 0 0]) (Q_buildS st187.choose_spec (ps := [(0, [v1, v4, v7, v10, v13, v16]), (9, [.map (some b10575)])]) rfl ⟨rfl, rfl, by simp, ⟨rfl, rfl, by simp, trivial⟩⟩ rfl) rfl rfl <| ne (E_box H (vs := [v1, v4, v7, v10, v13, v16, .slice none 0 0, .slice none 0 0, .slice none 0 0, .map (some b10575), .slice none 0 0]) rfl rfl) rfl rfl ?_
 rintro _ wd10578 ⟨b10577, rfl, H⟩
 refine nq (Q_assign rfl) rfl rfl <| WL_nil <| x_then <| C_seq ?_
 obtain ⟨o10584, ho10584, hF⟩ := bnd hF
 refine C_cut (fun a w' => ∃ (x10583 : Bool), x10583 = o10584 ∧ Fr 117 a [(2, .pointer (some ⟨b10569, 0, none⟩)), (4, .pointer (some ⟨b10573, 0, none⟩)), (6, .pointer (some ⟨b10577, 0, none⟩)), (31, .bool x10583)] ∧ Hp C w' ρ (Box b10569 [v1, v4, v7] :: Box b10573 [.slice none 0 0, .slice none 0 0, .slice none 0 0] :: Box b10577 [v1, v4, v7, v10, v13, v16, .slice none 0 0, .slice none 0 0, .slice none 0 0, .map (some b10575), .slice none 0 0] :: Mp (kP2 .i64) (Value.int .i64) b10575 ([] : List ((Int × Int) × Int)) :: hs)) ?_ ?_
 ·refine R_nd <| nq (Q_move rfl) rfl rfl <| nq (Q_nilP rfl) rfl rfl <| nq (v := .pointer (some ⟨b10577, 0, none⟩)) (Q_fld Tryz.underlying187 rfl ty162 (by decide) rfl rfl) rfl rfl <| nq (v := .agg #[v1, v4, v7, v10, v13, v16]) (Q_ldB (k := 0) (cs := [v1, v4, v7, v10, v13, v16]) H.ok rfl ty162 rfl rfl rfl (fun h => nomatch h) rfl) rfl rfl ?_
  obtain ⟨q10585, hq10585, ho10584⟩ := bnd ho10584
  refine ne (E_call fn100 rfl (c_100 H gle  r3 r6 r9 r12 r15 r18 hq10585)) rfl rfl ?_
  rintro _ wd10588 ⟨x10587, rfl, rfl, H⟩
  try dsimp only at ho10584
  refine nq (Q_not rfl) rfl rfl <| nq (Q_move rfl) rfl rfl ?_
  rcases Bool.eq_false_or_eq_true (!x10587) with hb | hb
  ·rw [hb]
   replace ho10584 := itT hb ho10584
   refine gs rfl rfl rfl rfl <| gs rfl rfl rfl rfl <| gs rfl rfl rfl rfl <| gs rfl rfl rfl rfl <| gs rfl rfl rfl rfl <| gs rfl rfl rfl rfl <| gs rfl rfl rfl rfl <| nq (Q_pickT rfl rfl) rfl rfl <| WL_nil ?_
   replace H := H.e3.f2.f3
   obtain rfl := Option.some.inj ho10584
   refine x_A fun a hf => ⟨true, rfl, hf.sub ⟨rfl, rfl, rfl, rfl, trivial⟩, H⟩
  ·rw [hb]
   replace ho10584 := itF hb ho10584
   refine gq (v := .pointer (some ⟨b10569, 2, none⟩)) (Q_fld Tryz.underlying78 rfl ty23 (by decide) rfl rfl) rfl rfl rfl <| gq (v := v7) (Q_ldB (k := 4) (cs := [v7]) H.ok rfl ty23 rfl rfl rfl (fun _ => rfl) rfl) rfl rfl rfl <| gq (Q_len Tryz.underlying23 rfl r9) rfl rfl rfl <| gq (v := .pointer (some ⟨b10571, 2, none⟩)) (Q_fld Tryz.underlying78 rfl ty23 (by decide) rfl rfl) rfl rfl rfl <| gq (v := v16) (Q_ldB (k := 3) (cs := [v16]) H.ok rfl ty23 rfl rfl rfl (fun _ => rfl) rfl) rfl rfl rfl <| gq (Q_len Tryz.underlying23 rfl r18) rfl rfl rfl <| gq (Q_neq rfl rfl) rfl rfl rfl <| nq (Q_pickF rfl rfl) rfl rfl <| WL_nil ?_
   replace H := H.e3.f2.f3
   obtain rfl := Option.some.inj ho10584
   refine x_A fun a hf => ⟨(x8.length : Int) != (x17.length : Int), rfl, hf.sub ⟨rfl, rfl, rfl, rfl, trivial⟩, H⟩
 ·rintro a wd10589 ⟨x10583, rfl, hf, H⟩
  try dsimp only at hF
  refine CW.at hf ?_
  refine C_cond rfl (fun hb => ?_) (fun hb => ?_)
  ·replace hF := itT hb hF
   obtain ⟨o10591, ho10591, hF⟩ := bnd hF
   refine C_cut (fun a w' => Fr 117 a [(4, .pointer (some ⟨b10573, 0, none⟩)), (5, errV errIds gV 2)] ∧ Hp C w' ρ (Box b10573 [.slice none 0 0, .slice none 0 0, .slice none 0 0] :: hs)) ?_ ?_
   ·refine R_dr (.take 0 (.take 1 (.one 2 (.take 3 .done)))) none (S := fun w' => Ok w' ρ [Box b10569 [v1, v4, v7], Box b10573 [.slice none 0 0, .slice none 0 0, .slice none 0 0], Box b10577 [v1, v4, v7, v10, v13, v16, .slice none 0 0, .slice none 0 0, .slice none 0 0, .map (some b10575), .slice none 0 0], Mp (kP2 .i64) (Value.int .i64) b10575 ([] : List ((Int × Int) × Int))]) hm0 (by kernel_rfl) (H.drew.okS (by simp)) ?_
    replace H := H.drew
    refine dq (v := .agg #[.slice none 0 0, .slice none 0 0, .slice none 0 0]) rfl (fun _ _ => Q_buildS st78.choose_spec (ps := []) rfl trivial rfl) rfl rfl <| dq (v := errV errIds gV 2) rfl (fun _ hw => Q_ldV hw gle (by decide) ty53) rfl rfl ?_
    refine d1 (de rfl (E_stB (k := 1) (cs := [.slice none 0 0, .slice none 0 0, .slice none 0 0]) (vs' := [.slice none 0 0, .slice none 0 0, .slice none 0 0]) H rfl ty78 rfl rfl rfl rfl (one_cons rfl (one_cons rfl (one_cons rfl one_nil))) (by simp) rfl) rfl rfl ?_)
    rintro _ wd10592 H
    dsimp only [List.set] at H
    refine ⟨H.okS (by simp), ?_⟩
    refine dq rfl (fun _ _ => Q_assign rfl) rfl rfl <| DL_nil ?_
    replace H := H.e3.e2.e0
    obtain rfl := Option.some.inj ho10591
    refine x_A fun a hf => ⟨hf.sub ⟨rfl, rfl, trivial⟩, H⟩
   ·rintro a wd10593 ⟨hf, H⟩
    try dsimp only at hF
    refine CW.at hf <| C_ret <| x_then_ret ?_
    have H := H.nilArr 256
    have H := H.nilArr 1
    have H := H.nilArr 1
    have hRV : RV Tryz.prog wd10593 [(4, .pointer (some ⟨b10573, 0, none⟩)), (5, errV errIds gV 2)] [.cell 4 78, .tmp 5] [.agg #[(.slice none 0 0), (.slice none 0 0), (.slice none 0 0)], errV errIds gV 2] := ⟨⟨_, rfl, run_ldv ty78 rfl (fun h => nomatch h) (box_at (H.ok.get (k := 3) rfl) 0 3)⟩, rfl, trivial⟩
    replace H := H.e3.f1.f2
    obtain rfl := Option.some.inj hF
    exact fn_retV (rs := [.cell 4 78, .tmp 5]) (vs := [.agg #[(.slice none 0 0), (.slice none 0 0), (.slice none 0 0)], errV errIds gV 2]) rfl hRV ⟨(.slice none 0 0), [], (.slice none 0 0), [], (.slice none 0 0), [], [], [], [], 2, rfl, rfl, rdL.nil, rdL.nil, rdL.nil, H⟩
  ·replace hF := itF hb hF
   refine C_skip <| x_then <| C_seq <| R_nd <| nq (Q_move rfl) rfl rfl <| nq (v := .agg #[.int .i64 0, .int .i64 0]) (Q_buildS st164.choose_spec (ps := []) rfl trivial rfl) rfl rfl ?_
   have H := H.nilArr 256
   have H := H.nilArr 1
   have H := H.nilArr 1
   have H := H.nilArr 2
   replace H := H.f7.f2.f3.f4.f7
   obtain ⟨q10594, hq10594, hF⟩ := bnd hF
   refine ne (E_call fn114 rfl (c_114 H gle  r3 r6 r9 r12 r15 r18 rdL.nil rdL.nil rdL.nil rdL.nil hq10594)) rfl rfl ?_
   rintro _ wd10606 ⟨v10596, c10597, v10598, c10599, x10600, x10601, x10602, x10603, rfl, rfl, r10604, r10605, H⟩
   try dsimp only at hF
   refine WL_nil <| x_then <| C_seq <| C_seq <| R_nd <| nq (v := .pointer (some ⟨b10569, 2, none⟩)) (Q_fld Tryz.underlying78 rfl ty23 (by decide) rfl rfl) rfl rfl <| nq (v := v7) (Q_ldB (k := 6) (cs := [v7]) H.ok rfl ty23 rfl rfl rfl (fun _ => rfl) rfl) rfl rfl <| nq (Q_len Tryz.underlying23 rfl r9) rfl rfl <| nq (Q_move rfl) rfl rfl <| WL_nil <| x_then ?_
   obtain ⟨o11383, ho11383, hF⟩ := bnd hF
   refine C_cutQ (fun a w' => ∃ (v11370 : Value) (c11371 : (List Value)) (v11374 : Value) (c11375 : (List Value)) (v11379 : Value) (c11380 : (List Value)) (x11372 : (List Int)) (x11376 : (List Int)) (x11378 : (List ((Int × Int) × Int))) (x11381 : (List (Int × Int))), (x11372, x11376, x11378, x11381) = o11383 ∧ rdL (eI .i64) ρ x11372 c11371 ∧ rdL (eI .i64) ρ x11376 c11375 ∧ rdL (eP (eI .i64) (eI .i64)) ρ x11381 c11380 ∧ Fr 117 a [(4, .pointer (some ⟨b10573, 0, none⟩)), (6, .pointer (some ⟨b10577, 0, none⟩))] ∧ Hp C w' ρ (Box b10573 [.slice none 0 0, .slice none 0 0, .slice none 0 0] :: Box b10577 [v1, v4, v7, v10, v13, v16, (.slice none 0 0), v11370, v11374, .map (some b10575), v11379] :: Arr (.slice none 0 0) 256 ([]) :: Arr v11370 1 c11371 :: Arr v11374 1 c11375 :: Mp (kP2 .i64) (Value.int .i64) b10575 x11378 :: Arr v11379 2 c11380 :: hs)) ?_ ?_
   ·refine C_block ?_
    replace H := H.e6.f6
    refine C_iter (f := fun s => F_product_Both_l0 N x2 x5 x8 x11 x14 x17 s.1 s.2.1 s.2.2.1 s.2.2.2.1 s.2.2.2.2) ho11383 (fun s a w' => ∃ (v11638 : Value) (c11639 : (List Value)) (v11642 : Value) (c11643 : (List Value)) (v11647 : Value) (c11648 : (List Value)) (x11637 : Int) (x11640 : (List Int)) (x11644 : (List Int)) (x11646 : (List ((Int × Int) × Int))) (x11649 : (List (Int × Int))), (x11637, x11640, x11644, x11646, x11649) = s ∧ rdL (eI .i64) ρ x11640 c11639 ∧ rdL (eI .i64) ρ x11644 c11643 ∧ rdL (eP (eI .i64) (eI .i64)) ρ x11649 c11648 ∧ Fr 117 a [(4, .pointer (some ⟨b10573, 0, none⟩)), (6, .pointer (some ⟨b10577, 0, none⟩)), (39, .int .i64 (x8.length : Int)), (40, .int .i64 x11637)] ∧ Hp C w' ρ (Box b10573 [.slice none 0 0, .slice none 0 0, .slice none 0 0] :: Box b10577 [v1, v4, v7, v10, v13, v16, (.slice none 0 0), v11638, v11642, .map (some b10575), v11647] :: Arr (.slice none 0 0) 256 ([]) :: Arr v11638 1 c11639 :: Arr v11642 1 c11643 :: Mp (kP2 .i64) (Value.int .i64) b10575 x11646 :: Arr v11647 2 c11648 :: hs)) ?_ ?_
    ·exact fun a hf => ⟨v10596, c10597, (.slice none 0 0), ([]), v10598, c10599, 0, x10600, ([]), x10601, x10602, rfl, r10604, rdL.nil, r10605, hf.sub ⟨rfl, rfl, rfl, rfl, trivial⟩, H⟩
    ·rintro s o11904 a wd11907 ⟨v11638, c11639, v11642, c11643, v11647, c11648, x11637, x11640, x11644, x11646, x11649, rfl, r11641, r11645, r11650, hf, H⟩ hB11905 hO11906
     replace hB11905 : F_product_Both_l0 N x2 x5 x8 x11 x14 x17 x11637 x11640 x11644 x11646 x11649 = some o11904 := hB11905
     unfold F_product_Both_l0 at hB11905
     refine CW.at hf <| C_seq <| R_nd <| nq (Q_lss rfl rfl) rfl rfl <| WL_nil <| x_then <| C_seq ?_
     refine C_cond rfl (fun hb => ?_) (fun hb => ?_)
     ·replace hB11905 := itT hb hB11905
      refine C_skip <| x_then <| C_seq <| C_block <| C_seq <| R_nd <| nq (Q_move rfl) rfl rfl <| nq (Q_assign rfl) rfl rfl <| WL_nil <| x_then ?_
      obtain ⟨o12033, ho12033, hB11905⟩ := bnd hB11905
      refine C_cutQ (fun a w' => ∃ (v12020 : Value) (c12021 : (List Value)) (v12024 : Value) (c12025 : (List Value)) (v12029 : Value) (c12030 : (List Value)) (x12022 : (List Int)) (x12026 : (List Int)) (x12028 : (List ((Int × Int) × Int))) (x12031 : (List (Int × Int))), (x12022, x12026, x12028, x12031) = o12033 ∧ rdL (eI .i64) ρ x12022 c12021 ∧ rdL (eI .i64) ρ x12026 c12025 ∧ rdL (eP (eI .i64) (eI .i64)) ρ x12031 c12030 ∧ Fr 117 a [(4, .pointer (some ⟨b10573, 0, none⟩)), (6, .pointer (some ⟨b10577, 0, none⟩)), (39, .int .i64 (x8.length : Int)), (40, .int .i64 x11637)] ∧ Hp C w' ρ (Box b10573 [.slice none 0 0, .slice none 0 0, .slice none 0 0] :: Box b10577 [v1, v4, v7, v10, v13, v16, (.slice none 0 0), v12020, v12024, .map (some b10575), v12029] :: Arr (.slice none 0 0) 256 ([]) :: Arr v12020 1 c12021 :: Arr v12024 1 c12025 :: Mp (kP2 .i64) (Value.int .i64) b10575 x12028 :: Arr v12029 2 c12030 :: hs)) ?_ ?_
      ·refine R_dr (.take 0 (.take 1 (.take 2 (.take 3 (.take 4 (.take 6 (.take 7 (.take 8 (.take 9 (.take 11 (.two 5 10 (.one 10 (.one 12 (.one 13 (.one 14 (.one 15 (.take 16 (.take 17 (.take 18 (.bar 19 none .done))))))))) (.two 5 12 (.one 12 (.one 13 (.one 14 (.one 15 (.take 16 (.take 17 (.take 18 (.bar 19 none .done)))))))) (.two 5 13 (.one 13 (.one 14 (.one 15 (.take 16 (.take 17 (.take 18 (.bar 19 none .done))))))) (.two 5 14 (.one 14 (.one 15 (.take 16 (.take 17 (.take 18 (.bar 19 none .done)))))) (.one 5 (.one 15 (.take 16 (.take 17 (.take 18 (.bar 19 none .done)))))))))))))))))))) (some 19) (S := fun w' => Ok w' ρ [Box b10573 [.slice none 0 0, .slice none 0 0, .slice none 0 0], Arr (.slice none 0 0) 256 ([])]) hm0 (by kernel_rfl) (H.drew.okS (by simp)) ?_
       replace H := H.drew
       refine dq rfl (fun _ _ => Q_move rfl) rfl rfl <| dq rfl (fun _ _ => Q_move rfl) rfl rfl <| dq rfl (fun _ _ => Q_nilP rfl) rfl rfl <| dq (v := .pointer (some ⟨b10577, 6, none⟩)) rfl (fun _ _ => Q_fld Tryz.underlying187 rfl ty78 (by decide) rfl rfl) rfl rfl <| dq (v := .pointer (some ⟨b10577, 8, none⟩)) rfl (fun _ _ => Q_fld Tryz.underlying78 rfl ty23 (by decide) rfl rfl) rfl rfl <| dq rfl (fun _ _ => Q_move rfl) rfl rfl <| dq rfl (fun _ _ => Q_move rfl) rfl rfl <| dq rfl (fun _ _ => Q_nilP rfl) rfl rfl <| dq (v := .pointer (some ⟨b10577, 0, none⟩)) rfl (fun _ _ => Q_fld Tryz.underlying187 rfl ty162 (by decide) rfl rfl) rfl rfl <| dq rfl (fun _ _ => Q_move rfl) rfl rfl ?_
       refine d2 ?_ ?_
       ·refine de rfl (Eff.quiet (v := v11642) (Q_ldB (k := 1) (cs := [v11642]) H.ok rfl ty23 rfl rfl rfl (fun _ => rfl) rfl)) rfl rfl ?_
        rintro _ _ ⟨rfl, rfl⟩
        refine ⟨H.okS (by simp), ?_⟩
        refine d1 (de rfl (Eff.quiet (v := .agg #[v1, v4, v7, v10, v13, v16]) (Q_ldB (k := 1) (cs := [v1, v4, v7, v10, v13, v16]) H.ok rfl ty162 rfl rfl rfl (fun h => nomatch h) rfl)) rfl rfl ?_)
        rintro _ _ ⟨rfl, rfl⟩
        refine ⟨H.okS (by simp), ?_⟩
        obtain ⟨q12034, hq12034, ho12033⟩ := bnd ho12033
        refine d1 (de rfl (E_call fn115 rfl (c_115 H gle  r3 r6 r9 r12 r15 r18 hq12034)) rfl rfl ?_)
        rintro _ wd12038 ⟨x12036, x12037, rfl, rfl, H⟩
        try dsimp only at ho12033
        refine ⟨H.okS (by simp), ?_⟩
        replace H := H.f6.f6.f6.f6.f6.f6
        obtain ⟨q12039, hq12039, ho12033⟩ := bnd ho12033
        refine d1 (de rfl (E_call fn114 rfl (c_114 H gle  r3 r6 r9 r12 r15 r18 rdL.nil r11641 r11645 r11650 hq12039)) rfl rfl ?_)
        rintro _ wd12051 ⟨v12041, c12042, v12043, c12044, x12045, x12046, x12047, x12048, rfl, rfl, r12049, r12050, H⟩
        try dsimp only at ho12033
        refine ⟨H.okS (by simp), ?_⟩
        refine d1 (de rfl (E_bslice (xs := [.tmp 56]) (vs := [.int .i64 x12048]) H Tryz.underlying23 ty3 (by decide) (cs := [.int .i64 x12048]) rfl (sz_cons rfl sz_nil) rfl (by simp) (by simp) rfl rfl) rfl rfl ?_)
        rintro _ wd12053 ⟨b12052, rfl, H⟩
        refine ⟨H.okS (by simp), ?_⟩
        obtain ⟨x12054, hx12054, ho12033⟩ := bnd ho12033
        obtain ⟨ha12055a, ha12055b⟩ := app_some hx12054
        have r12057 : rdL (eI .i64) ρ x12054 (c11643 ++ ([.int .i64 x12048])) := ha12055b ▸ rdL.app r11645 (show rdL (eI .i64) ρ ([x12048]) ([.int .i64 x12048]) from ⟨([.int .i64 x12048]), _, rfl, rfl, rdL.nil⟩)
        refine d1 (de rfl (E_append (k := 4) H rfl Tryz.underlying23 ty3 rfl (by decide) (by decide) rfl rfl (Src.ofArr (k := 0) H.ok rfl) (rdL.one (show rdL (eI .i64) ρ ([x12048]) ([.int .i64 x12048]) from ⟨([.int .i64 x12048]), _, rfl, rfl, rdL.nil⟩)) (app_fit r11645 (show rdL (eI .i64) ρ ([x12048]) ([.int .i64 x12048]) from ⟨([.int .i64 x12048]), _, rfl, rfl, rdL.nil⟩) ha12055a)) rfl rfl ?_)
        rintro v12056 wd12059 ⟨H, hc12058⟩
        dsimp only [List.set] at H
        refine ⟨H.okS (by simp), ?_⟩
        refine dq rfl (fun _ _ => Q_nilP rfl) rfl rfl <| dq (v := .pointer (some ⟨b10577, 6, none⟩)) rfl (fun _ _ => Q_fld Tryz.underlying187 rfl ty78 (by decide) rfl rfl) rfl rfl <| dq (v := .pointer (some ⟨b10577, 8, none⟩)) rfl (fun _ _ => Q_fld Tryz.underlying78 rfl ty23 (by decide) rfl rfl) rfl rfl <| db rfl (E_stB (k := 1) (cs := [v12056]) (vs' := [v1, v4, v7, v10, v13, v16, (.slice none 0 0), v12041, v12056, .map (some b10575), v12043]) H rfl ty23 rfl rfl (arr_cells (H.ok.get (k := 4) rfl)).1 rfl (one_cons (arr_cells (H.ok.get (k := 4) rfl)).2 one_nil) (by simp) rfl) rfl rfl ?_
        rintro _ wd12060 H
        dsimp only [List.set] at H
        refine H.okF <| DL_nil ?_
        replace H := H.e0.f6
        obtain rfl := Option.some.inj ho12033
        refine x_A fun a hf => ⟨v12041, c12042, v12056, (c11643 ++ ([.int .i64 x12048])), v12043, c12044, x12045, x12054, x12046, x12047, rfl, r12049, r12057, r12050, hf.sub ⟨rfl, rfl, rfl, rfl, trivial⟩, H⟩
       ·refine de rfl (Eff.quiet (v := .agg #[v1, v4, v7, v10, v13, v16]) (Q_ldB (k := 1) (cs := [v1, v4, v7, v10, v13, v16]) H.ok rfl ty162 rfl rfl rfl (fun h => nomatch h) rfl)) rfl rfl ?_
        rintro _ _ ⟨rfl, rfl⟩
        refine ⟨H.okS (by simp), ?_⟩
        refine d2 ?_ ?_
        ·refine de rfl (Eff.quiet (v := v11642) (Q_ldB (k := 1) (cs := [v11642]) H.ok rfl ty23 rfl rfl rfl (fun _ => rfl) rfl)) rfl rfl ?_
         rintro _ _ ⟨rfl, rfl⟩
         refine ⟨H.okS (by simp), ?_⟩
         obtain ⟨q12061, hq12061, ho12033⟩ := bnd ho12033
         refine d1 (de rfl (E_call fn115 rfl (c_115 H gle  r3 r6 r9 r12 r15 r18 hq12061)) rfl rfl ?_)
         rintro _ wd12065 ⟨x12063, x12064, rfl, rfl, H⟩
         try dsimp only at ho12033
         refine ⟨H.okS (by simp), ?_⟩
         replace H := H.f6.f6.f6.f6.f6.f6
         obtain ⟨q12066, hq12066, ho12033⟩ := bnd ho12033
         refine d1 (de rfl (E_call fn114 rfl (c_114 H gle  r3 r6 r9 r12 r15 r18 rdL.nil r11641 r11645 r11650 hq12066)) rfl rfl ?_)
         rintro _ wd12078 ⟨v12068, c12069, v12070, c12071, x12072, x12073, x12074, x12075, rfl, rfl, r12076, r12077, H⟩
         try dsimp only at ho12033
         refine ⟨H.okS (by simp), ?_⟩
         refine d1 (de rfl (E_bslice (xs := [.tmp 56]) (vs := [.int .i64 x12075]) H Tryz.underlying23 ty3 (by decide) (cs := [.int .i64 x12075]) rfl (sz_cons rfl sz_nil) rfl (by simp) (by simp) rfl rfl) rfl rfl ?_)
         rintro _ wd12080 ⟨b12079, rfl, H⟩
         refine ⟨H.okS (by simp), ?_⟩
         obtain ⟨x12081, hx12081, ho12033⟩ := bnd ho12033
         obtain ⟨ha12082a, ha12082b⟩ := app_some hx12081
         have r12084 : rdL (eI .i64) ρ x12081 (c11643 ++ ([.int .i64 x12075])) := ha12082b ▸ rdL.app r11645 (show rdL (eI .i64) ρ ([x12075]) ([.int .i64 x12075]) from ⟨([.int .i64 x12075]), _, rfl, rfl, rdL.nil⟩)
         refine d1 (de rfl (E_append (k := 4) H rfl Tryz.underlying23 ty3 rfl (by decide) (by decide) rfl rfl (Src.ofArr (k := 0) H.ok rfl) (rdL.one (show rdL (eI .i64) ρ ([x12075]) ([.int .i64 x12075]) from ⟨([.int .i64 x12075]), _, rfl, rfl, rdL.nil⟩)) (app_fit r11645 (show rdL (eI .i64) ρ ([x12075]) ([.int .i64 x12075]) from ⟨([.int .i64 x12075]), _, rfl, rfl, rdL.nil⟩) ha12082a)) rfl rfl ?_)
         rintro v12083 wd12086 ⟨H, hc12085⟩
         dsimp only [List.set] at H
         refine ⟨H.okS (by simp), ?_⟩
         refine dq rfl (fun _ _ => Q_nilP rfl) rfl rfl <| dq (v := .pointer (some ⟨b10577, 6, none⟩)) rfl (fun _ _ => Q_fld Tryz.underlying187 rfl ty78 (by decide) rfl rfl) rfl rfl <| dq (v := .pointer (some ⟨b10577, 8, none⟩)) rfl (fun _ _ => Q_fld Tryz.underlying78 rfl ty23 (by decide) rfl rfl) rfl rfl <| db rfl (E_stB (k := 1) (cs := [v12083]) (vs' := [v1, v4, v7, v10, v13, v16, (.slice none 0 0), v12068, v12083, .map (some b10575), v12070]) H rfl ty23 rfl rfl (arr_cells (H.ok.get (k := 4) rfl)).1 rfl (one_cons (arr_cells (H.ok.get (k := 4) rfl)).2 one_nil) (by simp) rfl) rfl rfl ?_
         rintro _ wd12087 H
         dsimp only [List.set] at H
         refine H.okF <| DL_nil ?_
         replace H := H.e0.f6
         obtain rfl := Option.some.inj ho12033
         refine x_A fun a hf => ⟨v12068, c12069, v12083, (c11643 ++ ([.int .i64 x12075])), v12070, c12071, x12072, x12081, x12073, x12074, rfl, r12076, r12084, r12077, hf.sub ⟨rfl, rfl, rfl, rfl, trivial⟩, H⟩
        ·obtain ⟨q12088, hq12088, ho12033⟩ := bnd ho12033
         refine de rfl (E_call fn115 rfl (c_115 H gle  r3 r6 r9 r12 r15 r18 hq12088)) rfl rfl ?_
         rintro _ wd12092 ⟨x12090, x12091, rfl, rfl, H⟩
         try dsimp only at ho12033
         refine ⟨H.okS (by simp), ?_⟩
         refine d2 ?_ ?_
         ·refine de rfl (Eff.quiet (v := v11642) (Q_ldB (k := 1) (cs := [v11642]) H.ok rfl ty23 rfl rfl rfl (fun _ => rfl) rfl)) rfl rfl ?_
          rintro _ _ ⟨rfl, rfl⟩
          refine ⟨H.okS (by simp), ?_⟩
          replace H := H.f6.f6.f6.f6.f6.f6
          obtain ⟨q12093, hq12093, ho12033⟩ := bnd ho12033
          refine d1 (de rfl (E_call fn114 rfl (c_114 H gle  r3 r6 r9 r12 r15 r18 rdL.nil r11641 r11645 r11650 hq12093)) rfl rfl ?_)
          rintro _ wd12105 ⟨v12095, c12096, v12097, c12098, x12099, x12100, x12101, x12102, rfl, rfl, r12103, r12104, H⟩
          try dsimp only at ho12033
          refine ⟨H.okS (by simp), ?_⟩
          refine d1 (de rfl (E_bslice (xs := [.tmp 56]) (vs := [.int .i64 x12102]) H Tryz.underlying23 ty3 (by decide) (cs := [.int .i64 x12102]) rfl (sz_cons rfl sz_nil) rfl (by simp) (by simp) rfl rfl) rfl rfl ?_)
          rintro _ wd12107 ⟨b12106, rfl, H⟩
          refine ⟨H.okS (by simp), ?_⟩
          obtain ⟨x12108, hx12108, ho12033⟩ := bnd ho12033
          obtain ⟨ha12109a, ha12109b⟩ := app_some hx12108
          have r12111 : rdL (eI .i64) ρ x12108 (c11643 ++ ([.int .i64 x12102])) := ha12109b ▸ rdL.app r11645 (show rdL (eI .i64) ρ ([x12102]) ([.int .i64 x12102]) from ⟨([.int .i64 x12102]), _, rfl, rfl, rdL.nil⟩)
          refine d1 (de rfl (E_append (k := 4) H rfl Tryz.underlying23 ty3 rfl (by decide) (by decide) rfl rfl (Src.ofArr (k := 0) H.ok rfl) (rdL.one (show rdL (eI .i64) ρ ([x12102]) ([.int .i64 x12102]) from ⟨([.int .i64 x12102]), _, rfl, rfl, rdL.nil⟩)) (app_fit r11645 (show rdL (eI .i64) ρ ([x12102]) ([.int .i64 x12102]) from ⟨([.int .i64 x12102]), _, rfl, rfl, rdL.nil⟩) ha12109a)) rfl rfl ?_)
          rintro v12110 wd12113 ⟨H, hc12112⟩
          dsimp only [List.set] at H
          refine ⟨H.okS (by simp), ?_⟩
          refine dq rfl (fun _ _ => Q_nilP rfl) rfl rfl <| dq (v := .pointer (some ⟨b10577, 6, none⟩)) rfl (fun _ _ => Q_fld Tryz.underlying187 rfl ty78 (by decide) rfl rfl) rfl rfl <| dq (v := .pointer (some ⟨b10577, 8, none⟩)) rfl (fun _ _ => Q_fld Tryz.underlying78 rfl ty23 (by decide) rfl rfl) rfl rfl <| db rfl (E_stB (k := 1) (cs := [v12110]) (vs' := [v1, v4, v7, v10, v13, v16, (.slice none 0 0), v12095, v12110, .map (some b10575), v12097]) H rfl ty23 rfl rfl (arr_cells (H.ok.get (k := 4) rfl)).1 rfl (one_cons (arr_cells (H.ok.get (k := 4) rfl)).2 one_nil) (by simp) rfl) rfl rfl ?_
          rintro _ wd12114 H
          dsimp only [List.set] at H
          refine H.okF <| DL_nil ?_
          replace H := H.e0.f6
          obtain rfl := Option.some.inj ho12033
          refine x_A fun a hf => ⟨v12095, c12096, v12110, (c11643 ++ ([.int .i64 x12102])), v12097, c12098, x12099, x12108, x12100, x12101, rfl, r12103, r12111, r12104, hf.sub ⟨rfl, rfl, rfl, rfl, trivial⟩, H⟩
         ·replace H := H.f6.f6.f6.f6.f6.f6
          obtain ⟨q12115, hq12115, ho12033⟩ := bnd ho12033
          refine de rfl (E_call fn114 rfl (c_114 H gle  r3 r6 r9 r12 r15 r18 rdL.nil r11641 r11645 r11650 hq12115)) rfl rfl ?_
          rintro _ wd12127 ⟨v12117, c12118, v12119, c12120, x12121, x12122, x12123, x12124, rfl, rfl, r12125, r12126, H⟩
          try dsimp only at ho12033
          refine ⟨H.okS (by simp), ?_⟩
          refine d2 ?_ ?_
          ·refine de rfl (Eff.quiet (v := v11642) (Q_ldB (k := 0) (cs := [v11642]) H.ok rfl ty23 rfl rfl rfl (fun _ => rfl) rfl)) rfl rfl ?_
           rintro _ _ ⟨rfl, rfl⟩
           refine ⟨H.okS (by simp), ?_⟩
           refine d1 (de rfl (E_bslice (xs := [.tmp 56]) (vs := [.int .i64 x12124]) H Tryz.underlying23 ty3 (by decide) (cs := [.int .i64 x12124]) rfl (sz_cons rfl sz_nil) rfl (by simp) (by simp) rfl rfl) rfl rfl ?_)
           rintro _ wd12129 ⟨b12128, rfl, H⟩
           refine ⟨H.okS (by simp), ?_⟩
           obtain ⟨x12130, hx12130, ho12033⟩ := bnd ho12033
           obtain ⟨ha12131a, ha12131b⟩ := app_some hx12130
           have r12133 : rdL (eI .i64) ρ x12130 (c11643 ++ ([.int .i64 x12124])) := ha12131b ▸ rdL.app r11645 (show rdL (eI .i64) ρ ([x12124]) ([.int .i64 x12124]) from ⟨([.int .i64 x12124]), _, rfl, rfl, rdL.nil⟩)
           refine d1 (de rfl (E_append (k := 4) H rfl Tryz.underlying23 ty3 rfl (by decide) (by decide) rfl rfl (Src.ofArr (k := 0) H.ok rfl) (rdL.one (show rdL (eI .i64) ρ ([x12124]) ([.int .i64 x12124]) from ⟨([.int .i64 x12124]), _, rfl, rfl, rdL.nil⟩)) (app_fit r11645 (show rdL (eI .i64) ρ ([x12124]) ([.int .i64 x12124]) from ⟨([.int .i64 x12124]), _, rfl, rfl, rdL.nil⟩) ha12131a)) rfl rfl ?_)
           rintro v12132 wd12135 ⟨H, hc12134⟩
           dsimp only [List.set] at H
           refine ⟨H.okS (by simp), ?_⟩
           refine dq rfl (fun _ _ => Q_nilP rfl) rfl rfl <| dq (v := .pointer (some ⟨b10577, 6, none⟩)) rfl (fun _ _ => Q_fld Tryz.underlying187 rfl ty78 (by decide) rfl rfl) rfl rfl <| dq (v := .pointer (some ⟨b10577, 8, none⟩)) rfl (fun _ _ => Q_fld Tryz.underlying78 rfl ty23 (by decide) rfl rfl) rfl rfl <| db rfl (E_stB (k := 1) (cs := [v12132]) (vs' := [v1, v4, v7, v10, v13, v16, (.slice none 0 0), v12117, v12132, .map (some b10575), v12119]) H rfl ty23 rfl rfl (arr_cells (H.ok.get (k := 4) rfl)).1 rfl (one_cons (arr_cells (H.ok.get (k := 4) rfl)).2 one_nil) (by simp) rfl) rfl rfl ?_
           rintro _ wd12136 H
           dsimp only [List.set] at H
           refine H.okF <| DL_nil ?_
           replace H := H.e0.f6
           obtain rfl := Option.some.inj ho12033
           refine x_A fun a hf => ⟨v12117, c12118, v12132, (c11643 ++ ([.int .i64 x12124])), v12119, c12120, x12121, x12130, x12122, x12123, rfl, r12125, r12133, r12126, hf.sub ⟨rfl, rfl, rfl, rfl, trivial⟩, H⟩
          ·refine de rfl (E_bslice (xs := [.tmp 56]) (vs := [.int .i64 x12124]) H Tryz.underlying23 ty3 (by decide) (cs := [.int .i64 x12124]) rfl (sz_cons rfl sz_nil) rfl (by simp) (by simp) rfl rfl) rfl rfl ?_
           rintro _ wd12138 ⟨b12137, rfl, H⟩
           refine ⟨H.okS (by simp), ?_⟩
           refine d1 (de rfl (Eff.quiet (v := v11642) (Q_ldB (k := 1) (cs := [v11642]) H.ok rfl ty23 rfl rfl rfl (fun _ => rfl) rfl)) rfl rfl ?_)
           rintro _ _ ⟨rfl, rfl⟩
           refine ⟨H.okS (by simp), ?_⟩
           obtain ⟨x12139, hx12139, ho12033⟩ := bnd ho12033
           obtain ⟨ha12140a, ha12140b⟩ := app_some hx12139
           have r12142 : rdL (eI .i64) ρ x12139 (c11643 ++ ([.int .i64 x12124])) := ha12140b ▸ rdL.app r11645 (show rdL (eI .i64) ρ ([x12124]) ([.int .i64 x12124]) from ⟨([.int .i64 x12124]), _, rfl, rfl, rdL.nil⟩)
           refine d1 (de rfl (E_append (k := 4) H rfl Tryz.underlying23 ty3 rfl (by decide) (by decide) rfl rfl (Src.ofArr (k := 0) H.ok rfl) (rdL.one (show rdL (eI .i64) ρ ([x12124]) ([.int .i64 x12124]) from ⟨([.int .i64 x12124]), _, rfl, rfl, rdL.nil⟩)) (app_fit r11645 (show rdL (eI .i64) ρ ([x12124]) ([.int .i64 x12124]) from ⟨([.int .i64 x12124]), _, rfl, rfl, rdL.nil⟩) ha12140a)) rfl rfl ?_)
           rintro v12141 wd12144 ⟨H, hc12143⟩
           dsimp only [List.set] at H
           refine ⟨H.okS (by simp), ?_⟩
           refine dq rfl (fun _ _ => Q_nilP rfl) rfl rfl <| dq (v := .pointer (some ⟨b10577, 6, none⟩)) rfl (fun _ _ => Q_fld Tryz.underlying187 rfl ty78 (by decide) rfl rfl) rfl rfl <| dq (v := .pointer (some ⟨b10577, 8, none⟩)) rfl (fun _ _ => Q_fld Tryz.underlying78 rfl ty23 (by decide) rfl rfl) rfl rfl <| db rfl (E_stB (k := 1) (cs := [v12141]) (vs' := [v1, v4, v7, v10, v13, v16, (.slice none 0 0), v12117, v12141, .map (some b10575), v12119]) H rfl ty23 rfl rfl (arr_cells (H.ok.get (k := 4) rfl)).1 rfl (one_cons (arr_cells (H.ok.get (k := 4) rfl)).2 one_nil) (by simp) rfl) rfl rfl ?_
           rintro _ wd12145 H
           dsimp only [List.set] at H
           refine H.okF <| DL_nil ?_
           replace H := H.e0.f6
           obtain rfl := Option.some.inj ho12033
           refine x_A fun a hf => ⟨v12117, c12118, v12141, (c11643 ++ ([.int .i64 x12124])), v12119, c12120, x12121, x12139, x12122, x12123, rfl, r12125, r12142, r12126, hf.sub ⟨rfl, rfl, rfl, rfl, trivial⟩, H⟩
      ·rintro a wd12146 ⟨v12020, c12021, v12024, c12025, v12029, c12030, x12022, x12026, x12028, x12031, rfl, r12023, r12027, r12032, hf, H⟩
       try dsimp only at hB11905
       refine XX.at hf <| x_block <| x_then <| R_nd <| nq (Q_add rfl rfl) rfl rfl <| nq (Q_move rfl) rfl rfl <| WL_nil ?_
       obtain rfl := Option.some.inj hB11905
       refine x_A fun a hf => ⟨_, rfl, v12020, c12021, v12024, c12025, v12029, c12030, w64 (x11637 + 1), x12022, x12026, x12028, x12031, rfl, r12023, r12027, r12032, hf.sub ⟨rfl, rfl, rfl, rfl, trivial⟩, H⟩
     ·replace hB11905 := itF hb hB11905
      refine C_exit <| x_then_exit <| x_then_exit <| x_block_exit ?_
      obtain rfl := Option.some.inj hB11905
      obtain rfl := hO11906 _ rfl
      refine x_A fun a hf => ⟨v11638, c11639, v11642, c11643, v11647, c11648, x11640, x11644, x11646, x11649, rfl, r11641, r11645, r11650, hf.sub ⟨rfl, rfl, trivial⟩, H⟩
   ·rintro a wd12147 ⟨v11370, c11371, v11374, c11375, v11379, c11380, x11372, x11376, x11378, x11381, rfl, r11373, r11377, r11382, hf, H⟩
    try dsimp only at hF
    refine XX.at hf <| x_then <| C_seq <| C_seq <| R_nd <| nq (Q_assign rfl) rfl rfl <| WL_nil <| x_then ?_
    obtain ⟨o16632, ho16632, hF⟩ := bnd hF
    refine C_cutQ (fun a w' => ∃ (v16619 : Value) (c16620 : (List Value)) (v16623 : Value) (c16624 : (List Value)) (v16628 : Value) (c16629 : (List Value)) (x16621 : (List (List Int))) (x16625 : (List Int)) (x16627 : (List ((Int × Int) × Int))) (x16630 : (List (Int × Int))), .inl (x16621, x16625, x16627, x16630) = o16632 ∧ rdL (eA 256 (eI .i64)) ρ x16621 c16620 ∧ rdL (eI .i64) ρ x16625 c16624 ∧ rdL (eP (eI .i64) (eI .i64)) ρ x16630 c16629 ∧ Fr 117 a [(4, .pointer (some ⟨b10573, 0, none⟩)), (6, .pointer (some ⟨b10577, 0, none⟩))] ∧ Hp C w' ρ (Box b10573 [.slice none 0 0, .slice none 0 0, .slice none 0 0] :: Box b10577 [v1, v4, v7, v10, v13, v16, v16619, v16623, v11374, .map (some b10575), v16628] :: Arr v16619 256 c16620 :: Arr v16623 1 c16624 :: Arr v11374 1 c11375 :: Mp (kP2 .i64) (Value.int .i64) b10575 x16627 :: Arr v16628 2 c16629 :: hs)) ?_ ?_
    ·refine C_block ?_
     refine C_iter (f := fun s => F_product_Both_l1 N x2 x5 x8 x11 x14 x17 x11376 s.1 s.2.1 s.2.2.1 s.2.2.2.1 s.2.2.2.2) ho16632 (fun s a w' => ∃ (v18122 : Value) (c18123 : (List Value)) (v18126 : Value) (c18127 : (List Value)) (v18131 : Value) (c18132 : (List Value)) (x18124 : (List (List Int))) (x18128 : (List Int)) (x18130 : (List ((Int × Int) × Int))) (x18133 : (List (Int × Int))) (x18135 : Int), (x18124, x18128, x18130, x18133, x18135) = s ∧ rdL (eA 256 (eI .i64)) ρ x18124 c18123 ∧ rdL (eI .i64) ρ x18128 c18127 ∧ rdL (eP (eI .i64) (eI .i64)) ρ x18133 c18132 ∧ Fr 117 a [(4, .pointer (some ⟨b10573, 0, none⟩)), (6, .pointer (some ⟨b10577, 0, none⟩)), (8, .int .i64 x18135)] ∧ Hp C w' ρ (Box b10573 [.slice none 0 0, .slice none 0 0, .slice none 0 0] :: Box b10577 [v1, v4, v7, v10, v13, v16, v18122, v18126, v11374, .map (some b10575), v18131] :: Arr v18122 256 c18123 :: Arr v18126 1 c18127 :: Arr v11374 1 c11375 :: Mp (kP2 .i64) (Value.int .i64) b10575 x18130 :: Arr v18131 2 c18132 :: hs)) ?_ ?_
     ·exact fun a hf => ⟨(.slice none 0 0), ([]), v11370, c11371, v11379, c11380, ([]), x11372, x11378, x11381, 0, rfl, rdL.nil, r11373, r11382, hf.sub ⟨rfl, rfl, rfl, trivial⟩, H⟩
     ·rintro s o19625 a wd19628 ⟨v18122, c18123, v18126, c18127, v18131, c18132, x18124, x18128, x18130, x18133, x18135, rfl, r18125, r18129, r18134, hf, H⟩ hB19626 hO19627
      replace hB19626 : F_product_Both_l1 N x2 x5 x8 x11 x14 x17 x11376 x18124 x18128 x18130 x18133 x18135 = some o19625 := hB19626
      unfold F_product_Both_l1 at hB19626
      refine CW.at hf <| C_seq <| C_seq <| R_nd <| nq (Q_move rfl) rfl rfl <| nq (Q_move rfl) rfl rfl <| nq (Q_nilP rfl) rfl rfl <| nq (v := .pointer (some ⟨b10577, 10, none⟩)) (Q_fld Tryz.underlying187 rfl ty185 (by decide) rfl rfl) rfl rfl <| nq (v := v18131) (Q_ldB (k := 1) (cs := [v18131]) H.ok rfl ty185 rfl rfl rfl (fun _ => rfl) rfl) rfl rfl <| nq (Q_lenA (k := 6) H.ok rfl r18134 (by decide) Tryz.underlying185 rfl) rfl rfl <| nq (Q_lss rfl rfl) rfl rfl <| WL_nil <| x_then ?_
      refine C_cond rfl (fun hb => ?_) (fun hb => ?_)
      ·replace hB19626 := itT hb hB19626
       refine C_skip <| x_then <| C_seq <| C_block <| C_seq <| R_nd <| ne (E_allocA (N := 256) (n := 1) (zs := (repC 256 [.int .i64 0])) H ty88 rfl (by simp [repC_length])) rfl rfl ?_
       rintro _ wd19630 ⟨b19629, rfl, H⟩
       refine WL_nil <| x_then <| C_seq <| C_seq <| R_nd <| nq (Q_move rfl) rfl rfl <| WL_nil <| x_then ?_
       obtain ⟨o20359, ho20359, hB19626⟩ := bnd hB19626
       refine C_cutQ (fun a w' => ∃ (v20346 : Value) (c20347 : (List Value)) (v20351 : Value) (c20352 : (List Value)) (c20355 : (List Value)) (x20348 : (List Int)) (x20350 : (List ((Int × Int) × Int))) (x20353 : (List (Int × Int))) (x20356 : (List Int)), (x20348, x20350, x20353, x20356) = o20359 ∧ rdL (eI .i64) ρ x20348 c20347 ∧ rdL (eP (eI .i64) (eI .i64)) ρ x20353 c20352 ∧ rdL (eI .i64) ρ x20356 c20355 ∧ x20356.length = 256 ∧ Fr 117 a [(4, .pointer (some ⟨b10573, 0, none⟩)), (6, .pointer (some ⟨b10577, 0, none⟩)), (8, .int .i64 x18135), (9, .pointer (some ⟨b19629, 0, none⟩))] ∧ Hp C w' ρ (Box b10573 [.slice none 0 0, .slice none 0 0, .slice none 0 0] :: Box b10577 [v1, v4, v7, v10, v13, v16, v18122, v20346, v11374, .map (some b10575), v20351] :: Arr v18122 256 c18123 :: Arr v20346 1 c20347 :: Arr v11374 1 c11375 :: Mp (kP2 .i64) (Value.int .i64) b10575 x20350 :: Arr v20351 2 c20352 :: Arr (.slice (some ⟨b19629, 0, none⟩) 256 256) 1 c20355 :: hs)) ?_ ?_
       ·refine C_block ?_
        replace H := H.f7.f7.f7.f7.f7.f7.f7
        refine C_iter (f := fun s => F_product_Both_l2 N x2 x5 x8 x11 x14 x17 x11376 x18124 x18135 s.1 s.2.1 s.2.2.1 s.2.2.2.1 s.2.2.2.2) ho20359 (fun s a w' => ∃ (v20597 : Value) (c20598 : (List Value)) (v20602 : Value) (c20603 : (List Value)) (c20607 : (List Value)) (x20599 : (List Int)) (x20601 : (List ((Int × Int) × Int))) (x20604 : (List (Int × Int))) (x20606 : Int) (x20608 : (List Int)), (x20599, x20601, x20604, x20606, x20608) = s ∧ rdL (eI .i64) ρ x20599 c20598 ∧ rdL (eP (eI .i64) (eI .i64)) ρ x20604 c20603 ∧ rdL (eI .i64) ρ x20608 c20607 ∧ x20608.length = 256 ∧ Fr 117 a [(4, .pointer (some ⟨b10573, 0, none⟩)), (6, .pointer (some ⟨b10577, 0, none⟩)), (8, .int .i64 x18135), (9, .pointer (some ⟨b19629, 0, none⟩)), (72, .int .i64 x20606)] ∧ Hp C w' ρ (Box b10573 [.slice none 0 0, .slice none 0 0, .slice none 0 0] :: Box b10577 [v1, v4, v7, v10, v13, v16, v18122, v20597, v11374, .map (some b10575), v20602] :: Arr v18122 256 c18123 :: Arr v20597 1 c20598 :: Arr v11374 1 c11375 :: Mp (kP2 .i64) (Value.int .i64) b10575 x20601 :: Arr v20602 2 c20603 :: Arr (.slice (some ⟨b19629, 0, none⟩) 256 256) 1 c20607 :: hs)) ?_ ?_
        ·exact fun a hf => ⟨v18126, c18127, v18131, c18132, (repC 256 [.int .i64 0]), x18128, x18130, x18133, 0, (List.replicate 256 0), rfl, r18129, r18134, (rdL_rep (e:=(eI .i64)) (ρ:=ρ) (rfl) 256), List.length_replicate, hf.sub ⟨rfl, rfl, rfl, rfl, rfl, trivial⟩, H⟩
        ·rintro s o20848 a wd20851 ⟨v20597, c20598, v20602, c20603, c20607, x20599, x20601, x20604, x20606, x20608, rfl, r20600, r20605, r20609, lp20610, hf, H⟩ hB20849 hO20850
         replace hB20849 : F_product_Both_l2 N x2 x5 x8 x11 x14 x17 x11376 x18124 x18135 x20599 x20601 x20604 x20606 x20608 = some o20848 := hB20849
         unfold F_product_Both_l2 at hB20849
         refine CW.at hf <| C_seq <| R_nd <| nq (Q_lss rfl rfl) rfl rfl <| WL_nil <| x_then <| C_seq ?_
         refine C_cond rfl (fun hb => ?_) (fun hb => ?_)
         ·replace hB20849 := itT hb hB20849
          refine C_skip <| x_then <| C_seq <| C_block <| C_seq <| R_nd <| nq (Q_move rfl) rfl rfl <| nq (Q_assign rfl) rfl rfl <| WL_nil <| x_then ?_
          obtain ⟨o20969, ho20969, hB20849⟩ := bnd hB20849
          refine C_cutQ (fun a w' => ∃ (v20956 : Value) (c20957 : (List Value)) (v20961 : Value) (c20962 : (List Value)) (c20965 : (List Value)) (x20958 : (List Int)) (x20960 : (List ((Int × Int) × Int))) (x20963 : (List (Int × Int))) (x20966 : (List Int)), (x20958, x20960, x20963, x20966) = o20969 ∧ rdL (eI .i64) ρ x20958 c20957 ∧ rdL (eP (eI .i64) (eI .i64)) ρ x20963 c20962 ∧ rdL (eI .i64) ρ x20966 c20965 ∧ x20966.length = 256 ∧ Fr 117 a [(4, .pointer (some ⟨b10573, 0, none⟩)), (6, .pointer (some ⟨b10577, 0, none⟩)), (8, .int .i64 x18135), (9, .pointer (some ⟨b19629, 0, none⟩)), (72, .int .i64 x20606)] ∧ Hp C w' ρ (Box b10573 [.slice none 0 0, .slice none 0 0, .slice none 0 0] :: Box b10577 [v1, v4, v7, v10, v13, v16, v18122, v20956, v11374, .map (some b10575), v20961] :: Arr v18122 256 c18123 :: Arr v20956 1 c20957 :: Arr v11374 1 c11375 :: Mp (kP2 .i64) (Value.int .i64) b10575 x20960 :: Arr v20961 2 c20962 :: Arr (.slice (some ⟨b19629, 0, none⟩) 256 256) 1 c20965 :: hs)) ?_ ?_
          ·refine R_dr (.take 0 (.take 1 (.take 2 (.take 3 (.take 4 (.take 6 (.take 7 (.take 8 (.take 10 (.take 13 (.two 5 9 (.one 9 (.take 11 (.one 12 (.one 14 (.one 15 (.take 16 (.bar 17 none .done))))))) (.take 11 (.two 5 12 (.one 12 (.one 14 (.one 15 (.take 16 (.bar 17 none .done))))) (.one 5 (.one 14 (.one 15 (.take 16 (.bar 17 none .done)))))))))))))))))) (some 17) (S := fun w' => Ok w' ρ [Box b10573 [.slice none 0 0, .slice none 0 0, .slice none 0 0], Arr v18122 256 c18123, Arr v11374 1 c11375, Arr (.slice (some ⟨b19629, 0, none⟩) 256 256) 1 c20607]) hm0 (by kernel_rfl) (H.drew.okS (by simp)) ?_
           replace H := H.drew
           refine dq rfl (fun _ _ => Q_move rfl) rfl rfl <| dq rfl (fun _ _ => Q_move rfl) rfl rfl <| dq rfl (fun _ _ => Q_move rfl) rfl rfl <| dq rfl (fun _ _ => Q_nilP rfl) rfl rfl <| dq (v := .pointer (some ⟨b10577, 0, none⟩)) rfl (fun _ _ => Q_fld Tryz.underlying187 rfl ty162 (by decide) rfl rfl) rfl rfl <| dq rfl (fun _ _ => Q_move rfl) rfl rfl <| dq rfl (fun _ _ => Q_nilP rfl) rfl rfl <| dq (v := .pointer (some ⟨b10577, 10, none⟩)) rfl (fun _ _ => Q_fld Tryz.underlying187 rfl ty185 (by decide) rfl rfl) rfl rfl <| dq rfl (fun _ _ => Q_move rfl) rfl rfl <| dq rfl (fun _ _ => Q_move rfl) rfl rfl ?_
           refine d2 ?_ ?_
           ·refine de rfl (Eff.quiet (v := .agg #[v1, v4, v7, v10, v13, v16]) (Q_ldB (k := 1) (cs := [v1, v4, v7, v10, v13, v16]) H.ok rfl ty162 rfl rfl rfl (fun h => nomatch h) rfl)) rfl rfl ?_
            rintro _ _ ⟨rfl, rfl⟩
            refine ⟨H.okS (by simp), ?_⟩
            refine d1 (de rfl (Eff.quiet (v := v20602) (Q_ldB (k := 1) (cs := [v20602]) H.ok rfl ty185 rfl rfl rfl (fun _ => rfl) rfl)) rfl rfl ?_)
            rintro _ _ ⟨rfl, rfl⟩
            refine ⟨H.okS (by simp), ?_⟩
            obtain ⟨x20970, hx20970, ho20969⟩ := bnd ho20969
            obtain ⟨b20971, o20972, hi20976, hc20974, ha20975⟩ := arr_at (hs := [Arr v20602 2 c20603]) (k := 0) (by decide) (H.okS (by simp)) rfl r20605 hx20970
            refine dq rfl (fun _ _ => Q_idx hi20976 Tryz.underlying185 ty164 rfl rfl) rfl rfl ?_
            obtain ⟨c20977, c20978, he20979, hc20980, hc20981⟩ := (id hc20974)
            refine d1 (de rfl (Eff.quiet (v := .agg #[.int .i64 x20970.1, .int .i64 x20970.2]) (Q_ld (show cellsAt _ _ _ [.int .i64 x20970.1, .int .i64 x20970.2] from cellsAt.cg (cat2 he20979 (rdI hc20980) (rdI hc20981)) (ha20975 _ (Ok.subS (by simp) H.ok))) ty164 rfl (fun h => nomatch h) rfl rfl)) rfl rfl ?_)
            rintro _ _ ⟨rfl, rfl⟩
            refine ⟨H.okS (by simp), ?_⟩
            obtain ⟨q20982, hq20982, ho20969⟩ := bnd ho20969
            refine d1 (de rfl (E_call fn116 rfl (c_116 H gle  r3 r6 r9 r12 r15 r18 hq20982)) rfl rfl ?_)
            rintro _ wd20986 ⟨x20984, x20985, rfl, rfl, H⟩
            try dsimp only at ho20969
            refine ⟨H.okS (by simp), ?_⟩
            replace H := H.f6.f6.f6.f6.f6.f6
            obtain ⟨q20987, hq20987, ho20969⟩ := bnd ho20969
            refine d1 (de rfl (E_call fn114 rfl (c_114 H gle  r3 r6 r9 r12 r15 r18 r18125 r20600 r11377 r20605 hq20987)) rfl rfl ?_)
            rintro _ wd20999 ⟨v20989, c20990, v20991, c20992, x20993, x20994, x20995, x20996, rfl, rfl, r20997, r20998, H⟩
            try dsimp only at ho20969
            refine ⟨H.okS (by simp), ?_⟩
            obtain ⟨x21000, hx21000, ho20969⟩ := bnd ho20969
            have hn21002 := idx_lt (N := 256) (lp20610) hx21000
            have hi21001 : IdxOk (.slice (some ⟨b19629, 0, none⟩) 256 256) x20606 1 b19629 (0 + x20606.toNat * 1) := ⟨0, 256, 256, rfl, hn21002.1, hn21002.2, rfl⟩
            refine dq rfl (fun _ _ => Q_idxA hn21002.1 hn21002.2 Tryz.underlying88 ty3 rfl rfl) rfl rfl ?_
            obtain ⟨x21003, hx21003, ho20969⟩ := bnd ho20969
            obtain ⟨hs21004a, hs21004b, hs21004c⟩ := setI_some hx21003
            have r21005 : rdL (eI .i64) ρ x21003 (setC c20607 (x20606.toNat * 1 + 0) [.int .i64 x20996]) := hs21004c ▸ rdL.set r20609 hs21004b (rfl)
            refine db rfl (E_stA (k := 7) (j := 0) (c := [.int .i64 x20996]) H rfl ty3 hi21001 rfl rfl rfl rfl (one_cons rfl one_nil) (by decide)) rfl rfl ?_
            rintro _ wd21006 H
            dsimp only [List.set] at H
            refine H.okF <| DL_nil ?_
            replace H := H.f6
            obtain rfl := Option.some.inj ho20969
            refine x_A fun a hf => ⟨v20989, c20990, v20991, c20992, (setC c20607 (x20606.toNat * 1 + 0) [.int .i64 x20996]), x20993, x20994, x20995, x21003, rfl, r20997, r20998, r21005, (setI_len hx21003 lp20610), hf.sub ⟨rfl, rfl, rfl, rfl, rfl, trivial⟩, H⟩
           ·refine de rfl (Eff.quiet (v := v20602) (Q_ldB (k := 1) (cs := [v20602]) H.ok rfl ty185 rfl rfl rfl (fun _ => rfl) rfl)) rfl rfl ?_
            rintro _ _ ⟨rfl, rfl⟩
            refine ⟨H.okS (by simp), ?_⟩
            obtain ⟨x21007, hx21007, ho20969⟩ := bnd ho20969
            obtain ⟨b21008, o21009, hi21013, hc21011, ha21012⟩ := arr_at (hs := [Arr v20602 2 c20603]) (k := 0) (by decide) (H.okS (by simp)) rfl r20605 hx21007
            refine dq rfl (fun _ _ => Q_idx hi21013 Tryz.underlying185 ty164 rfl rfl) rfl rfl ?_
            refine d2 ?_ ?_
            ·refine de rfl (Eff.quiet (v := .agg #[v1, v4, v7, v10, v13, v16]) (Q_ldB (k := 1) (cs := [v1, v4, v7, v10, v13, v16]) H.ok rfl ty162 rfl rfl rfl (fun h => nomatch h) rfl)) rfl rfl ?_
             rintro _ _ ⟨rfl, rfl⟩
             refine ⟨H.okS (by simp), ?_⟩
             obtain ⟨c21014, c21015, he21016, hc21017, hc21018⟩ := (id hc21011)
             refine d1 (de rfl (Eff.quiet (v := .agg #[.int .i64 x21007.1, .int .i64 x21007.2]) (Q_ld (show cellsAt _ _ _ [.int .i64 x21007.1, .int .i64 x21007.2] from cellsAt.cg (cat2 he21016 (rdI hc21017) (rdI hc21018)) (ha21012 _ (Ok.subS (by simp) H.ok))) ty164 rfl (fun h => nomatch h) rfl rfl)) rfl rfl ?_)
             rintro _ _ ⟨rfl, rfl⟩
             refine ⟨H.okS (by simp), ?_⟩
             obtain ⟨q21019, hq21019, ho20969⟩ := bnd ho20969
             refine d1 (de rfl (E_call fn116 rfl (c_116 H gle  r3 r6 r9 r12 r15 r18 hq21019)) rfl rfl ?_)
             rintro _ wd21023 ⟨x21021, x21022, rfl, rfl, H⟩
             try dsimp only at ho20969
             refine ⟨H.okS (by simp), ?_⟩
             replace H := H.f6.f6.f6.f6.f6.f6
             obtain ⟨q21024, hq21024, ho20969⟩ := bnd ho20969
             refine d1 (de rfl (E_call fn114 rfl (c_114 H gle  r3 r6 r9 r12 r15 r18 r18125 r20600 r11377 r20605 hq21024)) rfl rfl ?_)
             rintro _ wd21036 ⟨v21026, c21027, v21028, c21029, x21030, x21031, x21032, x21033, rfl, rfl, r21034, r21035, H⟩
             try dsimp only at ho20969
             refine ⟨H.okS (by simp), ?_⟩
             obtain ⟨x21037, hx21037, ho20969⟩ := bnd ho20969
             have hn21039 := idx_lt (N := 256) (lp20610) hx21037
             have hi21038 : IdxOk (.slice (some ⟨b19629, 0, none⟩) 256 256) x20606 1 b19629 (0 + x20606.toNat * 1) := ⟨0, 256, 256, rfl, hn21039.1, hn21039.2, rfl⟩
             refine dq rfl (fun _ _ => Q_idxA hn21039.1 hn21039.2 Tryz.underlying88 ty3 rfl rfl) rfl rfl ?_
             obtain ⟨x21040, hx21040, ho20969⟩ := bnd ho20969
             obtain ⟨hs21041a, hs21041b, hs21041c⟩ := setI_some hx21040
             have r21042 : rdL (eI .i64) ρ x21040 (setC c20607 (x20606.toNat * 1 + 0) [.int .i64 x21033]) := hs21041c ▸ rdL.set r20609 hs21041b (rfl)
             refine db rfl (E_stA (k := 7) (j := 0) (c := [.int .i64 x21033]) H rfl ty3 hi21038 rfl rfl rfl rfl (one_cons rfl one_nil) (by decide)) rfl rfl ?_
             rintro _ wd21043 H
             dsimp only [List.set] at H
             refine H.okF <| DL_nil ?_
             replace H := H.f6
             obtain rfl := Option.some.inj ho20969
             refine x_A fun a hf => ⟨v21026, c21027, v21028, c21029, (setC c20607 (x20606.toNat * 1 + 0) [.int .i64 x21033]), x21030, x21031, x21032, x21040, rfl, r21034, r21035, r21042, (setI_len hx21040 lp20610), hf.sub ⟨rfl, rfl, rfl, rfl, rfl, trivial⟩, H⟩
            ·obtain ⟨c21044, c21045, he21046, hc21047, hc21048⟩ := (id hc21011)
             refine de rfl (Eff.quiet (v := .agg #[.int .i64 x21007.1, .int .i64 x21007.2]) (Q_ld (show cellsAt _ _ _ [.int .i64 x21007.1, .int .i64 x21007.2] from cellsAt.cg (cat2 he21046 (rdI hc21047) (rdI hc21048)) (ha21012 _ (Ok.subS (by simp) H.ok))) ty164 rfl (fun h => nomatch h) rfl rfl)) rfl rfl ?_
             rintro _ _ ⟨rfl, rfl⟩
             refine ⟨H.okS (by simp), ?_⟩
             refine d1 (de rfl (Eff.quiet (v := .agg #[v1, v4, v7, v10, v13, v16]) (Q_ldB (k := 1) (cs := [v1, v4, v7, v10, v13, v16]) H.ok rfl ty162 rfl rfl rfl (fun h => nomatch h) rfl)) rfl rfl ?_)
             rintro _ _ ⟨rfl, rfl⟩
             refine ⟨H.okS (by simp), ?_⟩
             obtain ⟨q21049, hq21049, ho20969⟩ := bnd ho20969
             refine d1 (de rfl (E_call fn116 rfl (c_116 H gle  r3 r6 r9 r12 r15 r18 hq21049)) rfl rfl ?_)
             rintro _ wd21053 ⟨x21051, x21052, rfl, rfl, H⟩
             try dsimp only at ho20969
             refine ⟨H.okS (by simp), ?_⟩
             replace H := H.f6.f6.f6.f6.f6.f6
             obtain ⟨q21054, hq21054, ho20969⟩ := bnd ho20969
             refine d1 (de rfl (E_call fn114 rfl (c_114 H gle  r3 r6 r9 r12 r15 r18 r18125 r20600 r11377 r20605 hq21054)) rfl rfl ?_)
             rintro _ wd21066 ⟨v21056, c21057, v21058, c21059, x21060, x21061, x21062, x21063, rfl, rfl, r21064, r21065, H⟩
             try dsimp only at ho20969
             refine ⟨H.okS (by simp), ?_⟩
             obtain ⟨x21067, hx21067, ho20969⟩ := bnd ho20969
             have hn21069 := idx_lt (N := 256) (lp20610) hx21067
             have hi21068 : IdxOk (.slice (some ⟨b19629, 0, none⟩) 256 256) x20606 1 b19629 (0 + x20606.toNat * 1) := ⟨0, 256, 256, rfl, hn21069.1, hn21069.2, rfl⟩
             refine dq rfl (fun _ _ => Q_idxA hn21069.1 hn21069.2 Tryz.underlying88 ty3 rfl rfl) rfl rfl ?_
             obtain ⟨x21070, hx21070, ho20969⟩ := bnd ho20969
             obtain ⟨hs21071a, hs21071b, hs21071c⟩ := setI_some hx21070
             have r21072 : rdL (eI .i64) ρ x21070 (setC c20607 (x20606.toNat * 1 + 0) [.int .i64 x21063]) := hs21071c ▸ rdL.set r20609 hs21071b (rfl)
             refine db rfl (E_stA (k := 7) (j := 0) (c := [.int .i64 x21063]) H rfl ty3 hi21068 rfl rfl rfl rfl (one_cons rfl one_nil) (by decide)) rfl rfl ?_
             rintro _ wd21073 H
             dsimp only [List.set] at H
             refine H.okF <| DL_nil ?_
             replace H := H.f6
             obtain rfl := Option.some.inj ho20969
             refine x_A fun a hf => ⟨v21056, c21057, v21058, c21059, (setC c20607 (x20606.toNat * 1 + 0) [.int .i64 x21063]), x21060, x21061, x21062, x21070, rfl, r21064, r21065, r21072, (setI_len hx21070 lp20610), hf.sub ⟨rfl, rfl, rfl, rfl, rfl, trivial⟩, H⟩
          ·rintro a wd21074 ⟨v20956, c20957, v20961, c20962, c20965, x20958, x20960, x20963, x20966, rfl, r20959, r20964, r20967, lp20968, hf, H⟩
           try dsimp only at hB20849
           refine XX.at hf <| x_block <| x_then <| R_nd <| nq (Q_add rfl rfl) rfl rfl <| nq (Q_move rfl) rfl rfl <| WL_nil ?_
           obtain rfl := Option.some.inj hB20849
           refine x_A fun a hf => ⟨_, rfl, v20956, c20957, v20961, c20962, c20965, x20958, x20960, x20963, w64 (x20606 + 1), x20966, rfl, r20959, r20964, r20967, lp20968, hf.sub ⟨rfl, rfl, rfl, rfl, rfl, trivial⟩, H⟩
         ·replace hB20849 := itF hb hB20849
          refine C_exit <| x_then_exit <| x_then_exit <| x_block_exit ?_
          obtain rfl := Option.some.inj hB20849
          obtain rfl := hO20850 _ rfl
          refine x_A fun a hf => ⟨v20597, c20598, v20602, c20603, c20607, x20599, x20601, x20604, x20608, rfl, r20600, r20605, r20609, lp20610, hf.sub ⟨rfl, rfl, rfl, rfl, trivial⟩, H⟩
       ·rintro a wd21075 ⟨v20346, c20347, v20351, c20352, c20355, x20348, x20350, x20353, x20356, rfl, r20349, r20354, r20357, lp20358, hf, H⟩
        try dsimp only at hB19626
        refine XX.at hf <| x_then <| C_seq <| C_seq <| R_nd <| nq (Q_move rfl) rfl rfl <| nq (Q_nilP rfl) rfl rfl <| nq (v := .pointer (some ⟨b10577, 10, none⟩)) (Q_fld Tryz.underlying187 rfl ty185 (by decide) rfl rfl) rfl rfl <| nq (v := v20351) (Q_ldB (k := 1) (cs := [v20351]) H.ok rfl ty185 rfl rfl rfl (fun _ => rfl) rfl) rfl rfl <| nq (Q_lenA (k := 6) H.ok rfl r20354 (by decide) Tryz.underlying185 rfl) rfl rfl <| nq (Q_gtr rfl rfl) rfl rfl <| WL_nil <| x_then ?_
        refine C_cond rfl (fun hb => ?_) (fun hb => ?_)
        ·replace hB19626 := itT hb hB19626
         obtain ⟨o21077, ho21077, hB19626⟩ := bnd hB19626
         refine C_cut (fun a w' => Fr 117 a [(4, .pointer (some ⟨b10573, 0, none⟩)), (5, errV errIds gV 9)] ∧ Hp C w' ρ (Box b10573 [.slice none 0 0, .slice none 0 0, .slice none 0 0] :: hs)) ?_ ?_
         ·refine R_dr (.take 0 (.take 1 (.one 2 (.take 3 .done)))) none (S := fun w' => Ok w' ρ [Box b10573 [.slice none 0 0, .slice none 0 0, .slice none 0 0], Box b10577 [v1, v4, v7, v10, v13, v16, v18122, v20346, v11374, .map (some b10575), v20351], Arr v18122 256 c18123, Arr v20346 1 c20347, Arr v11374 1 c11375, Mp (kP2 .i64) (Value.int .i64) b10575 x20350, Arr v20351 2 c20352, Arr (.slice (some ⟨b19629, 0, none⟩) 256 256) 1 c20355]) hm0 (by kernel_rfl) (H.drew.okS (by simp)) ?_
          replace H := H.drew
          refine dq (v := .agg #[.slice none 0 0, .slice none 0 0, .slice none 0 0]) rfl (fun _ _ => Q_buildS st78.choose_spec (ps := []) rfl trivial rfl) rfl rfl <| dq (v := errV errIds gV 9) rfl (fun _ hw => Q_ldV hw gle (by decide) ty53) rfl rfl ?_
          refine d1 (de rfl (E_stB (k := 0) (cs := [.slice none 0 0, .slice none 0 0, .slice none 0 0]) (vs' := [.slice none 0 0, .slice none 0 0, .slice none 0 0]) H rfl ty78 rfl rfl rfl rfl (one_cons rfl (one_cons rfl (one_cons rfl one_nil))) (by simp) rfl) rfl rfl ?_)
          rintro _ wd21078 H
          dsimp only [List.set] at H
          refine ⟨H.okS (by simp), ?_⟩
          refine dq rfl (fun _ _ => Q_assign rfl) rfl rfl <| DL_nil ?_
          replace H := H.e7.e6.e5.e4.e3.e2.e1
          obtain rfl := Option.some.inj ho21077
          refine x_A fun a hf => ⟨hf.sub ⟨rfl, rfl, trivial⟩, H⟩
         ·rintro a wd21079 ⟨hf, H⟩
          try dsimp only at hB19626
          refine CW.at hf <| C_ret <| x_then_ret <| x_block_ret <| x_then_ret <| x_then_ret <| x_block_ret <| x_then_ret <| x_then_ret ?_
          have H := H.nilArr 256
          have H := H.nilArr 1
          have H := H.nilArr 1
          have hRV : RV Tryz.prog wd21079 [(4, .pointer (some ⟨b10573, 0, none⟩)), (5, errV errIds gV 9)] [.cell 4 78, .tmp 5] [.agg #[(.slice none 0 0), (.slice none 0 0), (.slice none 0 0)], errV errIds gV 9] := ⟨⟨_, rfl, run_ldv ty78 rfl (fun h => nomatch h) (box_at (H.ok.get (k := 3) rfl) 0 3)⟩, rfl, trivial⟩
          replace H := H.e3.f1.f2
          obtain rfl := Option.some.inj hB19626
          obtain rfl := hO19627 _ rfl
          obtain rfl := Option.some.inj (show some _ = some _ from hF)
          exact fn_retV (rs := [.cell 4 78, .tmp 5]) (vs := [.agg #[(.slice none 0 0), (.slice none 0 0), (.slice none 0 0)], errV errIds gV 9]) rfl hRV ⟨(.slice none 0 0), [], (.slice none 0 0), [], (.slice none 0 0), [], [], [], [], 9, rfl, rfl, rdL.nil, rdL.nil, rdL.nil, H⟩
        ·replace hB19626 := itF hb hB19626
         refine C_skip <| x_then ?_
         obtain ⟨o21093, ho21093, hB19626⟩ := bnd hB19626
         refine C_cutQ (fun a w' => ∃ (v21089 : Value) (c21090 : (List Value)) (x21091 : (List (List Int))), x21091 = o21093 ∧ rdL (eA 256 (eI .i64)) ρ x21091 c21090 ∧ Fr 117 a [(4, .pointer (some ⟨b10573, 0, none⟩)), (6, .pointer (some ⟨b10577, 0, none⟩)), (8, .int .i64 x18135)] ∧ Hp C w' ρ (Box b10573 [.slice none 0 0, .slice none 0 0, .slice none 0 0] :: Box b10577 [v1, v4, v7, v10, v13, v16, v21089, v20346, v11374, .map (some b10575), v20351] :: Arr v21089 256 c21090 :: Arr v20346 1 c20347 :: Arr v11374 1 c11375 :: Mp (kP2 .i64) (Value.int .i64) b10575 x20350 :: Arr v20351 2 c20352 :: hs)) ?_ ?_
         ·refine R_dr (.take 0 (.take 1 (.take 2 (.take 3 (.take 4 (.take 5 (.take 6 (.one 7 (.one 8 (.take 9 (.take 10 (.take 11 (.bar 12 none .done))))))))))))) (some 12) (S := fun w' => Ok w' ρ [Box b10573 [.slice none 0 0, .slice none 0 0, .slice none 0 0], Box b10577 [v1, v4, v7, v10, v13, v16, v18122, v20346, v11374, .map (some b10575), v20351], Arr v20346 1 c20347, Arr v11374 1 c11375, Mp (kP2 .i64) (Value.int .i64) b10575 x20350, Arr v20351 2 c20352, Arr (.slice (some ⟨b19629, 0, none⟩) 256 256) 1 c20355]) hm0 (by kernel_rfl) (H.drew.okS (by simp)) ?_
          replace H := H.drew
          refine dq rfl (fun _ _ => Q_move rfl) rfl rfl <| dq rfl (fun _ _ => Q_move rfl) rfl rfl <| dq rfl (fun _ _ => Q_nilP rfl) rfl rfl <| dq (v := .pointer (some ⟨b10577, 6, none⟩)) rfl (fun _ _ => Q_fld Tryz.underlying187 rfl ty78 (by decide) rfl rfl) rfl rfl <| dq (v := .pointer (some ⟨b10577, 6, none⟩)) rfl (fun _ _ => Q_fld Tryz.underlying78 rfl ty76 (by decide) rfl rfl) rfl rfl <| dq (v := v18122) rfl (fun _ hw => Q_ldB (k := 1) (cs := [v18122]) hw rfl ty76 rfl rfl rfl (fun _ => rfl) rfl) rfl rfl <| dq rfl (fun _ hw => Q_ldW (k := 6) hw rfl ty88 rfl (arr_clen r20357 lp20358)) rfl rfl ?_
          refine d1 (de rfl (E_bslice (xs := [.tmp 107]) (vs := [.agg c20355.toArray]) H Tryz.underlying76 ty88 (by decide) (cs := c20355) rfl (sz_cons (arr_clen r20357 lp20358) sz_nil) (by simp [Value.cells]) (by simp) (by simp) rfl rfl) rfl rfl ?_)
          rintro _ wd21095 ⟨b21094, rfl, H⟩
          refine ⟨H.okS (by simp), ?_⟩
          obtain ⟨x21096, hx21096, ho21093⟩ := bnd ho21093
          obtain ⟨ha21097a, ha21097b⟩ := app_some hx21096
          have r21099 : rdL (eA 256 (eI .i64)) ρ x21096 (c18123 ++ c20355) := ha21097b ▸ rdL.app r18125 (show rdL (eA 256 (eI .i64)) ρ ([x20356]) c20355 from rdL.single ⟨lp20358, r20357⟩)
          refine d1 (de rfl (E_append (k := 3) H rfl Tryz.underlying76 ty88 rfl (by decide) (by decide) rfl rfl (Src.ofArr (k := 0) H.ok rfl) (rdL.one (show rdL (eA 256 (eI .i64)) ρ ([x20356]) c20355 from rdL.single ⟨lp20358, r20357⟩)) (app_fit r18125 (show rdL (eA 256 (eI .i64)) ρ ([x20356]) c20355 from rdL.single ⟨lp20358, r20357⟩) ha21097a)) rfl rfl ?_)
          rintro v21098 wd21101 ⟨H, hc21100⟩
          dsimp only [List.set] at H
          refine ⟨H.okS (by simp), ?_⟩
          refine dq rfl (fun _ _ => Q_nilP rfl) rfl rfl <| dq (v := .pointer (some ⟨b10577, 6, none⟩)) rfl (fun _ _ => Q_fld Tryz.underlying187 rfl ty78 (by decide) rfl rfl) rfl rfl <| dq (v := .pointer (some ⟨b10577, 6, none⟩)) rfl (fun _ _ => Q_fld Tryz.underlying78 rfl ty76 (by decide) rfl rfl) rfl rfl <| db rfl (E_stB (k := 2) (cs := [v21098]) (vs' := [v1, v4, v7, v10, v13, v16, v21098, v20346, v11374, .map (some b10575), v20351]) H rfl ty76 rfl rfl (arr_cells (H.ok.get (k := 3) rfl)).1 rfl (one_cons (arr_cells (H.ok.get (k := 3) rfl)).2 one_nil) (by simp) rfl) rfl rfl ?_
          rintro _ wd21102 H
          dsimp only [List.set] at H
          refine H.okF <| DL_nil ?_
          replace H := H.e8.e0
          obtain rfl := Option.some.inj ho21093
          refine x_A fun a hf => ⟨v21098, (c18123 ++ c20355), x21096, rfl, r21099, hf.sub ⟨rfl, rfl, rfl, trivial⟩, H⟩
         ·rintro a wd21103 ⟨v21089, c21090, x21091, rfl, r21092, hf, H⟩
          try dsimp only at hB19626
          refine XX.at hf <| x_block <| x_then <| R_nd <| nq (Q_move rfl) rfl rfl <| nq (Q_add rfl rfl) rfl rfl <| nq (Q_assign rfl) rfl rfl <| WL_nil ?_
          obtain rfl := Option.some.inj hB19626
          refine x_A fun a hf => ⟨_, rfl, v21089, c21090, v20346, c20347, v20351, c20352, x21091, x20348, x20350, x20353, w64 (x18135 + 1), rfl, r21092, r20349, r20354, hf.sub ⟨rfl, rfl, rfl, trivial⟩, H⟩
      ·replace hB19626 := itF hb hB19626
       refine C_exit <| x_then_exit <| x_then_exit <| x_block_exit ?_
       obtain rfl := Option.some.inj hB19626
       obtain rfl := hO19627 _ rfl
       refine x_A fun a hf => ⟨v18122, c18123, v18126, c18127, v18131, c18132, x18124, x18128, x18130, x18133, rfl, r18125, r18129, r18134, hf.sub ⟨rfl, rfl, trivial⟩, H⟩
    ·rintro a wd21104 ⟨v16619, c16620, v16623, c16624, v16628, c16629, x16621, x16625, x16627, x16630, rfl, r16622, r16626, r16631, hf, H⟩
     try dsimp only at hF
     refine XX.at hf <| x_then <| C_seq <| R_nd <| nq (Q_move rfl) rfl rfl <| nq (Q_nilP rfl) rfl rfl <| nq (v := .pointer (some ⟨b10577, 6, none⟩)) (Q_fld Tryz.underlying187 rfl ty78 (by decide) rfl rfl) rfl rfl <| nq (v := .agg #[v16619, v16623, v11374]) (Q_ldB (k := 1) (cs := [v16619, v16623, v11374]) H.ok rfl ty78 rfl rfl rfl (fun h => nomatch h) rfl) rfl rfl <| ne (E_stB (k := 0) (cs := [v16619, v16623, v11374]) (vs' := [v16619, v16623, v11374]) H rfl ty78 rfl rfl rfl rfl (one_cons (arr_cells (H.ok.get (k := 2) rfl)).2 (one_cons (arr_cells (H.ok.get (k := 3) rfl)).2 (one_cons (arr_cells (H.ok.get (k := 4) rfl)).2 one_nil))) (by simp) rfl) rfl rfl ?_
     rintro _ wd21105 H
     dsimp only [List.set] at H
     refine nq (Q_assign rfl) rfl rfl <| WL_nil <| x_then <| C_ret ?_
     have hRV : RV Tryz.prog wd21105 [(4, .pointer (some ⟨b10573, 0, none⟩)), (5, .nilIface)] [.cell 4 78, .tmp 5] [.agg #[v16619, v16623, v11374], errV errIds gV 0] := ⟨⟨_, rfl, run_ldv ty78 rfl (fun h => nomatch h) (box_at (H.ok.get (k := 0) rfl) 0 3)⟩, rfl, trivial⟩
     replace H := H.e6.e5.e1.e0
     obtain rfl := Option.some.inj hF
     exact fn_retV (rs := [.cell 4 78, .tmp 5]) (vs := [.agg #[v16619, v16623, v11374], errV errIds gV 0]) rfl hRV ⟨v16619, c16620, v16623, c16624, v11374, c11375, x16621, x16625, x11376, 0, rfl, rfl, r16622, r16626, r11377, H⟩
theorem c_117 {N : Nat} {C : Cx} {w : World} {ρ : View} {hs : List Hl} {gV : Nat → Value} {x1 : Int} {x2 : Int} (H : Hp C w ρ (hs)) (_gle : GErrs ρ 394 errIds gV) {r : Bool} (hF : F_product_Clash_1 N x1 x2 = some r) :
  Calls Tryz.prog 117 [.int .i64 x1, .int .i64 x2].toArray w (Rets (fun v w' => (∃ (x6 : Bool), x6 = r ∧ .bool x6 = v ∧ Hp C w' ρ (hs)))) := by
 unfold F_product_Clash_1 at hF
 have h0 : Tryz.f117.body = some _ := rfl
 refine fn_calls' Tryz.func117 h0 (n := 11) rfl (by simp) <| C_seq <| R_nd <| nq (Q_assign rfl) rfl rfl <| WL_nil <| x_then ?_
 obtain ⟨o8, ho8, hF⟩ := bnd hF
 refine C_cut (fun a w' => ∃ (x7 : Bool), x7 = o8 ∧ Fr 11 a [(4, .bool x7)] ∧ Hp C w' ρ (hs)) ?_ ?_
 ·refine R_nd <| nq (Q_move rfl) rfl rfl <| nq (Q_neq rfl rfl) rfl rfl <| nq (Q_move rfl) rfl rfl ?_
  rcases Bool.eq_false_or_eq_true (x1 != (-1)) with hb | hb
  ·rw [hb]
   replace ho8 := itT hb ho8
   refine gq (Q_move rfl) rfl rfl rfl <| gq (Q_neq rfl rfl) rfl rfl rfl <| nq (Q_pickT rfl rfl) rfl rfl <| nq (Q_assign rfl) rfl rfl <| WL_nil ?_
   obtain rfl := Option.some.inj ho8
   refine x_A fun a hf => ⟨x2 != (-1), rfl, hf.sub ⟨rfl, trivial⟩, H⟩
  ·rw [hb]
   replace ho8 := itF hb ho8
   refine gs rfl rfl rfl rfl <| gs rfl rfl rfl rfl <| nq (Q_pickF rfl rfl) rfl rfl <| nq (Q_assign rfl) rfl rfl <| WL_nil ?_
   obtain rfl := Option.some.inj ho8
   refine x_A fun a hf => ⟨false, rfl, hf.sub ⟨rfl, trivial⟩, H⟩
 ·rintro a wd9 ⟨x7, rfl, hf, H⟩
  try dsimp only at hF
  refine CW.at hf <| C_ret ?_
  obtain rfl := Option.some.inj hF
  exact fn_ret (l := [.tmp 4]) (vs := [.bool x7]) rfl rfl rfl ⟨x7, rfl, rfl, H⟩
theorem c_101_1 {N : Nat} {C : Cx} {w : World} {ρ : View} {hs : List Hl} {gV : Nat → Value} {v1 : Value} {v4 : Value} {v7 : Value} {v10 : Value} {v13 : Value} {v16 : Value} {x2 : (List (List Int))} {x5 : (List Int)} {x8 : (List Int)} {x11 : (List (List Int))} {x14 : (List Int)} {x17 : (List Int)} {x19 : Int} (H : Hp C w ρ (hs)) (gle : GErrs ρ 394 errIds gV) (r3 : RdSl ρ (eA 256 (eI .i64)) v1 x2) (r6 : RdSl ρ (eI .i64) v4 x5) (r9 : RdSl ρ (eI .i64) v7 x8) (r12 : RdSl ρ (eA 256 (eI .i64)) v10 x11) (r15 : RdSl ρ (eI .i64) v13 x14) (r18 : RdSl ρ (eI .i64) v16 x17) {r : ((Int × Int × (List Int)) ⊕ Unit)} (hF : F_product_two_find_1 N x2 x5 x8 x11 x14 x17 x19 = some r) :
  Calls Tryz.prog 101 [.agg #[v1, v4, v7, v10, v13, v16], .int .i64 x19, .func (.func 117) #[] [].toArray].toArray w (Rets (fun v w' => (∃ (ρ' : View) (v19513 : Value) (x19511 : Int) (x19512 : Int) (x19514 : (List Int)), .inl (x19511, x19512, x19514) = r ∧ .tuple [.agg #[.int .i64 x19511, .int .i64 x19512, v19513], .bool true].toArray = v ∧ View.le ρ ρ' ∧ RdSl ρ' (eI .u8) v19513 x19514 ∧ Hp C w' ρ' (hs)) ∨ (∃ (ρ' : View), .inr () = r ∧ .tuple [.agg #[.int .i64 0, .int .i64 0, (.slice none 0 0)], .bool false].toArray = v ∧ View.le ρ ρ' ∧ Hp C w' ρ' (Arr (.slice none 0 0) 1 ([]) :: hs)))) := by
 unfold F_product_two_find_1 at hF
 have h0 : Tryz.f101.body = some _ := rfl
 refine fn_calls' Tryz.func101 h0 (n := 73) rfl (by simp) <| C_seq <| R_nd <| ne (E_box H (vs := [v1, v4, v7, v10, v13, v16]) rfl rfl) rfl rfl ?_
 rintro _ wd19517 ⟨b19516, rfl, H⟩
 refine ne (E_alloc H ty166 (zs := [.int .i64 0, .int .i64 0, .slice none 0 0]) rfl) rfl rfl ?_
 rintro _ wd19519 ⟨b19518, rfl, H⟩
 refine nq (Q_assign rfl) rfl rfl <| WL_nil <| x_then <| C_seq <| R_nd <| nq (v := .agg #[v1, v4, v7, v10, v13, v16]) (Q_ldB (k := 1) (cs := [v1, v4, v7, v10, v13, v16]) H.ok rfl ty162 rfl rfl rfl (fun h => nomatch h) rfl) rfl rfl <| nq (Q_move rfl) rfl rfl ?_
 obtain ⟨q19520, hq19520, hF⟩ := bnd hF
 refine ne (E_call fn115 rfl (c_115 H gle  r3 r6 r9 r12 r15 r18 hq19520)) rfl rfl ?_
 rintro _ wd19524 ⟨x19522, x19523, rfl, rfl, H⟩
 try dsimp only at hF
 refine nq (v := .agg #[.int .i64 x19522, .int .i64 x19523, .slice none 0 0]) (Q_buildS st166.choose_spec (ps := [(0, [.int .i64 x19522, .int .i64 x19523])]) rfl ⟨rfl, rfl, by simp, trivial⟩ rfl) rfl rfl <| ne (E_alloc H ty166 (zs := [.int .i64 0, .int .i64 0, .slice none 0 0]) rfl) rfl rfl ?_
 rintro _ wd19526 ⟨b19525, rfl, H⟩
 refine ne (E_stB (k := 0) (cs := [.int .i64 x19522, .int .i64 x19523, .slice none 0 0]) (vs' := [.int .i64 x19522, .int .i64 x19523, .slice none 0 0]) H rfl ty166 rfl rfl rfl rfl (one_cons rfl (one_cons rfl (one_cons rfl one_nil))) (by simp) rfl) rfl rfl ?_
 rintro _ wd19527 H
 dsimp only [List.set] at H
 refine WL_nil <| x_then <| C_seq <| R_nd <| ne (E_makeMap (kP2 .i64) (Value.int .i64) H) rfl rfl ?_
 rintro _ wd19529 ⟨b19528, rfl, H⟩
 refine nq (v := .pointer (some ⟨b19525, 0, none⟩)) (Q_fld Tryz.underlying166 rfl ty164 (by decide) rfl rfl) rfl rfl <| nq (v := .agg #[.int .i64 x19522, .int .i64 x19523]) (Q_ldB (k := 1) (cs := [.int .i64 x19522, .int .i64 x19523]) H.ok rfl ty164 rfl rfl rfl (fun h => nomatch h) rfl) rfl rfl <| ne (E_minsert (b := 1) (k := 0) H rfl Tryz.underlying184 (kOk_P2 (k := .i64) kp164 (by kernel_rfl) ty3 Tryz.underlying3) trivial rfl (kP_ev rfl) rfl) rfl rfl ?_
 rintro _ wd19530 H
 dsimp only [List.set] at H
 refine nq (Q_move rfl) rfl rfl <| nq (Q_assign rfl) rfl rfl <| WL_nil <| x_then <| C_seq <| C_seq <| R_nd <| nq (v := .agg #[.int .i64 x19522, .int .i64 x19523, .slice none 0 0]) (Q_ldB (k := 1) (cs := [.int .i64 x19522, .int .i64 x19523, .slice none 0 0]) H.ok rfl ty166 rfl rfl rfl (fun h => nomatch h) rfl) rfl rfl <| ne (E_bslice (xs := [.tmp 22]) (vs := [.agg #[.int .i64 x19522, .int .i64 x19523, .slice none 0 0]]) H Tryz.underlying223 ty166 (by decide) (cs := [.int .i64 x19522, .int .i64 x19523, .slice none 0 0]) rfl (sz_cons rfl sz_nil) rfl (by simp) (by simp) rfl rfl) rfl rfl ?_
 rintro _ wd19532 ⟨b19531, rfl, H⟩
 refine nq (Q_assign rfl) rfl rfl <| WL_nil <| x_then ?_
 obtain ⟨o29267, ho29267, hF⟩ := bnd hF
 refine C_cutQ (fun a w' => ∃ (ρ' : View), View.le ρ ρ' ∧ .inl () = o29267 ∧ Fr 73 a [(6, .pointer (some ⟨b19518, 0, none⟩))] ∧ Hp C w' ρ' (Box b19518 [.int .i64 0, .int .i64 0, .slice none 0 0] :: hs)) ?_ ?_
 ·refine C_block ?_
  replace H := H.e2.f2.f3.f2
  refine C_iter (f := fun s => F_product_two_find_1_l0 N x2 x5 x8 x11 x14 x17 s.1 s.2) ho29267 (fun s a w' => ∃ (ρ' : View) (v32511 : Value) (c32512 : (List Value)) (x32513 : (List ((Int × Int) × (List Int)))) (x32515 : (List ((Int × Int) × Int))), View.le ρ ρ' ∧ (x32513, x32515) = s ∧ rdL (eP (eP (eI .i64) (eI .i64)) (eL (eI .u8))) ρ' x32513 c32512 ∧ Fr 73 a [(2, .func (.func 117) #[] [].toArray), (3, .pointer (some ⟨b19516, 0, none⟩)), (6, .pointer (some ⟨b19518, 0, none⟩)), (9, .map (some b19528)), (10, v32511)] ∧ Hp C w' ρ' (Arr v32511 3 c32512 :: Box b19516 [v1, v4, v7, v10, v13, v16] :: Box b19518 [.int .i64 0, .int .i64 0, .slice none 0 0] :: Mp (kP2 .i64) (Value.int .i64) b19528 x32515 :: hs)) ?_ ?_
  ·exact fun a hf => ⟨ρ, (.slice (some ⟨b19531, 0, none⟩) 1 1), [.int .i64 x19522, .int .i64 x19523, .slice none 0 0], [((x19522, x19523), [])], (mset ([] : List ((Int × Int) × Int)) (x19522, x19523) 1), (View.le_refl _), rfl, (show rdL (eP (eP (eI .i64) (eI .i64)) (eL (eI .u8))) ρ ([((x19522, x19523), [])]) ([.int .i64 x19522, .int .i64 x19523, .slice none 0 0]) from ⟨([.int .i64 x19522, .int .i64 x19523, .slice none 0 0]), _, rfl, ⟨[.int .i64 x19522, .int .i64 x19523], _, rfl, ⟨[.int .i64 x19522], _, rfl, rfl, rfl⟩, ⟨_, rfl, RdSl.nil⟩⟩, rdL.nil⟩), hf.sub ⟨rfl, rfl, rfl, rfl, rfl, trivial⟩, H⟩
  ·rintro s o35759 a wd35762 ⟨ρ, v32511, c32512, x32513, x32515, lw35763, rfl, r32514, hf, H⟩ hB35760 hO35761
   replace hB35760 : F_product_two_find_1_l0 N x2 x5 x8 x11 x14 x17 x32513 x32515 = some o35759 := hB35760
   unfold F_product_two_find_1_l0 at hB35760
   refine CW.at hf ?_
   replace r3 := RdSl.up lw35763 r3
   replace r6 := RdSl.up lw35763 r6
   replace r9 := RdSl.up lw35763 r9
   replace r12 := RdSl.up lw35763 r12
   replace r15 := RdSl.up lw35763 r15
   replace r18 := RdSl.up lw35763 r18
   replace gle := GErrs.up lw35763 gle
   refine C_seq <| C_seq <| R_nd <| nq (Q_move rfl) rfl rfl <| nq (Q_lenA (k := 0) H.ok rfl r32514 (by decide) Tryz.underlying223 rfl) rfl rfl <| nq (Q_gtr rfl rfl) rfl rfl <| WL_nil <| x_then ?_
   refine C_cond rfl (fun hb => ?_) (fun hb => ?_)
   ·replace hB35760 := itT hb hB35760
    refine C_skip <| x_then <| C_seq <| C_block <| C_seq <| R_nd <| nq (Q_move rfl) rfl rfl ?_
    obtain ⟨x35764, hx35764, hB35760⟩ := bnd hB35760
    obtain ⟨b35765, o35766, hi35770, hc35768, ha35769⟩ := arr_at (hs := [Arr v32511 3 c32512]) (k := 0) (by decide) (H.okS (by simp)) rfl r32514 hx35764
    refine nq (Q_idx hi35770 Tryz.underlying223 ty166 rfl rfl) rfl rfl ?_
    obtain ⟨c35771, c35772, he35773, hc35774, hc35775⟩ := (id hc35768)
    obtain ⟨c35776, c35777, he35778, hc35779, hc35780⟩ := hc35774
    obtain ⟨v35781, he35782, r35783⟩ := hc35775
    refine nq (v := .agg #[.int .i64 x35764.1.1, .int .i64 x35764.1.2, v35781]) (Q_ld (show cellsAt _ _ _ [.int .i64 x35764.1.1, .int .i64 x35764.1.2, v35781] from cellsAt.cg (cat2 he35773 (cat2 he35778 (rdI hc35779) (rdI hc35780)) he35782) (ha35769 _ (Ok.subS (by simp) H.ok))) ty166 rfl (fun h => nomatch h) rfl rfl) rfl rfl <| ne (E_alloc H ty166 (zs := [.int .i64 0, .int .i64 0, .slice none 0 0]) rfl) rfl rfl ?_
    rintro _ wd35785 ⟨b35784, rfl, H⟩
    refine ne (E_stB (k := 0) (cs := [.int .i64 x35764.1.1, .int .i64 x35764.1.2, v35781]) (vs' := [.int .i64 x35764.1.1, .int .i64 x35764.1.2, v35781]) H rfl ty166 rfl rfl rfl rfl (one_cons rfl (one_cons rfl (one_cons (RdSl.one r35783) one_nil))) (by simp) rfl) rfl rfl ?_
    rintro _ wd35786 H
    dsimp only [List.set] at H
    refine WL_nil <| x_then <| C_seq <| C_seq <| R_nd <| nq (Q_move rfl) rfl rfl <| nq (v := .agg #[v1, v4, v7, v10, v13, v16]) (Q_ldB (k := 2) (cs := [v1, v4, v7, v10, v13, v16]) H.ok rfl ty162 rfl rfl rfl (fun h => nomatch h) rfl) rfl rfl <| nq (v := .pointer (some ⟨b35784, 0, none⟩)) (Q_fld Tryz.underlying166 rfl ty164 (by decide) rfl rfl) rfl rfl <| nq (v := .agg #[.int .i64 x35764.1.1, .int .i64 x35764.1.2]) (Q_ldB (k := 0) (cs := [.int .i64 x35764.1.1, .int .i64 x35764.1.2]) H.ok rfl ty164 rfl rfl rfl (fun h => nomatch h) rfl) rfl rfl ?_
    obtain ⟨q35787, hq35787, hB35760⟩ := bnd hB35760
    refine ne (E_call fn103 rfl (c_103 H gle  r3 r6 r9 r12 r15 r18 hq35787)) rfl rfl ?_
    rintro _ wd35791 ⟨x35789, x35790, rfl, rfl, H⟩
    try dsimp only at hB35760
    refine nq (Q_extract rfl rfl) rfl rfl <| nq (Q_extract rfl rfl) rfl rfl ?_
    obtain ⟨q35792, hq35792, hB35760⟩ := bnd hB35760
    refine ne (E_callV fn117 rfl rfl (c_117 H gle   hq35792)) rfl rfl ?_
    rintro _ wd35795 ⟨x35794, rfl, rfl, H⟩
    try dsimp only at hB35760
    refine WL_nil <| x_then ?_
    refine C_cond rfl (fun hb => ?_) (fun hb => ?_)
    ·replace hB35760 := itT hb hB35760
     refine C_seq <| R_nd <| nq (v := .agg #[.int .i64 x35764.1.1, .int .i64 x35764.1.2, v35781]) (Q_ldB (k := 0) (cs := [.int .i64 x35764.1.1, .int .i64 x35764.1.2, v35781]) H.ok rfl ty166 rfl rfl rfl (fun h => nomatch h) rfl) rfl rfl <| ne (E_stB (k := 3) (cs := [.int .i64 x35764.1.1, .int .i64 x35764.1.2, v35781]) (vs' := [.int .i64 x35764.1.1, .int .i64 x35764.1.2, v35781]) H rfl ty166 rfl rfl rfl rfl (one_cons rfl (one_cons rfl (one_cons (RdSl.one r35783) one_nil))) (by simp) rfl) rfl rfl ?_
     rintro _ wd35796 H
     dsimp only [List.set] at H
     refine nq (Q_assign rfl) rfl rfl <| WL_nil <| x_then <| C_ret <| x_then_ret <| x_block_ret <| x_then_ret <| x_then_ret <| x_block_ret <| x_then_ret <| x_then_ret ?_
     have hRV : RV Tryz.prog wd35796 [(6, .pointer (some ⟨b19518, 0, none⟩)), (7, .bool true)] [.cell 6 166, .tmp 7] [.agg #[.int .i64 x35764.1.1, .int .i64 x35764.1.2, v35781], .bool true] := ⟨⟨_, rfl, run_ldv ty166 rfl (fun h => nomatch h) (box_at (H.ok.get (k := 3) rfl) 0 3)⟩, rfl, trivial⟩
     replace H := H.e4.e3.e2.e1.e0
     obtain rfl := Option.some.inj hB35760
     obtain rfl := hO35761 _ rfl
     obtain rfl := Option.some.inj (show some _ = some _ from hF)
     exact fn_retV (rs := [.cell 6 166, .tmp 7]) (vs := [.agg #[.int .i64 x35764.1.1, .int .i64 x35764.1.2, v35781], .bool true]) rfl hRV (.inl ⟨ρ, v35781, x35764.1.1, x35764.1.2, x35764.2, rfl, rfl, lw35763, r35783, H⟩)
    ·replace hB35760 := itF hb hB35760
     refine C_skip <| x_then <| C_seq <| R_nd <| nq (Q_move rfl) rfl rfl <| WL_nil <| x_then ?_
     obtain ⟨o37397, ho37397, hB35760⟩ := bnd hB35760
     refine C_cutQ (fun a w' => ∃ (ρ' : View) (v37392 : Value) (c37393 : (List Value)) (x37394 : (List ((Int × Int) × (List Int)))) (x37396 : (List ((Int × Int) × Int))), View.le ρ ρ' ∧ (x37394, x37396) = o37397 ∧ rdL (eP (eP (eI .i64) (eI .i64)) (eL (eI .u8))) ρ' x37394 c37393 ∧ Fr 73 a [(2, .func (.func 117) #[] [].toArray), (3, .pointer (some ⟨b19516, 0, none⟩)), (6, .pointer (some ⟨b19518, 0, none⟩)), (9, .map (some b19528)), (10, v37392)] ∧ Hp C w' ρ' (Arr v37392 3 c37393 :: Box b19516 [v1, v4, v7, v10, v13, v16] :: Box b19518 [.int .i64 0, .int .i64 0, .slice none 0 0] :: Mp (kP2 .i64) (Value.int .i64) b19528 x37396 :: hs)) ?_ ?_
     ·refine C_block ?_
      replace H := H.f1
      refine C_iter (f := fun s => F_product_two_find_1_l1 N x2 x5 x8 x11 x14 x17 x35764 s.1 s.2.1 s.2.2) ho37397 (fun s a w' => ∃ (ρ' : View) (v37928 : Value) (c37929 : (List Value)) (x37930 : (List ((Int × Int) × (List Int)))) (x37932 : Int) (x37933 : (List ((Int × Int) × Int))), View.le ρ ρ' ∧ (x37930, x37932, x37933) = s ∧ rdL (eP (eP (eI .i64) (eI .i64)) (eL (eI .u8))) ρ' x37930 c37929 ∧ Fr 73 a [(2, .func (.func 117) #[] [].toArray), (3, .pointer (some ⟨b19516, 0, none⟩)), (6, .pointer (some ⟨b19518, 0, none⟩)), (9, .map (some b19528)), (10, v37928), (11, .pointer (some ⟨b35784, 0, none⟩)), (41, .int .i64 x37932)] ∧ Hp C w' ρ' (Arr v37928 3 c37929 :: Box b35784 [.int .i64 x35764.1.1, .int .i64 x35764.1.2, v35781] :: Box b19516 [v1, v4, v7, v10, v13, v16] :: Box b19518 [.int .i64 0, .int .i64 0, .slice none 0 0] :: Mp (kP2 .i64) (Value.int .i64) b19528 x37933 :: hs)) ?_ ?_
      ·exact fun a hf => ⟨ρ, v32511, c32512, x32513, 0, x32515, (View.le_refl _), rfl, r32514, hf.sub ⟨rfl, rfl, rfl, rfl, rfl, rfl, rfl, trivial⟩, H⟩
      ·rintro s o38464 a wd38467 ⟨ρ, v37928, c37929, x37930, x37932, x37933, lw38468, rfl, r37931, hf, H⟩ hB38465 hO38466
       replace hB38465 : F_product_two_find_1_l1 N x2 x5 x8 x11 x14 x17 x35764 x37930 x37932 x37933 = some o38464 := hB38465
       unfold F_product_two_find_1_l1 at hB38465
       refine CW.at hf ?_
       replace r35783 := RdSl.up lw38468 r35783
       replace r3 := RdSl.up lw38468 r3
       replace r6 := RdSl.up lw38468 r6
       replace r9 := RdSl.up lw38468 r9
       replace r12 := RdSl.up lw38468 r12
       replace r15 := RdSl.up lw38468 r15
       replace r18 := RdSl.up lw38468 r18
       replace gle := GErrs.up lw38468 gle
       refine C_seq <| R_nd <| nq (Q_lss rfl rfl) rfl rfl <| WL_nil <| x_then <| C_seq ?_
       refine C_cond rfl (fun hb => ?_) (fun hb => ?_)
       ·replace hB38465 := itT hb hB38465
        refine C_skip <| x_then ?_
        obtain ⟨o38732, ho38732, hB38465⟩ := bnd hB38465
        refine C_cut (fun a w' => ∃ (ρ' : View) (v38727 : Value) (c38728 : (List Value)) (x38729 : (List ((Int × Int) × (List Int)))) (x38731 : (List ((Int × Int) × Int))), View.le ρ ρ' ∧ (x38729, x38731) = o38732 ∧ rdL (eP (eP (eI .i64) (eI .i64)) (eL (eI .u8))) ρ' x38729 c38728 ∧ Fr 73 a [(2, .func (.func 117) #[] [].toArray), (3, .pointer (some ⟨b19516, 0, none⟩)), (6, .pointer (some ⟨b19518, 0, none⟩)), (9, .map (some b19528)), (10, v38727), (11, .pointer (some ⟨b35784, 0, none⟩)), (41, .int .i64 x37932)] ∧ Hp C w' ρ' (Arr v38727 3 c38728 :: Box b35784 [.int .i64 x35764.1.1, .int .i64 x35764.1.2, v35781] :: Box b19516 [v1, v4, v7, v10, v13, v16] :: Box b19518 [.int .i64 0, .int .i64 0, .slice none 0 0] :: Mp (kP2 .i64) (Value.int .i64) b19528 x38731 :: hs)) ?_ ?_
        ·refine C_block <| C_seq <| R_nd <| nq (Q_move rfl) rfl rfl <| nq (Q_assign rfl) rfl rfl <| WL_nil <| x_then <| C_seq <| R_nd <| nq (v := .agg #[v1, v4, v7, v10, v13, v16]) (Q_ldB (k := 2) (cs := [v1, v4, v7, v10, v13, v16]) H.ok rfl ty162 rfl rfl rfl (fun h => nomatch h) rfl) rfl rfl <| nq (v := .pointer (some ⟨b35784, 0, none⟩)) (Q_fld Tryz.underlying166 rfl ty164 (by decide) rfl rfl) rfl rfl <| nq (v := .agg #[.int .i64 x35764.1.1, .int .i64 x35764.1.2]) (Q_ldB (k := 1) (cs := [.int .i64 x35764.1.1, .int .i64 x35764.1.2]) H.ok rfl ty164 rfl rfl rfl (fun h => nomatch h) rfl) rfl rfl <| nq (Q_move rfl) rfl rfl ?_
         obtain ⟨q38733, hq38733, ho38732⟩ := bnd ho38732
         refine ne (E_call fn116 rfl (c_116 H gle  r3 r6 r9 r12 r15 r18 hq38733)) rfl rfl ?_
         rintro _ wd38737 ⟨x38735, x38736, rfl, rfl, H⟩
         try dsimp only at ho38732
         refine ne (E_alloc H ty164 (zs := [.int .i64 0, .int .i64 0]) rfl) rfl rfl ?_
         rintro _ wd38739 ⟨b38738, rfl, H⟩
         refine ne (E_stB (k := 0) (cs := [.int .i64 x38735, .int .i64 x38736]) (vs' := [.int .i64 x38735, .int .i64 x38736]) H rfl ty164 rfl rfl rfl rfl (one_cons rfl (one_cons rfl one_nil)) (by simp) rfl) rfl rfl ?_
         rintro _ wd38740 H
         dsimp only [List.set] at H
         refine WL_nil <| x_then <| C_seq <| R_nd <| nq (Q_move rfl) rfl rfl <| nq (v := .agg #[.int .i64 x38735, .int .i64 x38736]) (Q_ldB (k := 0) (cs := [.int .i64 x38735, .int .i64 x38736]) H.ok rfl ty164 rfl rfl rfl (fun h => nomatch h) rfl) rfl rfl <| nq (v := .int .i64 ((mget x37933 (x38735, x38736)).getD 0)) (Q_look1 (zp := 0) (k := 5) H.ok rfl Tryz.underlying184 (kOk_P2 (k := .i64) kp164 (by kernel_rfl) ty3 Tryz.underlying3) trivial ty3 rfl rfl (kP_ev rfl)) rfl rfl <| nq (Q_eql rfl rfl) rfl rfl <| WL_nil <| x_then ?_
         obtain ⟨o38867, ho38867, ho38732⟩ := bnd ho38732
         refine C_cutQ (fun a w' => ∃ (ρ' : View) (v38862 : Value) (c38863 : (List Value)) (x38864 : (List ((Int × Int) × (List Int)))) (x38866 : (List ((Int × Int) × Int))), View.le ρ ρ' ∧ (x38864, x38866) = o38867 ∧ rdL (eP (eP (eI .i64) (eI .i64)) (eL (eI .u8))) ρ' x38864 c38863 ∧ Fr 73 a [(2, .func (.func 117) #[] [].toArray), (3, .pointer (some ⟨b19516, 0, none⟩)), (6, .pointer (some ⟨b19518, 0, none⟩)), (9, .map (some b19528)), (10, v38862), (11, .pointer (some ⟨b35784, 0, none⟩)), (41, .int .i64 x37932)] ∧ Hp C w' ρ' (Arr v38862 3 c38863 :: Box b35784 [.int .i64 x35764.1.1, .int .i64 x35764.1.2, v35781] :: Box b19516 [v1, v4, v7, v10, v13, v16] :: Box b19518 [.int .i64 0, .int .i64 0, .slice none 0 0] :: Mp (kP2 .i64) (Value.int .i64) b19528 x38866 :: hs)) ?_ ?_
         ·refine C_cond rfl (fun hb => ?_) (fun hb => ?_)
          ·replace ho38867 := itT hb ho38867
           obtain ⟨o38874, ho38874, ho38867⟩ := bnd ho38867
           refine C_cut (fun a w' => Fr 73 a [(2, .func (.func 117) #[] [].toArray), (3, .pointer (some ⟨b19516, 0, none⟩)), (6, .pointer (some ⟨b19518, 0, none⟩)), (9, .map (some b19528)), (10, v37928), (11, .pointer (some ⟨b35784, 0, none⟩)), (12, .int .i64 x37932), (13, .pointer (some ⟨b38738, 0, none⟩)), (41, .int .i64 x37932)] ∧ Hp C w' ρ (Arr v37928 3 c37929 :: Box b35784 [.int .i64 x35764.1.1, .int .i64 x35764.1.2, v35781] :: Box b38738 [.int .i64 x38735, .int .i64 x38736] :: Box b19516 [v1, v4, v7, v10, v13, v16] :: Box b19518 [.int .i64 0, .int .i64 0, .slice none 0 0] :: Mp (kP2 .i64) (Value.int .i64) b19528 (mset (mset x37933 (x38735, x38736) ((mget x37933 (x38735, x38736)).getD 0)) (x38735, x38736) (w64 (((mget x37933 (x38735, x38736)).getD 0) + 1))) :: hs)) ?_ ?_
           ·refine R_dr (.take 0 (.take 1 (.two 2 4 (.take 3 (.one 4 (.take 5 (.bar 6 none .done)))) (.take 5 (.one 2 (.take 3 (.bar 6 none .done))))))) (some 6) (S := fun w' => Ok w' ρ [Box b38738 [.int .i64 x38735, .int .i64 x38736], Arr v37928 3 c37929, Box b35784 [.int .i64 x35764.1.1, .int .i64 x35764.1.2, v35781], Box b19516 [v1, v4, v7, v10, v13, v16], Box b19518 [.int .i64 0, .int .i64 0, .slice none 0 0]]) hm0 (by kernel_rfl) (H.drew.okS (by simp)) ?_
            replace H := H.drew
            refine dq rfl (fun _ _ => Q_move rfl) rfl rfl <| dq (v := .agg #[.int .i64 x38735, .int .i64 x38736]) rfl (fun _ hw => Q_ldB (k := 0) (cs := [.int .i64 x38735, .int .i64 x38736]) hw rfl ty164 rfl rfl rfl (fun h => nomatch h) rfl) rfl rfl ?_
            refine d2 ?_ ?_
            ·refine de rfl (Eff.quiet (v := .int .i64 ((mget x37933 (x38735, x38736)).getD 0)) (Q_look1 (zp := 0) (k := 5) H.ok rfl Tryz.underlying184 (kOk_P2 (k := .i64) kp164 (by kernel_rfl) ty3 Tryz.underlying3) trivial ty3 rfl rfl (kP_ev rfl))) rfl rfl ?_
             rintro _ _ ⟨rfl, rfl⟩
             refine ⟨H.okS (by simp), ?_⟩
             refine dq rfl (fun _ _ => Q_add rfl rfl) rfl rfl ?_
             refine d1 (de rfl (E_mentry (zp := 0) (k := 5) H rfl Tryz.underlying184 (kOk_P2 (k := .i64) kp164 (by kernel_rfl) ty3 Tryz.underlying3) trivial ty3 rfl rfl (kP_ev rfl)) rfl rfl ?_)
             rintro _ wd38876 ⟨n38875, rfl, H⟩
             refine ⟨H.okS (by simp), ?_⟩
             dsimp only [List.set] at H
             refine dq rfl (fun _ _ => Q_extract rfl rfl) rfl rfl <| db rfl (E_estore (b := (w64 (((mget x37933 (x38735, x38736)).getD 0) + 1))) (k := 5) (kOk_P2 (k := .i64) kp164 (by kernel_rfl) ty3 Tryz.underlying3).law H rfl rfl rfl rfl) rfl rfl ?_
             rintro _ wd38877 H
             refine H.okF ?_
             dsimp only [List.set] at H
             refine DL_nil ?_
             replace H := H.f2.f2
             obtain rfl := Option.some.inj ho38874
             refine x_A fun a hf => ⟨hf.sub ⟨rfl, rfl, rfl, rfl, rfl, rfl, rfl, rfl, rfl, trivial⟩, H⟩
            ·refine de rfl (E_mentry (zp := 0) (k := 5) H rfl Tryz.underlying184 (kOk_P2 (k := .i64) kp164 (by kernel_rfl) ty3 Tryz.underlying3) trivial ty3 rfl rfl (kP_ev rfl)) rfl rfl ?_
             rintro _ wd38879 ⟨n38878, rfl, H⟩
             refine ⟨H.okS (by simp), ?_⟩
             dsimp only [List.set] at H
             refine dq rfl (fun _ _ => Q_extract rfl rfl) rfl rfl ?_
             refine d1 (de rfl (Eff.quiet (v := .int .i64 ((mget x37933 (x38735, x38736)).getD 0)) (Q_look1E (m := x37933) (zp := 0) (k := 5) H.ok rfl Tryz.underlying184 (kOk_P2 (k := .i64) kp164 (by kernel_rfl) ty3 Tryz.underlying3) trivial ty3 rfl rfl (kP_ev rfl))) rfl rfl ?_)
             rintro _ _ ⟨rfl, rfl⟩
             refine ⟨H.okS (by simp), ?_⟩
             refine dq rfl (fun _ _ => Q_add rfl rfl) rfl rfl <| db rfl (E_estore (b := (w64 (((mget x37933 (x38735, x38736)).getD 0) + 1))) (k := 5) (kOk_P2 (k := .i64) kp164 (by kernel_rfl) ty3 Tryz.underlying3).law H rfl rfl rfl rfl) rfl rfl ?_
             rintro _ wd38880 H
             refine H.okF ?_
             dsimp only [List.set] at H
             refine DL_nil ?_
             replace H := H.f2.f2
             obtain rfl := Option.some.inj ho38874
             refine x_A fun a hf => ⟨hf.sub ⟨rfl, rfl, rfl, rfl, rfl, rfl, rfl, rfl, rfl, trivial⟩, H⟩
           ·rintro a wd38881 ⟨hf, H⟩
            try dsimp only at ho38867
            refine CW.at hf ?_
            obtain ⟨o38936, ho38936, ho38867⟩ := bnd ho38867
            refine C_cutQ (fun a w' => ∃ (ρ' : View) (v38932 : Value) (c38933 : (List Value)) (x38934 : (List ((Int × Int) × (List Int)))), View.le ρ ρ' ∧ x38934 = o38936 ∧ rdL (eP (eP (eI .i64) (eI .i64)) (eL (eI .u8))) ρ' x38934 c38933 ∧ Fr 73 a [(2, .func (.func 117) #[] [].toArray), (3, .pointer (some ⟨b19516, 0, none⟩)), (6, .pointer (some ⟨b19518, 0, none⟩)), (9, .map (some b19528)), (10, v38932), (11, .pointer (some ⟨b35784, 0, none⟩)), (41, .int .i64 x37932)] ∧ Hp C w' ρ' (Arr v38932 3 c38933 :: Box b35784 [.int .i64 x35764.1.1, .int .i64 x35764.1.2, v35781] :: Box b19516 [v1, v4, v7, v10, v13, v16] :: Box b19518 [.int .i64 0, .int .i64 0, .slice none 0 0] :: Mp (kP2 .i64) (Value.int .i64) b19528 (mset (mset x37933 (x38735, x38736) ((mget x37933 (x38735, x38736)).getD 0)) (x38735, x38736) (w64 (((mget x37933 (x38735, x38736)).getD 0) + 1))) :: hs)) ?_ ?_
            ·refine R_dr (.take 0 (.take 1 (.take 2 (.take 3 (.take 5 (.take 6 (.two 4 7 (.one 7 (.one 8 (.take 9 (.one 10 (.bar 11 none (.take 12 .done)))))) (.one 4 (.one 8 (.take 9 (.one 10 (.bar 11 none (.take 12 .done))))))))))))) (some 11) (S := fun w' => Ok w' ρ [Arr v37928 3 c37929, Box b35784 [.int .i64 x35764.1.1, .int .i64 x35764.1.2, v35781], Box b38738 [.int .i64 x38735, .int .i64 x38736], Box b19516 [v1, v4, v7, v10, v13, v16], Box b19518 [.int .i64 0, .int .i64 0, .slice none 0 0], Mp (kP2 .i64) (Value.int .i64) b19528 (mset (mset x37933 (x38735, x38736) ((mget x37933 (x38735, x38736)).getD 0)) (x38735, x38736) (w64 (((mget x37933 (x38735, x38736)).getD 0) + 1)))]) hm0 (by kernel_rfl) (H.drew.okS (by simp)) ?_
             replace H := H.drew
             refine dq rfl (fun _ _ => Q_move rfl) rfl rfl <| dq (v := .agg #[.int .i64 x38735, .int .i64 x38736]) rfl (fun _ hw => Q_ldB (k := 2) (cs := [.int .i64 x38735, .int .i64 x38736]) hw rfl ty164 rfl rfl rfl (fun h => nomatch h) rfl) rfl rfl <| dq (v := .pointer (some ⟨b35784, 2, none⟩)) rfl (fun _ _ => Q_fld Tryz.underlying166 rfl ty42 (by decide) rfl rfl) rfl rfl <| dq (v := v35781) rfl (fun _ hw => Q_ldB (k := 1) (cs := [v35781]) hw rfl ty42 rfl rfl rfl (fun _ => rfl) rfl) rfl rfl <| dq rfl (fun _ _ => Q_move rfl) rfl rfl <| dq rfl (fun _ _ => Q_cvI ⟨_, Tryz.underlying3⟩ Tryz.underlying5 rfl) rfl rfl ?_
             refine d2 ?_ ?_
             ·obtain ⟨q38937, hq38937, ho38936⟩ := bnd ho38936
              refine de rfl (E_call fn139 rfl (c_139 H  r35783 hq38937)) rfl rfl ?_
              rintro _ wd38943 ⟨v38939, c38940, x38941, rfl, rfl, r38942, H⟩
              try dsimp only at ho38936
              refine ⟨H.okS (by simp), ?_⟩
              refine d1 (de rfl (E_bslice (xs := [.tmp 65]) (vs := [.int .u8 (IntKind.wrap .u8 x37932)]) H Tryz.underlying42 ty5 (by decide) (cs := [.int .u8 (IntKind.wrap .u8 x37932)]) rfl (sz_cons rfl sz_nil) rfl (by simp) (by simp) rfl rfl) rfl rfl ?_)
              rintro _ wd38945 ⟨b38944, rfl, H⟩
              refine ⟨H.okS (by simp), ?_⟩
              obtain ⟨x38946, hx38946, ho38936⟩ := bnd ho38936
              obtain ⟨ha38947a, ha38947b⟩ := app_some hx38946
              have r38949 : rdL (eI .u8) ρ x38946 (c38940 ++ ([.int .u8 (IntKind.wrap .u8 x37932)])) := ha38947b ▸ rdL.app r38942 (show rdL (eI .u8) ρ ([IntKind.wrap .u8 x37932]) ([.int .u8 (IntKind.wrap .u8 x37932)]) from ⟨([.int .u8 (IntKind.wrap .u8 x37932)]), _, rfl, rfl, rdL.nil⟩)
              refine d1 (de rfl (E_append (k := 1) H rfl Tryz.underlying42 ty5 rfl (by decide) (by decide) rfl rfl (Src.ofArr (k := 0) H.ok rfl) (rdL.one (show rdL (eI .u8) ρ ([IntKind.wrap .u8 x37932]) ([.int .u8 (IntKind.wrap .u8 x37932)]) from ⟨([.int .u8 (IntKind.wrap .u8 x37932)]), _, rfl, rfl, rdL.nil⟩)) (app_fit r38942 (show rdL (eI .u8) ρ ([IntKind.wrap .u8 x37932]) ([.int .u8 (IntKind.wrap .u8 x37932)]) from ⟨([.int .u8 (IntKind.wrap .u8 x37932)]), _, rfl, rfl, rdL.nil⟩) ha38947a)) rfl rfl ?_)
              rintro v38948 wd38951 ⟨H, hc38950⟩
              dsimp only [List.set] at H
              refine ⟨H.okS (by simp), ?_⟩
              refine dq (v := .agg #[.int .i64 x38735, .int .i64 x38736, v38948]) rfl (fun _ _ => Q_buildS st166.choose_spec (ps := [(0, [.int .i64 x38735, .int .i64 x38736]), (2, [v38948])]) rfl ⟨rfl, rfl, by simp, ⟨rfl, (arr_cells (H.ok.get (k := 1) rfl)).1, by simp, trivial⟩⟩ rfl) rfl rfl ?_
              replace H := H.f1
              obtain ⟨ρ, lw38952, H, r38953⟩ := Hp.frz (en := (eI .u8)) H (by decide) r38949
              replace r37931 := rdL.up lw38952 r37931
              replace r35783 := RdSl.up lw38952 r35783
              replace r3 := RdSl.up lw38952 r3
              replace r6 := RdSl.up lw38952 r6
              replace r9 := RdSl.up lw38952 r9
              replace r12 := RdSl.up lw38952 r12
              replace r15 := RdSl.up lw38952 r15
              replace r18 := RdSl.up lw38952 r18
              replace gle := GErrs.up lw38952 gle
              refine d1 (de rfl (E_bslice (xs := [.tmp 68]) (vs := [.agg #[.int .i64 x38735, .int .i64 x38736, v38948]]) H Tryz.underlying223 ty166 (by decide) (cs := [.int .i64 x38735, .int .i64 x38736, v38948]) rfl (sz_cons rfl sz_nil) rfl (by simp) (by simp) rfl rfl) rfl rfl ?_)
              rintro _ wd38955 ⟨b38954, rfl, H⟩
              refine ⟨(H.okS (by simp)).low lw38952, ?_⟩
              obtain ⟨x38956, hx38956, ho38936⟩ := bnd ho38936
              obtain ⟨ha38957a, ha38957b⟩ := app_some hx38956
              have r38959 : rdL (eP (eP (eI .i64) (eI .i64)) (eL (eI .u8))) ρ x38956 (c37929 ++ ([.int .i64 x38735, .int .i64 x38736, v38948])) := ha38957b ▸ rdL.app r37931 (show rdL (eP (eP (eI .i64) (eI .i64)) (eL (eI .u8))) ρ ([((x38735, x38736), x38946)]) ([.int .i64 x38735, .int .i64 x38736, v38948]) from ⟨([.int .i64 x38735, .int .i64 x38736, v38948]), _, rfl, ⟨[.int .i64 x38735, .int .i64 x38736], _, rfl, ⟨[.int .i64 x38735], _, rfl, rfl, rfl⟩, ⟨_, rfl, r38953⟩⟩, rdL.nil⟩)
              refine db rfl (E_append (k := 2) H rfl Tryz.underlying223 ty166 rfl (by decide) (by decide) rfl rfl (Src.ofArr (k := 0) H.ok rfl) (rdL.one (show rdL (eP (eP (eI .i64) (eI .i64)) (eL (eI .u8))) ρ ([((x38735, x38736), x38946)]) ([.int .i64 x38735, .int .i64 x38736, v38948]) from ⟨([.int .i64 x38735, .int .i64 x38736, v38948]), _, rfl, ⟨[.int .i64 x38735, .int .i64 x38736], _, rfl, ⟨[.int .i64 x38735], _, rfl, rfl, rfl⟩, ⟨_, rfl, r38953⟩⟩, rdL.nil⟩)) (app_fit r37931 (show rdL (eP (eP (eI .i64) (eI .i64)) (eL (eI .u8))) ρ ([((x38735, x38736), x38946)]) ([.int .i64 x38735, .int .i64 x38736, v38948]) from ⟨([.int .i64 x38735, .int .i64 x38736, v38948]), _, rfl, ⟨[.int .i64 x38735, .int .i64 x38736], _, rfl, ⟨[.int .i64 x38735], _, rfl, rfl, rfl⟩, ⟨_, rfl, r38953⟩⟩, rdL.nil⟩) ha38957a)) rfl rfl ?_
              rintro v38958 wd38961 ⟨H, hc38960⟩
              dsimp only [List.set] at H
              refine H.okF <| dq rfl (fun _ _ => Q_assign rfl) rfl rfl <| DL_nil ?_
              replace H := H.e4.e1.e0
              obtain rfl := Option.some.inj ho38936
              refine x_A fun a hf => ⟨ρ, v38958, (c37929 ++ ([.int .i64 x38735, .int .i64 x38736, v38948])), x38956, lw38952, rfl, r38959, hf.sub ⟨rfl, rfl, rfl, rfl, rfl, rfl, rfl, trivial⟩, H⟩
             ·refine de rfl (E_bslice (xs := [.tmp 65]) (vs := [.int .u8 (IntKind.wrap .u8 x37932)]) H Tryz.underlying42 ty5 (by decide) (cs := [.int .u8 (IntKind.wrap .u8 x37932)]) rfl (sz_cons rfl sz_nil) rfl (by simp) (by simp) rfl rfl) rfl rfl ?_
              rintro _ wd38963 ⟨b38962, rfl, H⟩
              refine ⟨H.okS (by simp), ?_⟩
              obtain ⟨q38964, hq38964, ho38936⟩ := bnd ho38936
              refine d1 (de rfl (E_call fn139 rfl (c_139 H  r35783 hq38964)) rfl rfl ?_)
              rintro _ wd38970 ⟨v38966, c38967, x38968, rfl, rfl, r38969, H⟩
              try dsimp only at ho38936
              refine ⟨H.okS (by simp), ?_⟩
              obtain ⟨x38971, hx38971, ho38936⟩ := bnd ho38936
              obtain ⟨ha38972a, ha38972b⟩ := app_some hx38971
              have r38974 : rdL (eI .u8) ρ x38971 (c38967 ++ ([.int .u8 (IntKind.wrap .u8 x37932)])) := ha38972b ▸ rdL.app r38969 (show rdL (eI .u8) ρ ([IntKind.wrap .u8 x37932]) ([.int .u8 (IntKind.wrap .u8 x37932)]) from ⟨([.int .u8 (IntKind.wrap .u8 x37932)]), _, rfl, rfl, rdL.nil⟩)
              refine d1 (de rfl (E_append (k := 0) H rfl Tryz.underlying42 ty5 rfl (by decide) (by decide) rfl rfl (Src.ofArr (k := 1) H.ok rfl) (rdL.one (show rdL (eI .u8) ρ ([IntKind.wrap .u8 x37932]) ([.int .u8 (IntKind.wrap .u8 x37932)]) from ⟨([.int .u8 (IntKind.wrap .u8 x37932)]), _, rfl, rfl, rdL.nil⟩)) (app_fit r38969 (show rdL (eI .u8) ρ ([IntKind.wrap .u8 x37932]) ([.int .u8 (IntKind.wrap .u8 x37932)]) from ⟨([.int .u8 (IntKind.wrap .u8 x37932)]), _, rfl, rfl, rdL.nil⟩) ha38972a)) rfl rfl ?_)
              rintro v38973 wd38976 ⟨H, hc38975⟩
              dsimp only [List.set] at H
              refine ⟨H.okS (by simp), ?_⟩
              refine dq (v := .agg #[.int .i64 x38735, .int .i64 x38736, v38973]) rfl (fun _ _ => Q_buildS st166.choose_spec (ps := [(0, [.int .i64 x38735, .int .i64 x38736]), (2, [v38973])]) rfl ⟨rfl, rfl, by simp, ⟨rfl, (arr_cells (H.ok.get (k := 0) rfl)).1, by simp, trivial⟩⟩ rfl) rfl rfl ?_
              obtain ⟨ρ, lw38977, H, r38978⟩ := Hp.frz (en := (eI .u8)) H (by decide) r38974
              replace r37931 := rdL.up lw38977 r37931
              replace r35783 := RdSl.up lw38977 r35783
              replace r3 := RdSl.up lw38977 r3
              replace r6 := RdSl.up lw38977 r6
              replace r9 := RdSl.up lw38977 r9
              replace r12 := RdSl.up lw38977 r12
              replace r15 := RdSl.up lw38977 r15
              replace r18 := RdSl.up lw38977 r18
              replace gle := GErrs.up lw38977 gle
              refine d1 (de rfl (E_bslice (xs := [.tmp 68]) (vs := [.agg #[.int .i64 x38735, .int .i64 x38736, v38973]]) H Tryz.underlying223 ty166 (by decide) (cs := [.int .i64 x38735, .int .i64 x38736, v38973]) rfl (sz_cons rfl sz_nil) rfl (by simp) (by simp) rfl rfl) rfl rfl ?_)
              rintro _ wd38980 ⟨b38979, rfl, H⟩
              refine ⟨(H.okS (by simp)).low lw38977, ?_⟩
              obtain ⟨x38981, hx38981, ho38936⟩ := bnd ho38936
              obtain ⟨ha38982a, ha38982b⟩ := app_some hx38981
              have r38984 : rdL (eP (eP (eI .i64) (eI .i64)) (eL (eI .u8))) ρ x38981 (c37929 ++ ([.int .i64 x38735, .int .i64 x38736, v38973])) := ha38982b ▸ rdL.app r37931 (show rdL (eP (eP (eI .i64) (eI .i64)) (eL (eI .u8))) ρ ([((x38735, x38736), x38971)]) ([.int .i64 x38735, .int .i64 x38736, v38973]) from ⟨([.int .i64 x38735, .int .i64 x38736, v38973]), _, rfl, ⟨[.int .i64 x38735, .int .i64 x38736], _, rfl, ⟨[.int .i64 x38735], _, rfl, rfl, rfl⟩, ⟨_, rfl, r38978⟩⟩, rdL.nil⟩)
              refine db rfl (E_append (k := 2) H rfl Tryz.underlying223 ty166 rfl (by decide) (by decide) rfl rfl (Src.ofArr (k := 0) H.ok rfl) (rdL.one (show rdL (eP (eP (eI .i64) (eI .i64)) (eL (eI .u8))) ρ ([((x38735, x38736), x38971)]) ([.int .i64 x38735, .int .i64 x38736, v38973]) from ⟨([.int .i64 x38735, .int .i64 x38736, v38973]), _, rfl, ⟨[.int .i64 x38735, .int .i64 x38736], _, rfl, ⟨[.int .i64 x38735], _, rfl, rfl, rfl⟩, ⟨_, rfl, r38978⟩⟩, rdL.nil⟩)) (app_fit r37931 (show rdL (eP (eP (eI .i64) (eI .i64)) (eL (eI .u8))) ρ ([((x38735, x38736), x38971)]) ([.int .i64 x38735, .int .i64 x38736, v38973]) from ⟨([.int .i64 x38735, .int .i64 x38736, v38973]), _, rfl, ⟨[.int .i64 x38735, .int .i64 x38736], _, rfl, ⟨[.int .i64 x38735], _, rfl, rfl, rfl⟩, ⟨_, rfl, r38978⟩⟩, rdL.nil⟩) ha38982a)) rfl rfl ?_
              rintro v38983 wd38986 ⟨H, hc38985⟩
              dsimp only [List.set] at H
              refine H.okF <| dq rfl (fun _ _ => Q_assign rfl) rfl rfl <| DL_nil ?_
              replace H := H.e4.e1.e0
              obtain rfl := Option.some.inj ho38936
              refine x_A fun a hf => ⟨ρ, v38983, (c37929 ++ ([.int .i64 x38735, .int .i64 x38736, v38973])), x38981, lw38977, rfl, r38984, hf.sub ⟨rfl, rfl, rfl, rfl, rfl, rfl, rfl, trivial⟩, H⟩
            ·rintro a wd38987 ⟨ρ, v38932, c38933, x38934, lw38988, rfl, r38935, hf, H⟩
             try dsimp only at ho38867
             replace r35783 := RdSl.up lw38988 r35783
             replace r3 := RdSl.up lw38988 r3
             replace r6 := RdSl.up lw38988 r6
             replace r9 := RdSl.up lw38988 r9
             replace r12 := RdSl.up lw38988 r12
             replace r15 := RdSl.up lw38988 r15
             replace r18 := RdSl.up lw38988 r18
             replace gle := GErrs.up lw38988 gle
             refine XX.at hf ?_
             obtain rfl := Option.some.inj ho38867
             refine x_A fun a hf => ⟨ρ, v38932, c38933, x38934, (mset (mset x37933 (x38735, x38736) ((mget x37933 (x38735, x38736)).getD 0)) (x38735, x38736) (w64 (((mget x37933 (x38735, x38736)).getD 0) + 1))), lw38988, rfl, r38935, hf.sub ⟨rfl, rfl, rfl, rfl, rfl, rfl, rfl, trivial⟩, H⟩
          ·replace ho38867 := itF hb ho38867
           refine C_skip ?_
           replace H := H.e0
           obtain rfl := Option.some.inj ho38867
           refine x_A fun a hf => ⟨ρ, v37928, c37929, x37930, x37933, (View.le_refl _), rfl, r37931, hf.sub ⟨rfl, rfl, rfl, rfl, rfl, rfl, rfl, trivial⟩, H⟩
         ·rintro a wd38989 ⟨ρ, v38862, c38863, x38864, x38866, lw38990, rfl, r38865, hf, H⟩
          try dsimp only at ho38732
          replace r35783 := RdSl.up lw38990 r35783
          replace r3 := RdSl.up lw38990 r3
          replace r6 := RdSl.up lw38990 r6
          replace r9 := RdSl.up lw38990 r9
          replace r12 := RdSl.up lw38990 r12
          replace r15 := RdSl.up lw38990 r15
          replace r18 := RdSl.up lw38990 r18
          replace gle := GErrs.up lw38990 gle
          refine XX.at hf <| x_block ?_
          obtain rfl := Option.some.inj ho38732
          refine x_A fun a hf => ⟨ρ, v38862, c38863, x38864, x38866, lw38990, rfl, r38865, hf.sub ⟨rfl, rfl, rfl, rfl, rfl, rfl, rfl, trivial⟩, H⟩
        ·rintro a wd38991 ⟨ρ, v38727, c38728, x38729, x38731, lw38992, rfl, r38730, hf, H⟩
         try dsimp only at hB38465
         replace r35783 := RdSl.up lw38992 r35783
         replace r3 := RdSl.up lw38992 r3
         replace r6 := RdSl.up lw38992 r6
         replace r9 := RdSl.up lw38992 r9
         replace r12 := RdSl.up lw38992 r12
         replace r15 := RdSl.up lw38992 r15
         replace r18 := RdSl.up lw38992 r18
         replace gle := GErrs.up lw38992 gle
         refine CW.at hf <| R_nd <| nq (Q_add rfl rfl) rfl rfl <| nq (Q_move rfl) rfl rfl <| WL_nil ?_
         obtain rfl := Option.some.inj hB38465
         refine x_A fun a hf => ⟨_, rfl, ρ, v38727, c38728, x38729, w64 (x37932 + 1), x38731, (View.le_trans lw38468 lw38992), rfl, r38730, hf.sub ⟨rfl, rfl, rfl, rfl, rfl, rfl, rfl, trivial⟩, H⟩
       ·replace hB38465 := itF hb hB38465
        refine C_exit <| x_then_exit <| x_then_exit <| x_block_exit ?_
        replace H := H.e1
        obtain rfl := Option.some.inj hB38465
        obtain rfl := hO38466 _ rfl
        refine x_A fun a hf => ⟨ρ, v37928, c37929, x37930, x37933, lw38468, rfl, r37931, hf.sub ⟨rfl, rfl, rfl, rfl, rfl, trivial⟩, H⟩
     ·rintro a wd38993 ⟨ρ, v37392, c37393, x37394, x37396, lw38994, rfl, r37395, hf, H⟩
      try dsimp only at hB35760
      replace r3 := RdSl.up lw38994 r3
      replace r6 := RdSl.up lw38994 r6
      replace r9 := RdSl.up lw38994 r9
      replace r12 := RdSl.up lw38994 r12
      replace r15 := RdSl.up lw38994 r15
      replace r18 := RdSl.up lw38994 r18
      replace gle := GErrs.up lw38994 gle
      refine XX.at hf <| x_block <| x_then <| R_nd <| nq (Q_move rfl) rfl rfl ?_
      obtain ⟨x38995, hx38995, hB35760⟩ := bnd hB35760
      obtain ⟨v38997, c39000, H, r38998, hq39001⟩ := sliceW (P := Tryz.prog) (en := (eP (eP (eI .i64) (eI .i64)) (eL (eI .u8)))) (k := 0) H rfl (by decide) r37395 hx38995
      dsimp only [List.set] at H
      replace H : Hp C _ ρ (Arr v38997 3 c39000 :: Box b19516 [v1, v4, v7, v10, v13, v16] :: Box b19518 [.int .i64 0, .int .i64 0, .slice none 0 0] :: Mp (kP2 .i64) (Value.int .i64) b19528 x37396 :: hs) := H
      refine nq (v := v38997) (hq39001 _ _ _ _ _ _ _ _ _ _ _ _ _ _ _ Tryz.underlying223 ty166 rfl ⟨_, rfl⟩ rfl) rfl rfl <| nq (Q_assign rfl) rfl rfl <| WL_nil ?_
      obtain rfl := Option.some.inj hB35760
      refine x_A fun a hf => ⟨_, rfl, ρ, v38997, c39000, x38995, x37396, (View.le_trans lw35763 lw38994), rfl, r38998, hf.sub ⟨rfl, rfl, rfl, rfl, rfl, trivial⟩, H⟩
   ·replace hB35760 := itF hb hB35760
    refine C_exit <| x_then_exit <| x_then_exit <| x_block_exit ?_
    replace H := H.e3.e1.e0
    obtain rfl := Option.some.inj hB35760
    obtain rfl := hO35761 _ rfl
    refine x_A fun a hf => ⟨ρ, lw35763, rfl, hf.sub ⟨rfl, trivial⟩, H⟩
 ·rintro a wd39002 ⟨ρ, lw39003, rfl, hf, H⟩
  try dsimp only at hF
  replace gle := GErrs.up lw39003 gle
  refine XX.at hf <| x_then <| C_seq <| R_nd <| nq (v := .agg #[.int .i64 0, .int .i64 0, .slice none 0 0]) (Q_buildS st166.choose_spec (ps := []) rfl trivial rfl) rfl rfl <| ne (E_stB (k := 0) (cs := [.int .i64 0, .int .i64 0, .slice none 0 0]) (vs' := [.int .i64 0, .int .i64 0, .slice none 0 0]) H rfl ty166 rfl rfl rfl rfl (one_cons rfl (one_cons rfl (one_cons rfl one_nil))) (by simp) rfl) rfl rfl ?_
  rintro _ wd39004 H
  dsimp only [List.set] at H
  refine nq (Q_assign rfl) rfl rfl <| WL_nil <| x_then <| C_ret ?_
  have H := H.nilArr 1
  have hRV : RV Tryz.prog wd39004 [(6, .pointer (some ⟨b19518, 0, none⟩)), (7, .bool false)] [.cell 6 166, .tmp 7] [.agg #[.int .i64 0, .int .i64 0, (.slice none 0 0)], .bool false] := ⟨⟨_, rfl, run_ldv ty166 rfl (fun h => nomatch h) (box_at (H.ok.get (k := 1) rfl) 0 3)⟩, rfl, trivial⟩
  replace H := H.e1
  obtain rfl := Option.some.inj hF
  exact fn_retV (rs := [.cell 6 166, .tmp 7]) (vs := [.agg #[.int .i64 0, .int .i64 0, (.slice none 0 0)], .bool false]) rfl hRV (.inr ⟨ρ, rfl, rfl, lw39003, H⟩)
theorem c_67 {N : Nat} {C : Cx} {w : World} {ρ : View} {hs : List Hl} {gV : Nat → Value} {v1 : Value} {v4 : Value} {v7 : Value} {v10 : Value} {v13 : Value} {v16 : Value} {x2 : (List (List Int))} {x5 : (List Int)} {x8 : (List Int)} {x11 : (List (List Int))} {x14 : (List Int)} {x17 : (List Int)} {x19 : Int} (H : Hp C w ρ (hs)) (gle : GErrs ρ 394 errIds gV) (r3 : RdSl ρ (eA 256 (eI .i64)) v1 x2) (r6 : RdSl ρ (eI .i64) v4 x5) (r9 : RdSl ρ (eI .i64) v7 x8) (r12 : RdSl ρ (eA 256 (eI .i64)) v10 x11) (r15 : RdSl ρ (eI .i64) v13 x14) (r18 : RdSl ρ (eI .i64) v16 x17) {r : (Unit ⊕ (List Int))} (hF : F_product_Clash N x2 x5 x8 x11 x14 x17 x19 = some r) :
  Calls Tryz.prog 67 [.agg #[v1, v4, v7], .agg #[v10, v13, v16], .int .i64 x19].toArray w (Rets (fun v w' => (∃ (ρ' : View), .inl () = r ∧ .tuple [(.slice none 0 0), .bool false].toArray = v ∧ View.le ρ ρ' ∧ Hp C w' ρ' (Arr (.slice none 0 0) 1 ([]) :: hs)) ∨ (∃ (ρ' : View) (v47 : Value) (x48 : (List Int)), .inr x48 = r ∧ .tuple [v47, .bool true].toArray = v ∧ View.le ρ ρ' ∧ RdSl ρ' (eI .u8) v47 x48 ∧ Hp C w' ρ' (hs)))) := by
 unfold F_product_Clash at hF
 have h0 : Tryz.f67.body = some _ := rfl
 refine fn_calls' Tryz.func67 h0 (n := 26) rfl (by simp) <| C_seq <| R_nd <| ne (E_box H (vs := [v1, v4, v7]) rfl rfl) rfl rfl ?_
 rintro _ wd51 ⟨b50, rfl, H⟩
 refine ne (E_box H (vs := [v10, v13, v16]) rfl rfl) rfl rfl ?_
 rintro _ wd53 ⟨b52, rfl, H⟩
 refine nq (Q_assign rfl) rfl rfl <| nq (Q_assign rfl) rfl rfl <| WL_nil <| x_then <| C_seq <| R_nd <| nq (v := .agg #[v1, v4, v7]) (Q_ldB (k := 1) (cs := [v1, v4, v7]) H.ok rfl ty78 rfl rfl rfl (fun h => nomatch h) rfl) rfl rfl <| nq (v := .agg #[v10, v13, v16]) (Q_ldB (k := 0) (cs := [v10, v13, v16]) H.ok rfl ty78 rfl rfl rfl (fun h => nomatch h) rfl) rfl rfl <| nq (v := .agg #[v1, v4, v7, v10, v13, v16]) (Q_buildS st162.choose_spec (ps := [(0, [v1, v4, v7]), (3, [v10, v13, v16])]) rfl ⟨rfl, rfl, by simp, ⟨rfl, rfl, by simp, trivial⟩⟩ rfl) rfl rfl <| ne (E_alloc H ty162 (zs := [.slice none 0 0, .slice none 0 0, .slice none 0 0, .slice none 0 0, .slice none 0 0, .slice none 0 0]) rfl) rfl rfl ?_
 rintro _ wd55 ⟨b54, rfl, H⟩
 refine ne (E_stB (k := 0) (cs := [v1, v4, v7, v10, v13, v16]) (vs' := [v1, v4, v7, v10, v13, v16]) H rfl ty162 rfl rfl rfl rfl (one_cons (RdSl.one r3) (one_cons (RdSl.one r6) (one_cons (RdSl.one r9) (one_cons (RdSl.one r12) (one_cons (RdSl.one r15) (one_cons (RdSl.one r18) one_nil)))))) (by simp) rfl) rfl rfl ?_
 rintro _ wd56 H
 dsimp only [List.set] at H
 refine WL_nil <| x_then <| C_seq <| C_seq <| R_nd <| nq (v := .agg #[v1, v4, v7, v10, v13, v16]) (Q_ldB (k := 0) (cs := [v1, v4, v7, v10, v13, v16]) H.ok rfl ty162 rfl rfl rfl (fun h => nomatch h) rfl) rfl rfl ?_
 obtain ⟨q57, hq57, hF⟩ := bnd hF
 refine ne (E_call fn100 rfl (c_100 H gle  r3 r6 r9 r12 r15 r18 hq57)) rfl rfl ?_
 rintro _ wd60 ⟨x59, rfl, rfl, H⟩
 try dsimp only at hF
 refine nq (Q_not rfl) rfl rfl <| WL_nil <| x_then ?_
 refine C_cond rfl (fun hb => ?_) (fun hb => ?_)
 ·replace hF := itT hb hF
  refine C_seq <| R_nd <| nq (Q_assign rfl) rfl rfl <| nq (Q_assign rfl) rfl rfl <| WL_nil <| x_then <| C_ret <| x_then_ret ?_
  have H := H.nilArr 1
  replace H := H.e3.e2.e1
  obtain rfl := Option.some.inj hF
  exact fn_ret (l := [.tmp 6, .tmp 7]) (vs := [(.slice none 0 0), .bool false]) rfl rfl rfl (.inl ⟨ρ, rfl, rfl, (View.le_refl _), H⟩)
 ·replace hF := itF hb hF
  refine C_skip <| x_then <| C_seq <| R_nd <| nq (v := .agg #[v1, v4, v7, v10, v13, v16]) (Q_ldB (k := 0) (cs := [v1, v4, v7, v10, v13, v16]) H.ok rfl ty162 rfl rfl rfl (fun h => nomatch h) rfl) rfl rfl <| nq (Q_move rfl) rfl rfl ?_
  obtain ⟨q61, hq61, hF⟩ := bnd hF
  refine ne (E_call fn101 rfl (c_101_1 H gle  r3 r6 r9 r12 r15 r18 hq61)) rfl rfl ?_
  rintro _ wd70 (⟨ρ, v63, x64, x65, x66, rfl, rfl, lw67, r68, H⟩ | ⟨ρ, rfl, rfl, lw69, H⟩)
  ·try dsimp only at hF
   replace r3 := RdSl.up lw67 r3
   replace r6 := RdSl.up lw67 r6
   replace r9 := RdSl.up lw67 r9
   replace r12 := RdSl.up lw67 r12
   replace r15 := RdSl.up lw67 r15
   replace r18 := RdSl.up lw67 r18
   replace gle := GErrs.up lw67 gle
   refine nq (Q_move rfl) rfl rfl <| nq (Q_extract rfl rfl) rfl rfl <| nq (Q_extract rfl rfl) rfl rfl <| ne (E_alloc H ty166 (zs := [.int .i64 0, .int .i64 0, .slice none 0 0]) rfl) rfl rfl ?_
   rintro _ wd72 ⟨b71, rfl, H⟩
   refine ne (E_stB (k := 0) (cs := [.int .i64 x64, .int .i64 x65, v63]) (vs' := [.int .i64 x64, .int .i64 x65, v63]) H rfl ty166 rfl rfl rfl rfl (one_cons rfl (one_cons rfl (one_cons (RdSl.one r68) one_nil))) (by simp) rfl) rfl rfl ?_
   rintro _ wd73 H
   dsimp only [List.set] at H
   refine nq (Q_assign rfl) rfl rfl <| WL_nil <| x_then <| C_seq <| R_nd <| nq (v := .pointer (some ⟨b71, 2, none⟩)) (Q_fld Tryz.underlying166 rfl ty42 (by decide) rfl rfl) rfl rfl <| nq (v := v63) (Q_ldB (k := 0) (cs := [v63]) H.ok rfl ty42 rfl rfl rfl (fun _ => rfl) rfl) rfl rfl <| nq (Q_move rfl) rfl rfl <| nq (Q_assign rfl) rfl rfl <| nq (Q_assign rfl) rfl rfl <| WL_nil <| x_then <| C_ret ?_
   replace H := H.e3.e2.e1.e0
   obtain rfl := Option.some.inj hF
   exact fn_ret (l := [.tmp 6, .tmp 7]) (vs := [v63, .bool true]) rfl rfl rfl (.inr ⟨ρ, v63, x66, rfl, rfl, lw67, r68, H⟩)
  ·try dsimp only at hF
   replace r3 := RdSl.up lw69 r3
   replace r6 := RdSl.up lw69 r6
   replace r9 := RdSl.up lw69 r9
   replace r12 := RdSl.up lw69 r12
   replace r15 := RdSl.up lw69 r15
   replace r18 := RdSl.up lw69 r18
   replace gle := GErrs.up lw69 gle
   refine nq (Q_move rfl) rfl rfl <| nq (Q_extract rfl rfl) rfl rfl <| nq (Q_extract rfl rfl) rfl rfl <| ne (E_alloc H ty166 (zs := [.int .i64 0, .int .i64 0, .slice none 0 0]) rfl) rfl rfl ?_
   rintro _ wd75 ⟨b74, rfl, H⟩
   refine ne (E_stB (k := 0) (cs := [.int .i64 0, .int .i64 0, (.slice none 0 0)]) (vs' := [.int .i64 0, .int .i64 0, (.slice none 0 0)]) H rfl ty166 rfl rfl rfl rfl (one_cons rfl (one_cons rfl (one_cons (arr_cells (H.ok.get (k := 1) rfl)).2 one_nil))) (by simp) rfl) rfl rfl ?_
   rintro _ wd76 H
   dsimp only [List.set] at H
   refine nq (Q_assign rfl) rfl rfl <| WL_nil <| x_then <| C_seq <| R_nd <| nq (v := .pointer (some ⟨b74, 2, none⟩)) (Q_fld Tryz.underlying166 rfl ty42 (by decide) rfl rfl) rfl rfl <| nq (v := (.slice none 0 0)) (Q_ldB (k := 0) (cs := [(.slice none 0 0)]) H.ok rfl ty42 rfl rfl rfl (fun _ => rfl) rfl) rfl rfl <| nq (Q_move rfl) rfl rfl <| nq (Q_assign rfl) rfl rfl <| nq (Q_assign rfl) rfl rfl <| WL_nil <| x_then <| C_ret ?_
   replace H := H.e4.e3.e2.e0
   obtain rfl := Option.some.inj hF
   exact fn_ret (l := [.tmp 6, .tmp 7]) (vs := [(.slice none 0 0), .bool false]) rfl rfl rfl (.inl ⟨ρ, rfl, rfl, lw69, H⟩)
end Go.Proofs.YtealkahefalaeaaGreatDoor
