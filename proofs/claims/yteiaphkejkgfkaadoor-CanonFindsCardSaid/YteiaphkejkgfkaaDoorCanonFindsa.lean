/-
  The walks of the law CanonFinds, printed by my program, part 1: each function of the code computes its pure function.
-/
import Derived.Test.YteiaphkejkgfkaaDoorAlD
import Derived.Test.YteiaphkejkgfkaaDoorProg
namespace Go.Proofs.YteiaphkejkgfkaaDoor
open Go Go.Eng
set_option maxRecDepth 100000
theorem ty3 : Ty Tryd.prog 3 1 8 (.int .i64 0) false := ⟨by kernel_rfl, by kernel_rfl⟩
theorem ty5 : Ty Tryd.prog 5 1 1 (.int .u8 0) false := ⟨by kernel_rfl, by kernel_rfl⟩
theorem ty22 : Ty Tryd.prog 22 1 24 (.slice none 0 0) false := ⟨by kernel_rfl, by kernel_rfl⟩
theorem ty23 : Ty Tryd.prog 23 1 24 (.slice none 0 0) false := ⟨by kernel_rfl, by kernel_rfl⟩
theorem ty25 : Ty Tryd.prog 25 3 72 (.agg ([.slice none 0 0, .slice none 0 0, .slice none 0 0]).toArray) true := ⟨by kernel_rfl, by kernel_rfl⟩
theorem ty58 : Ty Tryd.prog 58 256 2048 (.agg (repC 256 [.int .i64 0]).toArray) true := ⟨by kernel_rfl, by kernel_rfl⟩
theorem ty61 : Ty Tryd.prog 61 1 8 (.pointer none) false := ⟨by kernel_rfl, by kernel_rfl⟩
theorem ty63 : Ty Tryd.prog 63 1 16 .nilIface false := ⟨by kernel_rfl, by kernel_rfl⟩
theorem ty92 : Ty Tryd.prog 92 1 24 (.slice none 0 0) false := ⟨by kernel_rfl, by kernel_rfl⟩
theorem ty94 : Ty Tryd.prog 94 2 32 (.agg ([.slice none 0 0, .int .i64 0]).toArray) true := ⟨by kernel_rfl, by kernel_rfl⟩
theorem ty95 : Ty Tryd.prog 95 1 8 (.int .u64 0) false := ⟨by kernel_rfl, by kernel_rfl⟩
theorem st25 : ∃ fs, St Tryd.prog 25 fs [(0, 1), (1, 1), (2, 1)] [.slice none 0 0, .slice none 0 0, .slice none 0 0] := ⟨_, Tryd.underlying25, by kernel_rfl, _, _, _, _, ty25, rfl⟩
theorem st94 : ∃ fs, St Tryd.prog 94 fs [(0, 1), (1, 1)] [.slice none 0 0, .int .i64 0] := ⟨_, Tryd.underlying94, by kernel_rfl, _, _, _, _, ty94, rfl⟩
theorem fn14 : HasFn Tryd.prog 14 := ⟨_, _, Tryd.func14, by kernel_rfl, rfl⟩
theorem fn16 : HasFn Tryd.prog 16 := ⟨_, _, Tryd.func16, by kernel_rfl, rfl⟩
theorem fn18 : HasFn Tryd.prog 18 := ⟨_, _, Tryd.func18, by kernel_rfl, rfl⟩
theorem fn19 : HasFn Tryd.prog 19 := ⟨_, _, Tryd.func19, by kernel_rfl, rfl⟩
theorem fn22 : HasFn Tryd.prog 22 := ⟨_, _, Tryd.func22, by kernel_rfl, rfl⟩
theorem fn26 : HasFn Tryd.prog 26 := ⟨_, _, Tryd.func26, by kernel_rfl, rfl⟩
theorem fn27 : HasFn Tryd.prog 27 := ⟨_, _, Tryd.func27, by kernel_rfl, rfl⟩
theorem fn50 : HasFn Tryd.prog 50 := ⟨_, _, Tryd.func50, by kernel_rfl, rfl⟩
theorem fn51 : HasFn Tryd.prog 51 := ⟨_, _, Tryd.func51, by kernel_rfl, rfl⟩
theorem fn52 : HasFn Tryd.prog 52 := ⟨_, _, Tryd.func52, by kernel_rfl, rfl⟩
theorem fn53 : HasFn Tryd.prog 53 := ⟨_, _, Tryd.func53, by kernel_rfl, rfl⟩
theorem fn57 : HasFn Tryd.prog 57 := ⟨_, _, Tryd.func57, by kernel_rfl, rfl⟩
theorem fn58 : HasFn Tryd.prog 58 := ⟨_, _, Tryd.func58, by kernel_rfl, rfl⟩
theorem fn59 : HasFn Tryd.prog 59 := ⟨_, _, Tryd.func59, by kernel_rfl, rfl⟩
theorem fn60 : HasFn Tryd.prog 60 := ⟨_, _, Tryd.func60, by kernel_rfl, rfl⟩
theorem fn61 : HasFn Tryd.prog 61 := ⟨_, _, Tryd.func61, by kernel_rfl, rfl⟩
theorem fn75 : HasFn Tryd.prog 75 := ⟨_, _, Tryd.func75, by kernel_rfl, rfl⟩
theorem fn76 : HasFn Tryd.prog 76 := ⟨_, _, Tryd.func76, by kernel_rfl, rfl⟩
theorem fn77 : HasFn Tryd.prog 77 := ⟨_, _, Tryd.func77, by kernel_rfl, rfl⟩
theorem fn78 : HasFn Tryd.prog 78 := ⟨_, _, Tryd.func78, by kernel_rfl, rfl⟩
theorem fn80 : HasFn Tryd.prog 80 := ⟨_, _, Tryd.func80, by kernel_rfl, rfl⟩
theorem fn87 : HasFn Tryd.prog 87 := ⟨_, _, Tryd.func87, by kernel_rfl, rfl⟩
theorem c_57 {N : Nat} {C : Cx} {w : World} {ρ : View} {hs : List Hl} {b2 : Nat} {x1 : Int} {x3 : Int} (H : Hp C w ρ (Box b2 [.int .i64 x3] :: hs)) {r : Bool} (hF : F_subset_Right_1 N x1 x3 = some r) :
    Calls Tryd.prog 57 [.int .i64 x1, .pointer (some ⟨b2, 0, none⟩)].toArray w (Rets (fun v w' => (∃ (x7 : Bool), x7 = r ∧ .bool x7 = v ∧ Hp C w' ρ (Box b2 [.int .i64 x3] :: hs)))) := by
  unfold F_subset_Right_1 at hF
  have h0 : Tryd.f57.body = some _ := rfl
  refine fn_calls' Tryd.func57 h0 (n := 11) rfl (by simp) <| C_seq <| R_nd <| nq (Q_assign rfl) rfl rfl <| WL_nil <| x_then ?_
  obtain ⟨o9, ho9, hF⟩ := bnd hF
  refine C_cut (fun a w' => ∃ (x8 : Bool), x8 = o9 ∧ Fr 11 a [(3, .bool x8)] ∧ Hp C w' ρ (Box b2 [.int .i64 x3] :: hs)) ?_ ?_
  · refine R_nd <| nq (Q_move rfl) rfl rfl <| nq (Q_lss rfl rfl) rfl rfl <| nq (Q_move rfl) rfl rfl ?_
    rcases Bool.eq_false_or_eq_true (decide (x1 < 0)) with hb | hb
    · rw [hb]
      replace ho9 := itT hb ho9
      refine gs rfl rfl rfl rfl <| gs rfl rfl rfl rfl <| gs rfl rfl rfl rfl <| nq (Q_pickT rfl rfl) rfl rfl <| nq (Q_assign rfl) rfl rfl <| WL_nil ?_
      obtain rfl := Option.some.inj ho9
      refine x_A fun a hf => ⟨true, rfl, hf.sub ⟨rfl, trivial⟩, H⟩
    · rw [hb]
      replace ho9 := itF hb ho9
      refine gq (Q_move rfl) rfl rfl rfl <| gq (v := .int .i64 x3) (Q_ldB (k := 0) (cs := [.int .i64 x3]) H.ok rfl ty3 rfl rfl rfl (fun _ => rfl) rfl) rfl rfl rfl <| gq (Q_geq rfl rfl) rfl rfl rfl <| nq (Q_pickF rfl rfl) rfl rfl <| nq (Q_assign rfl) rfl rfl <| WL_nil ?_
      obtain rfl := Option.some.inj ho9
      refine x_A fun a hf => ⟨decide (x1 ≥ x3), rfl, hf.sub ⟨rfl, trivial⟩, H⟩
  · rintro a wd10 ⟨x8, rfl, hf, H⟩
    try dsimp only at hF
    refine CW.at hf <| C_ret ?_
    obtain rfl := Option.some.inj hF
    exact fn_ret (l := [.tmp 3]) (vs := [.bool x8]) rfl rfl rfl ⟨x8, rfl, rfl, H⟩
theorem c_80 {N : Nat} {C : Cx} {w : World} {ρ : View} {hs : List Hl} {v1 : Value} {b4 : Nat} {x2 : (List Int)} {x5 : Int} (H : Hp C w ρ (Box b4 [.int .i64 x5] :: hs)) (r3 : RdSl ρ (eI .i64) v1 x2) {r : Int} (hF : F_slices_IndexFunc_int_int N x2 x5 = some r) :
    Calls Tryd.prog 80 [v1, .func (.func 57) #[] [.pointer (some ⟨b4, 0, none⟩)].toArray].toArray w (Rets (fun v w' => (∃ (x88 : Int), x88 = r ∧ .int .i64 x88 = v ∧ Hp C w' ρ (Box b4 [.int .i64 x5] :: hs)))) := by
  unfold F_slices_IndexFunc_int_int at hF
  have h0 : Tryd.f80.body = some _ := rfl
  refine fn_calls' Tryd.func80 h0 (n := 19) rfl (by simp) <| C_seq <| R_nd <| nq (Q_assign rfl) rfl rfl <| WL_nil <| x_then <| C_seq <| C_seq <| R_nd <| nq (Q_move rfl) rfl rfl <| nq (Q_len Tryd.underlying23 rfl r3) rfl rfl <| nq (Q_move rfl) rfl rfl <| WL_nil <| x_then ?_
  obtain ⟨o129, ho129, hF⟩ := bnd hF
  refine C_cutQ (fun a w' => .inl () = o129 ∧ Fr 19 a [] ∧ Hp C w' ρ (Box b4 [.int .i64 x5] :: hs)) ?_ ?_
  · refine C_block ?_
    refine C_iter (f := fun s => F_slices_IndexFunc_int_int_l0 N x2 x5 s) ho129 (fun s a w' => ∃ (x142 : Int), x142 = s ∧ Fr 19 a [(0, v1), (1, .func (.func 57) #[] [.pointer (some ⟨b4, 0, none⟩)].toArray), (7, .int .i64 (x2.length : Int)), (8, .int .i64 x142)] ∧ Hp C w' ρ (Box b4 [.int .i64 x5] :: hs)) ?_ ?_
    · exact fun a hf => ⟨0, rfl, hf.sub ⟨rfl, rfl, rfl, rfl, trivial⟩, H⟩
    · rintro s o155 a wd158 ⟨x142, rfl, hf, H⟩ hB156 hO157
      replace hB156 : F_slices_IndexFunc_int_int_l0 N x2 x5 x142 = some o155 := hB156
      unfold F_slices_IndexFunc_int_int_l0 at hB156
      refine CW.at hf <| C_seq <| R_nd <| nq (Q_lss rfl rfl) rfl rfl <| WL_nil <| x_then <| C_seq ?_
      refine C_cond rfl (fun hb => ?_) (fun hb => ?_)
      · replace hB156 := itT hb hB156
        refine C_skip <| x_then <| C_seq <| C_block <| C_seq <| R_nd <| nq (Q_move rfl) rfl rfl <| nq (Q_assign rfl) rfl rfl <| WL_nil <| x_then <| C_seq <| R_nd <| nq (Q_move rfl) rfl rfl <| nq (Q_move rfl) rfl rfl ?_
        refine nq (Q_move rfl) rfl rfl ?_
        obtain ⟨x159, hx159, hB156⟩ := bnd hB156
        obtain ⟨b160, o161, c162, hc163, ha164, hi165⟩ := idxR r3 hx159
        refine nq (Q_idx hi165 Tryd.underlying23 ty3 rfl rfl) rfl rfl <| nq (v := .int .i64 x159) (Q_ld (show cellsAt _ _ _ [.int .i64 x159] from (show _ = [_] from hc163) ▸ (ha164.up H.ok.view)) ty3 rfl (fun _ => rfl) rfl rfl) rfl rfl ?_
        obtain ⟨q166, hq166, hB156⟩ := bnd hB156
        refine ne (E_callV fn57 rfl rfl (c_57 H   hq166)) rfl rfl ?_
        rintro _ wd169 ⟨x168, rfl, rfl, H⟩
        try dsimp only at hB156
        refine WL_nil <| x_then ?_
        refine C_cond rfl (fun hb => ?_) (fun hb => ?_)
        · replace hB156 := itT hb hB156
          refine C_seq <| R_nd <| nq (Q_move rfl) rfl rfl <| nq (Q_assign rfl) rfl rfl <| WL_nil <| x_then <| C_ret <| x_block_ret <| x_then_ret <| x_then_ret <| x_block_ret <| x_then_ret <| x_then_ret ?_
          obtain rfl := Option.some.inj hB156
          obtain rfl := hO157 _ rfl
          obtain rfl := Option.some.inj (show some _ = some _ from hF)
          exact fn_ret (l := [.tmp 4]) (vs := [.int .i64 x142]) rfl rfl rfl ⟨x142, rfl, rfl, H⟩
        · replace hB156 := itF hb hB156
          refine C_skip <| x_block <| x_then <| R_nd <| nq (Q_add rfl rfl) rfl rfl <| nq (Q_move rfl) rfl rfl <| WL_nil ?_
          obtain rfl := Option.some.inj hB156
          refine x_A fun a hf => ⟨_, rfl, w64 (x142 + 1), rfl, hf.sub ⟨rfl, rfl, rfl, rfl, trivial⟩, H⟩
      · replace hB156 := itF hb hB156
        refine C_exit <| x_then_exit <| x_then_exit <| x_block_exit ?_
        obtain rfl := Option.some.inj hB156
        obtain rfl := hO157 _ rfl
        refine x_A fun a hf => ⟨rfl, hf.sub trivial, H⟩
  · rintro a wd170 ⟨rfl, hf, H⟩
    try dsimp only at hF
    refine XX.at hf <| x_then <| C_seq <| R_nd <| nq (Q_assign rfl) rfl rfl <| WL_nil <| x_then <| C_ret ?_
    obtain rfl := Option.some.inj hF
    exact fn_ret (l := [.tmp 4]) (vs := [.int .i64 (-1)]) rfl rfl rfl ⟨(-1), rfl, rfl, H⟩
theorem c_58 {N : Nat} {C : Cx} {w : World} {ρ : View} {hs : List Hl} {v1 : Value} {b4 : Nat} {x2 : (List Int)} {x5 : Int} (H : Hp C w ρ (Box b4 [.int .i64 x5] :: hs)) (r3 : RdSl ρ (eI .i64) v1 x2) {r : Bool} (hF : F_slices_ContainsFunc_int_int N x2 x5 = some r) :
    Calls Tryd.prog 58 [v1, .func (.func 57) #[] [.pointer (some ⟨b4, 0, none⟩)].toArray].toArray w (Rets (fun v w' => (∃ (x10 : Bool), x10 = r ∧ .bool x10 = v ∧ Hp C w' ρ (Box b4 [.int .i64 x5] :: hs)))) := by
  unfold F_slices_ContainsFunc_int_int at hF
  have h0 : Tryd.f58.body = some _ := rfl
  refine fn_calls' Tryd.func58 h0 (n := 9) rfl (by simp) <| C_seq <| R_nd <| nq (Q_assign rfl) rfl rfl <| WL_nil <| x_then <| C_seq <| R_nd <| nq (Q_move rfl) rfl rfl <| nq (Q_move rfl) rfl rfl ?_
  obtain ⟨q11, hq11, hF⟩ := bnd hF
  refine ne (E_call fn80 rfl (c_80 H  r3 hq11)) rfl rfl ?_
  rintro _ wd14 ⟨x13, rfl, rfl, H⟩
  try dsimp only at hF
  refine nq (Q_geq rfl rfl) rfl rfl <| nq (Q_assign rfl) rfl rfl <| WL_nil <| x_then <| C_ret ?_
  obtain rfl := Option.some.inj hF
  exact fn_ret (l := [.tmp 4]) (vs := [.bool (decide (x13 ≥ 0))]) rfl rfl rfl ⟨decide (x13 ≥ 0), rfl, rfl, H⟩
theorem c_59 {N : Nat} {C : Cx} {w : World} {ρ : View} {hs : List Hl} {x1 : Int} (H : Hp C w ρ (hs)) {r : Bool} (hF : F_subset_Right_2 N x1 = some r) :
    Calls Tryd.prog 59 [.int .i64 x1].toArray w (Rets (fun v w' => (∃ (x5 : Bool), x5 = r ∧ .bool x5 = v ∧ Hp C w' ρ (hs)))) := by
  unfold F_subset_Right_2 at hF
  have h0 : Tryd.f59.body = some _ := rfl
  refine fn_calls' Tryd.func59 h0 (n := 9) rfl (by simp) <| C_seq <| R_nd <| nq (Q_assign rfl) rfl rfl <| WL_nil <| x_then ?_
  obtain ⟨o7, ho7, hF⟩ := bnd hF
  refine C_cut (fun a w' => ∃ (x6 : Bool), x6 = o7 ∧ Fr 9 a [(2, .bool x6)] ∧ Hp C w' ρ (hs)) ?_ ?_
  · refine R_nd <| nq (Q_move rfl) rfl rfl <| nq (Q_lss rfl rfl) rfl rfl <| nq (Q_move rfl) rfl rfl ?_
    rcases Bool.eq_false_or_eq_true (decide (x1 < (-1))) with hb | hb
    · rw [hb]
      replace ho7 := itT hb ho7
      refine gs rfl rfl rfl rfl <| gs rfl rfl rfl rfl <| nq (Q_pickT rfl rfl) rfl rfl <| nq (Q_assign rfl) rfl rfl <| WL_nil ?_
      obtain rfl := Option.some.inj ho7
      refine x_A fun a hf => ⟨true, rfl, hf.sub ⟨rfl, trivial⟩, H⟩
    · rw [hb]
      replace ho7 := itF hb ho7
      refine gq (Q_move rfl) rfl rfl rfl <| gq (Q_geq rfl rfl) rfl rfl rfl <| nq (Q_pickF rfl rfl) rfl rfl <| nq (Q_assign rfl) rfl rfl <| WL_nil ?_
      obtain rfl := Option.some.inj ho7
      refine x_A fun a hf => ⟨decide (x1 ≥ 48), rfl, hf.sub ⟨rfl, trivial⟩, H⟩
  · rintro a wd8 ⟨x6, rfl, hf, H⟩
    try dsimp only at hF
    refine CW.at hf <| C_ret ?_
    obtain rfl := Option.some.inj hF
    exact fn_ret (l := [.tmp 2]) (vs := [.bool x6]) rfl rfl rfl ⟨x6, rfl, rfl, H⟩
theorem c_80_1 {N : Nat} {C : Cx} {w : World} {ρ : View} {hs : List Hl} {v1 : Value} {x2 : (List Int)} (H : Hp C w ρ (hs)) (r3 : RdSl ρ (eI .i64) v1 x2) {r : Int} (hF : F_slices_IndexFunc_int_int_1 N x2 = some r) :
    Calls Tryd.prog 80 [v1, .func (.func 59) #[] [].toArray].toArray w (Rets (fun v w' => (∃ (x86 : Int), x86 = r ∧ .int .i64 x86 = v ∧ Hp C w' ρ (hs)))) := by
  unfold F_slices_IndexFunc_int_int_1 at hF
  have h0 : Tryd.f80.body = some _ := rfl
  refine fn_calls' Tryd.func80 h0 (n := 19) rfl (by simp) <| C_seq <| R_nd <| nq (Q_assign rfl) rfl rfl <| WL_nil <| x_then <| C_seq <| C_seq <| R_nd <| nq (Q_move rfl) rfl rfl <| nq (Q_len Tryd.underlying23 rfl r3) rfl rfl <| nq (Q_move rfl) rfl rfl <| WL_nil <| x_then ?_
  obtain ⟨o127, ho127, hF⟩ := bnd hF
  refine C_cutQ (fun a w' => .inl () = o127 ∧ Fr 19 a [] ∧ Hp C w' ρ (hs)) ?_ ?_
  · refine C_block ?_
    refine C_iter (f := fun s => F_slices_IndexFunc_int_int_1_l0 N x2 s) ho127 (fun s a w' => ∃ (x140 : Int), x140 = s ∧ Fr 19 a [(0, v1), (1, .func (.func 59) #[] [].toArray), (7, .int .i64 (x2.length : Int)), (8, .int .i64 x140)] ∧ Hp C w' ρ (hs)) ?_ ?_
    · exact fun a hf => ⟨0, rfl, hf.sub ⟨rfl, rfl, rfl, rfl, trivial⟩, H⟩
    · rintro s o153 a wd156 ⟨x140, rfl, hf, H⟩ hB154 hO155
      replace hB154 : F_slices_IndexFunc_int_int_1_l0 N x2 x140 = some o153 := hB154
      unfold F_slices_IndexFunc_int_int_1_l0 at hB154
      refine CW.at hf <| C_seq <| R_nd <| nq (Q_lss rfl rfl) rfl rfl <| WL_nil <| x_then <| C_seq ?_
      refine C_cond rfl (fun hb => ?_) (fun hb => ?_)
      · replace hB154 := itT hb hB154
        refine C_skip <| x_then <| C_seq <| C_block <| C_seq <| R_nd <| nq (Q_move rfl) rfl rfl <| nq (Q_assign rfl) rfl rfl <| WL_nil <| x_then <| C_seq <| R_nd <| nq (Q_move rfl) rfl rfl <| nq (Q_move rfl) rfl rfl ?_
        refine nq (Q_move rfl) rfl rfl ?_
        obtain ⟨x157, hx157, hB154⟩ := bnd hB154
        obtain ⟨b158, o159, c160, hc161, ha162, hi163⟩ := idxR r3 hx157
        refine nq (Q_idx hi163 Tryd.underlying23 ty3 rfl rfl) rfl rfl <| nq (v := .int .i64 x157) (Q_ld (show cellsAt _ _ _ [.int .i64 x157] from (show _ = [_] from hc161) ▸ (ha162.up H.ok.view)) ty3 rfl (fun _ => rfl) rfl rfl) rfl rfl ?_
        obtain ⟨q164, hq164, hB154⟩ := bnd hB154
        refine ne (E_callV fn59 rfl rfl (c_59 H   hq164)) rfl rfl ?_
        rintro _ wd167 ⟨x166, rfl, rfl, H⟩
        try dsimp only at hB154
        refine WL_nil <| x_then ?_
        refine C_cond rfl (fun hb => ?_) (fun hb => ?_)
        · replace hB154 := itT hb hB154
          refine C_seq <| R_nd <| nq (Q_move rfl) rfl rfl <| nq (Q_assign rfl) rfl rfl <| WL_nil <| x_then <| C_ret <| x_block_ret <| x_then_ret <| x_then_ret <| x_block_ret <| x_then_ret <| x_then_ret ?_
          obtain rfl := Option.some.inj hB154
          obtain rfl := hO155 _ rfl
          obtain rfl := Option.some.inj (show some _ = some _ from hF)
          exact fn_ret (l := [.tmp 4]) (vs := [.int .i64 x140]) rfl rfl rfl ⟨x140, rfl, rfl, H⟩
        · replace hB154 := itF hb hB154
          refine C_skip <| x_block <| x_then <| R_nd <| nq (Q_add rfl rfl) rfl rfl <| nq (Q_move rfl) rfl rfl <| WL_nil ?_
          obtain rfl := Option.some.inj hB154
          refine x_A fun a hf => ⟨_, rfl, w64 (x140 + 1), rfl, hf.sub ⟨rfl, rfl, rfl, rfl, trivial⟩, H⟩
      · replace hB154 := itF hb hB154
        refine C_exit <| x_then_exit <| x_then_exit <| x_block_exit ?_
        obtain rfl := Option.some.inj hB154
        obtain rfl := hO155 _ rfl
        refine x_A fun a hf => ⟨rfl, hf.sub trivial, H⟩
  · rintro a wd168 ⟨rfl, hf, H⟩
    try dsimp only at hF
    refine XX.at hf <| x_then <| C_seq <| R_nd <| nq (Q_assign rfl) rfl rfl <| WL_nil <| x_then <| C_ret ?_
    obtain rfl := Option.some.inj hF
    exact fn_ret (l := [.tmp 4]) (vs := [.int .i64 (-1)]) rfl rfl rfl ⟨(-1), rfl, rfl, H⟩
theorem c_58_1 {N : Nat} {C : Cx} {w : World} {ρ : View} {hs : List Hl} {v1 : Value} {x2 : (List Int)} (H : Hp C w ρ (hs)) (r3 : RdSl ρ (eI .i64) v1 x2) {r : Bool} (hF : F_slices_ContainsFunc_int_int_1 N x2 = some r) :
    Calls Tryd.prog 58 [v1, .func (.func 59) #[] [].toArray].toArray w (Rets (fun v w' => (∃ (x8 : Bool), x8 = r ∧ .bool x8 = v ∧ Hp C w' ρ (hs)))) := by
  unfold F_slices_ContainsFunc_int_int_1 at hF
  have h0 : Tryd.f58.body = some _ := rfl
  refine fn_calls' Tryd.func58 h0 (n := 9) rfl (by simp) <| C_seq <| R_nd <| nq (Q_assign rfl) rfl rfl <| WL_nil <| x_then <| C_seq <| R_nd <| nq (Q_move rfl) rfl rfl <| nq (Q_move rfl) rfl rfl ?_
  obtain ⟨q9, hq9, hF⟩ := bnd hF
  refine ne (E_call fn80 rfl (c_80_1 H  r3 hq9)) rfl rfl ?_
  rintro _ wd12 ⟨x11, rfl, rfl, H⟩
  try dsimp only at hF
  refine nq (Q_geq rfl rfl) rfl rfl <| nq (Q_assign rfl) rfl rfl <| WL_nil <| x_then <| C_ret ?_
  obtain rfl := Option.some.inj hF
  exact fn_ret (l := [.tmp 4]) (vs := [.bool (decide (x11 ≥ 0))]) rfl rfl rfl ⟨decide (x11 ≥ 0), rfl, rfl, H⟩
theorem c_26 {N : Nat} {C : Cx} {w : World} {ρ : View} {hs : List Hl} {v1 : Value} {v4 : Value} {v7 : Value} {x2 : (List (List Int))} {x5 : (List Int)} {x8 : (List Int)} (H : Hp C w ρ (hs)) (r3 : RdSl ρ (eA 256 (eI .i64)) v1 x2) (r6 : RdSl ρ (eI .i64) v4 x5) (r9 : RdSl ρ (eI .i64) v7 x8) {r : Bool} (hF : F_subset_Right N x2 x5 x8 = some r) :
    Calls Tryd.prog 26 [.agg #[v1, v4, v7]].toArray w (Rets (fun v w' => (∃ (x168 : Bool), x168 = r ∧ .bool x168 = v ∧ Hp C w' ρ (hs)))) := by
  unfold F_subset_Right at hF
  have h0 : Tryd.f26.body = some _ := rfl
  refine fn_calls' Tryd.func26 h0 (n := 71) rfl (by simp) <| C_seq <| R_nd <| ne (E_box H (vs := [v1, v4, v7]) rfl rfl) rfl rfl ?_
  rintro _ wd170 ⟨b169, rfl, H⟩
  refine nq (Q_assign rfl) rfl rfl <| WL_nil <| x_then <| C_seq <| R_nd <| nq (v := .pointer (some ⟨b169, 0, none⟩)) (Q_fld Tryd.underlying25 rfl ty22 (by decide) rfl rfl) rfl rfl <| nq (v := v1) (Q_ldB (k := 0) (cs := [v1]) H.ok rfl ty22 rfl rfl rfl (fun _ => rfl) rfl) rfl rfl <| nq (Q_len Tryd.underlying22 rfl r3) rfl rfl <| ne (E_alloc H ty3 (zs := [.int .i64 0]) rfl) rfl rfl ?_
  rintro _ wd172 ⟨b171, rfl, H⟩
  refine ne (E_stB (k := 0) (cs := [.int .i64 (x2.length : Int)]) (vs' := [.int .i64 (x2.length : Int)]) H rfl ty3 rfl rfl rfl rfl (one_cons rfl one_nil) (by simp) rfl) rfl rfl ?_
  rintro _ wd173 H
  dsimp only [List.set] at H
  refine WL_nil <| x_then <| C_seq ?_
  obtain ⟨o175, ho175, hF⟩ := bnd hF
  refine C_cut (fun a w' => ∃ (x174 : Bool), x174 = o175 ∧ Fr 71 a [(1, .pointer (some ⟨b169, 0, none⟩)), (3, .pointer (some ⟨b171, 0, none⟩)), (35, .bool x174)] ∧ Hp C w' ρ (Box b169 [v1, v4, v7] :: Box b171 [.int .i64 (x2.length : Int)] :: hs)) ?_ ?_
  · refine R_nd <| nq (v := .int .i64 (x2.length : Int)) (Q_ldB (k := 0) (cs := [.int .i64 (x2.length : Int)]) H.ok rfl ty3 rfl rfl rfl (fun _ => rfl) rfl) rfl rfl <| nq (Q_lss rfl rfl) rfl rfl <| nq (Q_move rfl) rfl rfl ?_
    rcases Bool.eq_false_or_eq_true (decide ((x2.length : Int) < 1)) with hb | hb
    · rw [hb]
      replace ho175 := itT hb ho175
      refine gs rfl rfl rfl rfl <| gs rfl rfl rfl rfl <| nq (Q_pickT rfl rfl) rfl rfl <| nq (Q_move rfl) rfl rfl <| gs rfl rfl rfl rfl <| gs rfl rfl rfl rfl <| gs rfl rfl rfl rfl <| gs rfl rfl rfl rfl <| gs rfl rfl rfl rfl <| nq (Q_pickT rfl rfl) rfl rfl <| nq (Q_move rfl) rfl rfl <| gs rfl rfl rfl rfl <| gs rfl rfl rfl rfl <| gs rfl rfl rfl rfl ?_
      refine gs rfl rfl rfl rfl <| nq (Q_pickT rfl rfl) rfl rfl <| nq (Q_move rfl) rfl rfl <| gs rfl rfl rfl rfl <| gs rfl rfl rfl rfl <| gs rfl rfl rfl rfl <| gs rfl rfl rfl rfl <| nq (Q_pickT rfl rfl) rfl rfl <| WL_nil ?_
      replace H := H.front 1 rfl
      dsimp only [List.eraseIdx] at H
      obtain rfl := Option.some.inj ho175
      refine x_A fun a hf => ⟨true, rfl, hf.sub ⟨rfl, rfl, rfl, trivial⟩, H⟩
    · rw [hb]
      replace ho175 := itF hb ho175
      refine gq (v := .int .i64 (x2.length : Int)) (Q_ldB (k := 0) (cs := [.int .i64 (x2.length : Int)]) H.ok rfl ty3 rfl rfl rfl (fun _ => rfl) rfl) rfl rfl rfl <| gq (Q_gtr rfl rfl) rfl rfl rfl <| nq (Q_pickF rfl rfl) rfl rfl <| nq (Q_move rfl) rfl rfl ?_
      rcases Bool.eq_false_or_eq_true (decide ((x2.length : Int) > 200)) with hb | hb
      · rw [hb]
        replace ho175 := itT hb ho175
        refine gs rfl rfl rfl rfl <| gs rfl rfl rfl rfl <| gs rfl rfl rfl rfl <| gs rfl rfl rfl rfl <| gs rfl rfl rfl rfl <| nq (Q_pickT rfl rfl) rfl rfl <| nq (Q_move rfl) rfl rfl <| gs rfl rfl rfl rfl <| gs rfl rfl rfl rfl <| gs rfl rfl rfl rfl <| gs rfl rfl rfl rfl <| nq (Q_pickT rfl rfl) rfl rfl <| nq (Q_move rfl) rfl rfl <| gs rfl rfl rfl rfl ?_
        refine gs rfl rfl rfl rfl <| gs rfl rfl rfl rfl <| gs rfl rfl rfl rfl <| nq (Q_pickT rfl rfl) rfl rfl <| WL_nil ?_
        replace H := H.front 1 rfl
        dsimp only [List.eraseIdx] at H
        obtain rfl := Option.some.inj ho175
        refine x_A fun a hf => ⟨true, rfl, hf.sub ⟨rfl, rfl, rfl, trivial⟩, H⟩
      · rw [hb]
        replace ho175 := itF hb ho175
        refine gq (v := .pointer (some ⟨b169, 1, none⟩)) (Q_fld Tryd.underlying25 rfl ty23 (by decide) rfl rfl) rfl rfl rfl <| gq (v := v4) (Q_ldB (k := 1) (cs := [v4]) H.ok rfl ty23 rfl rfl rfl (fun _ => rfl) rfl) rfl rfl rfl <| gq (Q_len Tryd.underlying23 rfl r6) rfl rfl rfl <| gq (v := .int .i64 (x2.length : Int)) (Q_ldB (k := 0) (cs := [.int .i64 (x2.length : Int)]) H.ok rfl ty3 rfl rfl rfl (fun _ => rfl) rfl) rfl rfl rfl <| gq (Q_neq rfl rfl) rfl rfl rfl <| nq (Q_pickF rfl rfl) rfl rfl <| nq (Q_move rfl) rfl rfl ?_
        rcases Bool.eq_false_or_eq_true ((x5.length : Int) != (x2.length : Int)) with hb | hb
        · rw [hb]
          replace ho175 := itT hb ho175
          refine gs rfl rfl rfl rfl <| gs rfl rfl rfl rfl <| gs rfl rfl rfl rfl <| gs rfl rfl rfl rfl <| nq (Q_pickT rfl rfl) rfl rfl <| nq (Q_move rfl) rfl rfl <| gs rfl rfl rfl rfl <| gs rfl rfl rfl rfl <| gs rfl rfl rfl rfl <| gs rfl rfl rfl rfl <| nq (Q_pickT rfl rfl) rfl rfl <| WL_nil ?_
          replace H := H.front 1 rfl
          dsimp only [List.eraseIdx] at H
          obtain rfl := Option.some.inj ho175
          refine x_A fun a hf => ⟨true, rfl, hf.sub ⟨rfl, rfl, rfl, trivial⟩, H⟩
        · rw [hb]
          replace ho175 := itF hb ho175
          refine gq (v := .pointer (some ⟨b169, 2, none⟩)) (Q_fld Tryd.underlying25 rfl ty23 (by decide) rfl rfl) rfl rfl rfl <| gq (v := v7) (Q_ldB (k := 1) (cs := [v7]) H.ok rfl ty23 rfl rfl rfl (fun _ => rfl) rfl) rfl rfl rfl <| gq (Q_len Tryd.underlying23 rfl r9) rfl rfl rfl <| gq (Q_lss rfl rfl) rfl rfl rfl <| nq (Q_pickF rfl rfl) rfl rfl <| nq (Q_move rfl) rfl rfl ?_
          rcases Bool.eq_false_or_eq_true (decide ((x8.length : Int) < 1)) with hb | hb
          · rw [hb]
            replace ho175 := itT hb ho175
            refine gs rfl rfl rfl rfl <| gs rfl rfl rfl rfl <| gs rfl rfl rfl rfl <| gs rfl rfl rfl rfl <| nq (Q_pickT rfl rfl) rfl rfl <| WL_nil ?_
            replace H := H.front 1 rfl
            dsimp only [List.eraseIdx] at H
            obtain rfl := Option.some.inj ho175
            refine x_A fun a hf => ⟨true, rfl, hf.sub ⟨rfl, rfl, rfl, trivial⟩, H⟩
          · rw [hb]
            replace ho175 := itF hb ho175
            refine gq (v := .pointer (some ⟨b169, 2, none⟩)) (Q_fld Tryd.underlying25 rfl ty23 (by decide) rfl rfl) rfl rfl rfl <| gq (v := v7) (Q_ldB (k := 1) (cs := [v7]) H.ok rfl ty23 rfl rfl rfl (fun _ => rfl) rfl) rfl rfl rfl <| gq (Q_len Tryd.underlying23 rfl r9) rfl rfl rfl <| gq (Q_gtr rfl rfl) rfl rfl rfl <| nq (Q_pickF rfl rfl) rfl rfl <| WL_nil ?_
            replace H := H.front 1 rfl
            dsimp only [List.eraseIdx] at H
            obtain rfl := Option.some.inj ho175
            refine x_A fun a hf => ⟨decide ((x8.length : Int) > 8), rfl, hf.sub ⟨rfl, rfl, rfl, trivial⟩, H⟩
  · rintro a wd176 ⟨x174, rfl, hf, H⟩
    try dsimp only at hF
    refine CW.at hf ?_
    refine C_cond rfl (fun hb => ?_) (fun hb => ?_)
    · replace hF := itT hb hF
      refine C_seq <| R_nd <| nq (Q_assign rfl) rfl rfl <| WL_nil <| x_then <| C_ret <| x_then_ret ?_
      replace H := H.drop 0 rfl
      dsimp only [List.eraseIdx] at H
      replace H := H.drop 0 rfl
      dsimp only [List.eraseIdx] at H
      obtain rfl := Option.some.inj hF
      exact fn_ret (l := [.tmp 2]) (vs := [.bool false]) rfl rfl rfl ⟨false, rfl, rfl, H⟩
    · replace hF := itF hb hF
      refine C_skip <| x_then <| C_seq <| R_nd <| nq (v := .func (.func 57) #[] [.pointer (some ⟨b171, 0, none⟩)].toArray) (Q_func rfl) rfl rfl <| nq (Q_assign rfl) rfl rfl <| WL_nil <| x_then <| C_seq <| C_seq <| R_nd <| nq (v := .pointer (some ⟨b169, 0, none⟩)) (Q_fld Tryd.underlying25 rfl ty22 (by decide) rfl rfl) rfl rfl <| nq (v := v1) (Q_ldB (k := 0) (cs := [v1]) H.ok rfl ty22 rfl rfl rfl (fun _ => rfl) rfl) rfl rfl <| nq (Q_len Tryd.underlying22 rfl r3) rfl rfl ?_
      refine nq (Q_move rfl) rfl rfl <| WL_nil <| x_then ?_
      obtain ⟨o226, ho226, hF⟩ := bnd hF
      refine C_cutQ (fun a w' => .inl () = o226 ∧ Fr 71 a [(1, .pointer (some ⟨b169, 0, none⟩)), (4, .func (.func 57) #[] [.pointer (some ⟨b171, 0, none⟩)].toArray)] ∧ Hp C w' ρ (Box b169 [v1, v4, v7] :: Box b171 [.int .i64 (x2.length : Int)] :: hs)) ?_ ?_
      · refine C_block ?_
        replace H := H.front 1 rfl
        dsimp only [List.eraseIdx] at H
        replace H := H.front 1 rfl
        dsimp only [List.eraseIdx] at H
        refine C_iter (f := fun s => F_subset_Right_l0 N x2 s) ho226 (fun s a w' => ∃ (x242 : Int), x242 = s ∧ Fr 71 a [(1, .pointer (some ⟨b169, 0, none⟩)), (4, .func (.func 57) #[] [.pointer (some ⟨b171, 0, none⟩)].toArray), (38, v1), (39, .int .i64 (x2.length : Int)), (40, .int .i64 x242)] ∧ Hp C w' ρ (Box b169 [v1, v4, v7] :: Box b171 [.int .i64 (x2.length : Int)] :: hs)) ?_ ?_
        · exact fun a hf => ⟨0, rfl, hf.sub ⟨rfl, rfl, rfl, rfl, rfl, trivial⟩, H⟩
        · rintro s o258 a wd261 ⟨x242, rfl, hf, H⟩ hB259 hO260
          replace hB259 : F_subset_Right_l0 N x2 x242 = some o258 := hB259
          unfold F_subset_Right_l0 at hB259
          refine CW.at hf <| C_seq <| R_nd <| nq (Q_lss rfl rfl) rfl rfl <| WL_nil <| x_then <| C_seq ?_
          refine C_cond rfl (fun hb => ?_) (fun hb => ?_)
          · replace hB259 := itT hb hB259
            refine C_skip <| x_then <| C_seq <| C_block <| C_seq <| R_nd ?_
            obtain ⟨x262, hx262, hB259⟩ := bnd hB259
            obtain ⟨b263, o264, c265, hc266, ha267, hi268⟩ := idxR r3 hx262
            refine nq (Q_idx hi268 Tryd.underlying22 ty58 rfl rfl) rfl rfl <| nq (v := .agg c265.toArray) (Q_ld (ha267.up H.ok.view) ty58 ((eA 256 (eI .i64)).len hc266) (fun h => nomatch h) rfl rfl) rfl rfl <| ne (E_allocA (N := 256) (n := 1) (zs := (repC 256 [.int .i64 0])) H ty58 rfl (by simp [repC_length])) rfl rfl ?_
            rintro _ wd270 ⟨b269, rfl, H⟩
            refine ne (E_stW (k := 0) H rfl ty58 rfl rfl (rdL.one hc266.2) (arr_clen (rdL_rep (e:=(eI .i64)) (ρ:=ρ) (rfl) 256) List.length_replicate) (arr_clen hc266.2 hc266.1)) rfl rfl ?_
            rintro _ wd271 H
            dsimp only [List.set] at H
            refine WL_nil <| x_then <| C_seq <| R_nd <| nq (v := (.slice (some ⟨b269, 0, none⟩) 256 256)) (Q_slA Tryd.underlying58 ty3 rfl) rfl rfl <| nq (Q_move rfl) rfl rfl ?_
            replace H := H.front 2 rfl
            dsimp only [List.eraseIdx] at H
            obtain ⟨q272, hq272, hB259⟩ := bnd hB259
            obtain ⟨C', ρ', hl273, HA, hL, hback⟩ := Hp.lend (A := [Box b171 [.int .i64 (x2.length : Int)]]) (L := [Arr (.slice (some ⟨b269, 0, none⟩) 256 256) 1 c265]) (F := Box b169 [v1, v4, v7] :: hs) H
            refine ne (E_call fn58 rfl (c_58 HA  (arr_rd (by decide) hl273 (hL (Arr (.slice (some ⟨b269, 0, none⟩) 256 256) 1 c265) (by simp)) hc266.2) hq272)) rfl rfl ?_
            rintro _ wd275 ⟨x274, rfl, rfl, H⟩
            try dsimp only at hB259
            replace H := hback H
            dsimp only [List.cons_append, List.nil_append] at H
            refine WL_nil <| x_then ?_
            refine C_cond rfl (fun hb => ?_) (fun hb => ?_)
            · replace hB259 := itT hb hB259
              refine C_seq <| R_nd <| nq (Q_assign rfl) rfl rfl <| WL_nil <| x_then <| C_ret <| x_block_ret <| x_then_ret <| x_then_ret <| x_block_ret <| x_then_ret <| x_then_ret ?_
              replace H := H.drop 0 rfl
              dsimp only [List.eraseIdx] at H
              replace H := H.drop 0 rfl
              dsimp only [List.eraseIdx] at H
              replace H := H.drop 0 rfl
              dsimp only [List.eraseIdx] at H
              obtain rfl := Option.some.inj hB259
              obtain rfl := hO260 _ rfl
              obtain rfl := Option.some.inj (show some _ = some _ from hF)
              exact fn_ret (l := [.tmp 2]) (vs := [.bool false]) rfl rfl rfl ⟨false, rfl, rfl, H⟩
            · replace hB259 := itF hb hB259
              refine C_skip <| x_block <| x_then <| R_nd <| nq (Q_add rfl rfl) rfl rfl <| nq (Q_move rfl) rfl rfl <| WL_nil ?_
              replace H := H.front 2 rfl
              dsimp only [List.eraseIdx] at H
              replace H := H.drop 2 rfl
              dsimp only [List.eraseIdx] at H
              obtain rfl := Option.some.inj hB259
              refine x_A fun a hf => ⟨_, rfl, w64 (x242 + 1), rfl, hf.sub ⟨rfl, rfl, rfl, rfl, rfl, trivial⟩, H⟩
          · replace hB259 := itF hb hB259
            refine C_exit <| x_then_exit <| x_then_exit <| x_block_exit ?_
            replace H := H.front 1 rfl
            dsimp only [List.eraseIdx] at H
            replace H := H.front 1 rfl
            dsimp only [List.eraseIdx] at H
            obtain rfl := Option.some.inj hB259
            obtain rfl := hO260 _ rfl
            refine x_A fun a hf => ⟨rfl, hf.sub ⟨rfl, rfl, trivial⟩, H⟩
      · rintro a wd276 ⟨rfl, hf, H⟩
        try dsimp only at hF
        refine XX.at hf <| x_then <| C_seq <| R_nd <| nq (Q_assign rfl) rfl rfl <| WL_nil <| x_then <| C_seq ?_
        obtain ⟨o286, ho286, hF⟩ := bnd hF
        refine C_cut (fun a w' => ∃ (x285 : Bool), x285 = o286 ∧ Fr 71 a [(1, .pointer (some ⟨b169, 0, none⟩)), (57, .bool x285)] ∧ Hp C w' ρ (Box b169 [v1, v4, v7] :: hs)) ?_ ?_
        · refine R_nd <| nq (v := .pointer (some ⟨b169, 1, none⟩)) (Q_fld Tryd.underlying25 rfl ty23 (by decide) rfl rfl) rfl rfl <| nq (v := v4) (Q_ldB (k := 0) (cs := [v4]) H.ok rfl ty23 rfl rfl rfl (fun _ => rfl) rfl) rfl rfl <| nq (Q_move rfl) rfl rfl ?_
          obtain ⟨q287, hq287, ho286⟩ := bnd ho286
          refine ne (E_call fn58 rfl (c_58_1 H  r6 hq287)) rfl rfl ?_
          rintro _ wd290 ⟨x289, rfl, rfl, H⟩
          try dsimp only at ho286
          refine nq (Q_move rfl) rfl rfl ?_
          rcases Bool.eq_false_or_eq_true x289 with hb | hb
          · rw [hb]
            replace ho286 := itT hb ho286
            refine gs rfl rfl rfl rfl <| gs rfl rfl rfl rfl <| gs rfl rfl rfl rfl <| gs rfl rfl rfl rfl <| nq (Q_pickT rfl rfl) rfl rfl <| WL_nil ?_
            replace H := H.drop 1 rfl
            dsimp only [List.eraseIdx] at H
            obtain rfl := Option.some.inj ho286
            refine x_A fun a hf => ⟨true, rfl, hf.sub ⟨rfl, rfl, trivial⟩, H⟩
          · rw [hb]
            replace ho286 := itF hb ho286
            refine gq (v := .pointer (some ⟨b169, 2, none⟩)) (Q_fld Tryd.underlying25 rfl ty23 (by decide) rfl rfl) rfl rfl rfl <| gq (v := v7) (Q_ldB (k := 0) (cs := [v7]) H.ok rfl ty23 rfl rfl rfl (fun _ => rfl) rfl) rfl rfl rfl <| gq (Q_move rfl) rfl rfl rfl ?_
            replace H := H.front 1 rfl
            dsimp only [List.eraseIdx] at H
            obtain ⟨q291, hq291, ho286⟩ := bnd ho286
            refine ge (E_call fn58 rfl (c_58 H  r9 hq291)) rfl rfl rfl ?_
            rintro _ wd294 ⟨x293, rfl, rfl, H⟩
            try dsimp only at ho286
            refine nq (Q_pickF rfl rfl) rfl rfl <| WL_nil ?_
            replace H := H.front 1 rfl
            dsimp only [List.eraseIdx] at H
            replace H := H.drop 1 rfl
            dsimp only [List.eraseIdx] at H
            obtain rfl := Option.some.inj ho286
            refine x_A fun a hf => ⟨x293, rfl, hf.sub ⟨rfl, rfl, trivial⟩, H⟩
        · rintro a wd295 ⟨x285, rfl, hf, H⟩
          try dsimp only at hF
          refine CW.at hf ?_
          refine C_cond rfl (fun hb => ?_) (fun hb => ?_)
          · replace hF := itT hb hF
            refine C_seq <| R_nd <| nq (Q_assign rfl) rfl rfl <| WL_nil <| x_then <| C_ret <| x_then_ret ?_
            replace H := H.drop 0 rfl
            dsimp only [List.eraseIdx] at H
            obtain rfl := Option.some.inj hF
            exact fn_ret (l := [.tmp 2]) (vs := [.bool false]) rfl rfl rfl ⟨false, rfl, rfl, H⟩
          · replace hF := itF hb hF
            refine C_skip <| x_then ?_
            obtain ⟨o311, ho311, hF⟩ := bnd hF
            refine C_cut (fun a w' => ∃ (x310 : Bool), x310 = o311 ∧ Fr 71 a [(2, .bool x310)] ∧ Hp C w' ρ (hs)) ?_ ?_
            · refine R_nd <| nq (v := .pointer (some ⟨b169, 0, none⟩)) (Q_fld Tryd.underlying25 rfl ty22 (by decide) rfl rfl) rfl rfl <| nq (v := v1) (Q_ldB (k := 0) (cs := [v1]) H.ok rfl ty22 rfl rfl rfl (fun _ => rfl) rfl) rfl rfl ?_
              obtain ⟨x312, hx312, ho311⟩ := bnd ho311
              obtain ⟨b313, o314, c315, hc316, ha317, hi318⟩ := idxR r3 hx312
              refine nq (Q_idx hi318 Tryd.underlying22 ty58 rfl rfl) rfl rfl <| nq (v := .agg c315.toArray) (Q_ld (ha317.up H.ok.view) ty58 ((eA 256 (eI .i64)).len hc316) (fun h => nomatch h) rfl rfl) rfl rfl <| nq (v := .agg (repC 256 [.int .i64 0]).toArray) (Q_build0 (zs := (repC 256 [.int .i64 0])) ty58 Tryd.underlying58 ty3 rfl) rfl rfl <| nq (v := .bool (x312 == (List.replicate 256 0))) (Q_eqlA Tryd.underlying58 ty3 (by kernel_rfl) Tryd.underlying3 hc316.2 hc316.1 (rdL_rep (e:=(eI .i64)) (ρ:=ρ) (rfl) 256) List.length_replicate rfl rfl) rfl rfl <| nq (Q_move rfl) rfl rfl ?_
              rcases Bool.eq_false_or_eq_true (x312 == (List.replicate 256 0)) with hb | hb
              · rw [hb]
                replace ho311 := itT hb ho311
                refine gq (v := .pointer (some ⟨b169, 1, none⟩)) (Q_fld Tryd.underlying25 rfl ty23 (by decide) rfl rfl) rfl rfl rfl <| gq (v := v4) (Q_ldB (k := 0) (cs := [v4]) H.ok rfl ty23 rfl rfl rfl (fun _ => rfl) rfl) rfl rfl rfl ?_
                obtain ⟨x319, hx319, ho311⟩ := bnd ho311
                obtain ⟨b320, o321, c322, hc323, ha324, hi325⟩ := idxR r6 hx319
                refine gq (Q_idx hi325 Tryd.underlying23 ty3 rfl rfl) rfl rfl rfl <| gq (v := .int .i64 x319) (Q_ld (show cellsAt _ _ _ [.int .i64 x319] from (show _ = [_] from hc323) ▸ (ha324.up H.ok.view)) ty3 rfl (fun _ => rfl) rfl rfl) rfl rfl rfl <| gq (Q_eql rfl rfl) rfl rfl rfl <| nq (Q_pickT rfl rfl) rfl rfl <| nq (Q_assign rfl) rfl rfl <| WL_nil ?_
                replace H := H.drop 0 rfl
                dsimp only [List.eraseIdx] at H
                obtain rfl := Option.some.inj ho311
                refine x_A fun a hf => ⟨x319 == (-1), rfl, hf.sub ⟨rfl, trivial⟩, H⟩
              · rw [hb]
                replace ho311 := itF hb ho311
                refine gs rfl rfl rfl rfl <| gs rfl rfl rfl rfl <| gs rfl rfl rfl rfl <| gs rfl rfl rfl rfl <| gs rfl rfl rfl rfl <| nq (Q_pickF rfl rfl) rfl rfl <| nq (Q_assign rfl) rfl rfl <| WL_nil ?_
                replace H := H.drop 0 rfl
                dsimp only [List.eraseIdx] at H
                obtain rfl := Option.some.inj ho311
                refine x_A fun a hf => ⟨false, rfl, hf.sub ⟨rfl, trivial⟩, H⟩
            · rintro a wd326 ⟨x310, rfl, hf, H⟩
              try dsimp only at hF
              refine CW.at hf <| C_ret ?_
              obtain rfl := Option.some.inj hF
              exact fn_ret (l := [.tmp 2]) (vs := [.bool x310]) rfl rfl rfl ⟨x310, rfl, rfl, H⟩
theorem c_51 {N : Nat} {C : Cx} {w : World} {ρ : View} {hs : List Hl} {x1 : Int} (H : Hp C w ρ (hs)) {ge0 : Value} (gl0 : GErr ρ 0 ge0) {r : (Unit ⊕ (List Int))} (hF : F_marks_New N x1 = some r) :
    Calls Tryd.prog 51 [.int .i64 x1].toArray w (Rets (fun v w' => (.inl () = r ∧ .tuple [.pointer none, ge0].toArray = v ∧ Hp C w' ρ (hs)) ∨ (∃ (b11 : Nat) (v12 : Value) (c13 : (List Value)) (x14 : (List Int)), .inr x14 = r ∧ .tuple [.pointer (some ⟨b11, 0, none⟩), .nilIface].toArray = v ∧ rdL (eI .u64) ρ x14 c13 ∧ Hp C w' ρ (Box b11 [v12, .int .i64 x1] :: Arr v12 1 c13 :: hs)))) := by
  unfold F_marks_New at hF
  have h0 : Tryd.f51.body = some _ := rfl
  refine fn_calls' Tryd.func51 h0 (n := 19) rfl (by simp) <| C_seq <| R_nd <| nq (Q_assign rfl) rfl rfl <| nq (Q_assign rfl) rfl rfl <| WL_nil <| x_then <| C_seq ?_
  obtain ⟨o17, ho17, hF⟩ := bnd hF
  refine C_cut (fun a w' => ∃ (x16 : Bool), x16 = o17 ∧ Fr 19 a [(0, .int .i64 x1), (9, .bool x16)] ∧ Hp C w' ρ (hs)) ?_ ?_
  · refine R_nd <| nq (Q_move rfl) rfl rfl <| nq (Q_lss rfl rfl) rfl rfl <| nq (Q_move rfl) rfl rfl ?_
    rcases Bool.eq_false_or_eq_true (decide (x1 < 0)) with hb | hb
    · rw [hb]
      replace ho17 := itT hb ho17
      refine gs rfl rfl rfl rfl <| gs rfl rfl rfl rfl <| nq (Q_pickT rfl rfl) rfl rfl <| WL_nil ?_
      obtain rfl := Option.some.inj ho17
      refine x_A fun a hf => ⟨true, rfl, hf.sub ⟨rfl, rfl, trivial⟩, H⟩
    · rw [hb]
      replace ho17 := itF hb ho17
      refine gq (Q_move rfl) rfl rfl rfl <| gq (Q_gtr rfl rfl) rfl rfl rfl <| nq (Q_pickF rfl rfl) rfl rfl <| WL_nil ?_
      obtain rfl := Option.some.inj ho17
      refine x_A fun a hf => ⟨decide (x1 > 65536), rfl, hf.sub ⟨rfl, rfl, trivial⟩, H⟩
  · rintro a wd18 ⟨x16, rfl, hf, H⟩
    try dsimp only at hF
    refine CW.at hf ?_
    refine C_cond rfl (fun hb => ?_) (fun hb => ?_)
    · replace hF := itT hb hF
      refine C_seq <| R_dr (.take 0 (.take 1 (.take 2 .done))) (fun w' => Ok w' ρ []) (by kernel_rfl) (by kernel_rfl) (by kernel_rfl) (H.drew.okS (by simp)) ?_
      replace H := H.drew
      refine dq rfl (fun _ hw => Q_ldG hw gl0 ty63) rfl rfl <| dq rfl (fun _ _ => Q_assign rfl) rfl rfl <| dq rfl (fun _ _ => Q_assign rfl) rfl rfl <| DL_nil <| x_then <| C_ret <| x_then_ret ?_
      obtain rfl := Option.some.inj hF
      exact fn_ret (l := [.tmp 2, .tmp 3]) (vs := [.pointer none, ge0]) rfl rfl rfl (.inl ⟨rfl, rfl, H⟩)
    · replace hF := itF hb hF
      refine C_skip <| x_then <| C_seq <| R_nd <| nq (Q_move rfl) rfl rfl <| nq (Q_add rfl rfl) rfl rfl <| nq (Q_sub rfl rfl) rfl rfl <| nq (Q_quo rfl rfl (by decide)) rfl rfl ?_
      obtain ⟨x19, hx19, hF⟩ := bnd hF
      obtain ⟨hm21a, hm21b, hm21c⟩ := mk_some hx19
      refine ne (E_make H Tryd.underlying92 ty95 (zs := [.int .u64 0]) rfl rfl (by decide) (by decide) rfl hm21a hm21b) rfl rfl ?_
      rintro _ wd22 ⟨b20, rfl, H⟩
      refine nq (Q_move rfl) rfl rfl <| nq (v := .agg #[(.slice (some ⟨b20, 0, none⟩) (w64 ((w64 ((w64 (x1 + 64)) - 1)).tdiv 64)).toNat (w64 ((w64 ((w64 (x1 + 64)) - 1)).tdiv 64)).toNat), .int .i64 x1]) (Q_buildS st94.choose_spec (ps := [(0, [(.slice (some ⟨b20, 0, none⟩) (w64 ((w64 ((w64 (x1 + 64)) - 1)).tdiv 64)).toNat (w64 ((w64 ((w64 (x1 + 64)) - 1)).tdiv 64)).toNat)]), (1, [.int .i64 x1])]) rfl ⟨rfl, (arr_cells (H.ok.get (k := 0) rfl)).1, by simp, ⟨rfl, rfl, by simp, trivial⟩⟩ rfl) rfl rfl <| ne (E_box H (vs := [(.slice (some ⟨b20, 0, none⟩) (w64 ((w64 ((w64 (x1 + 64)) - 1)).tdiv 64)).toNat (w64 ((w64 ((w64 (x1 + 64)) - 1)).tdiv 64)).toNat), .int .i64 x1]) rfl rfl) rfl rfl ?_
      rintro _ wd24 ⟨b23, rfl, H⟩
      refine nq (Q_assign rfl) rfl rfl <| nq (Q_assign rfl) rfl rfl <| WL_nil <| x_then <| C_ret ?_
      replace H := H.front 1 rfl
      dsimp only [List.eraseIdx] at H
      replace H := H.front 1 rfl
      dsimp only [List.eraseIdx] at H
      obtain rfl := Option.some.inj hF
      exact fn_ret (l := [.tmp 2, .tmp 3]) (vs := [.pointer (some ⟨b23, 0, none⟩), .nilIface]) rfl rfl rfl (.inr ⟨b23, (.slice (some ⟨b20, 0, none⟩) (w64 ((w64 ((w64 (x1 + 64)) - 1)).tdiv 64)).toNat (w64 ((w64 ((w64 (x1 + 64)) - 1)).tdiv 64)).toNat), (repC (w64 ((w64 ((w64 (x1 + 64)) - 1)).tdiv 64)).toNat [.int .u64 0]), x19, rfl, rfl, (hm21c ▸ rdL_rep (e := (eI .u64)) (ρ := ρ) (rfl) _), H⟩)
theorem c_87 {N : Nat} {C : Cx} {w : World} {ρ : View} {hs : List Hl} {b1 : Nat} {c2 : List Value} {v5 : Value} {x3 : (List Int)} {x6 : Int} (H : Hp C w ρ (Box b1 [v5, .int .i64 x6] :: Arr v5 1 c2 :: hs)) (_r4 : rdL (eI .u64) ρ x3 c2) {r : Unit} (hF : F_marks_Marks_Size N x3 x6 = some r) :
    Calls Tryd.prog 87 [.pointer (some ⟨b1, 0, none⟩)].toArray w (Rets (fun v w' => (() = r ∧ .int .i64 x6 = v ∧ Hp C w' ρ (Box b1 [v5, .int .i64 x6] :: Arr v5 1 c2 :: hs)))) := by
  unfold F_marks_Marks_Size at hF
  have h0 : Tryd.f87.body = some _ := rfl
  refine fn_calls' Tryd.func87 h0 (n := 9) rfl (by simp) <| C_seq <| R_nd <| nq (Q_assign rfl) rfl rfl <| WL_nil <| x_then <| C_seq <| C_seq <| R_nd <| nq (Q_move rfl) rfl rfl <| nq (v := .bool false) (Q_eqlP (o := (some ⟨b1, 0, none⟩)) Tryd.underlying61 rfl) rfl rfl <| WL_nil <| x_then ?_
  refine C_cond rfl (fun h => nomatch h) (fun _ => ?_)
  refine C_skip <| x_then <| C_seq <| R_nd <| nq (Q_move rfl) rfl rfl <| nq (Q_nilP rfl) rfl rfl <| nq (v := .pointer (some ⟨b1, 1, none⟩)) (Q_fld Tryd.underlying94 rfl ty3 (by decide) rfl rfl) rfl rfl <| nq (v := .int .i64 x6) (Q_ldB (k := 0) (cs := [.int .i64 x6]) H.ok rfl ty3 rfl rfl rfl (fun _ => rfl) rfl) rfl rfl <| nq (Q_assign rfl) rfl rfl <| WL_nil <| x_then <| C_ret ?_
  replace H := H.front 1 rfl
  dsimp only [List.eraseIdx] at H
  replace H := H.front 1 rfl
  dsimp only [List.eraseIdx] at H
  obtain rfl := Option.some.inj hF
  exact fn_ret (l := [.tmp 2]) (vs := [.int .i64 x6]) rfl rfl rfl ⟨rfl, rfl, H⟩
theorem c_76 {N : Nat} {C : Cx} {w : World} {ρ : View} {hs : List Hl} {b1 : Nat} {c2 : List Value} {v5 : Value} {x3 : (List Int)} {x6 : Int} {x7 : Int} (H : Hp C w ρ (Box b1 [v5, .int .i64 x6] :: Arr v5 1 c2 :: hs)) (r4 : rdL (eI .u64) ρ x3 c2) {r : (Int × Int × Bool)} (hF : F_marks_Marks_at N x3 x6 x7 = some r) :
    Calls Tryd.prog 76 [.pointer (some ⟨b1, 0, none⟩), .int .i64 x7].toArray w (Rets (fun v w' => (∃ (x21 : Int) (x22 : Int) (x23 : Bool), (x21, x22, x23) = r ∧ .tuple [.int .i64 x21, .int .u64 x22, .bool x23].toArray = v ∧ Hp C w' ρ (Box b1 [v5, .int .i64 x6] :: Arr v5 1 c2 :: hs)))) := by
  unfold F_marks_Marks_at at hF
  have h0 : Tryd.f76.body = some _ := rfl
  refine fn_calls' Tryd.func76 h0 (n := 21) rfl (by simp) <| C_seq <| R_nd <| nq (Q_assign rfl) rfl rfl <| nq (Q_assign rfl) rfl rfl <| nq (Q_assign rfl) rfl rfl <| WL_nil <| x_then ?_
  obtain ⟨o31, ho31, hF⟩ := bnd hF
  refine C_cut (fun a w' => ∃ (x28 : Int) (x29 : Int) (x30 : Bool), (x28, x29, x30) = o31 ∧ Fr 21 a [(4, .int .i64 x28), (5, .int .u64 x29), (6, .bool x30)] ∧ Hp C w' ρ (Box b1 [v5, .int .i64 x6] :: Arr v5 1 c2 :: hs)) ?_ ?_
  · refine R_nd <| nq (Q_move rfl) rfl rfl <| nq (Q_quo rfl rfl (by decide)) rfl rfl <| nq (Q_move rfl) rfl rfl <| nq (Q_cvI ⟨_, Tryd.underlying3⟩ Tryd.underlying59 rfl) rfl rfl <| nq (Q_rem rfl rfl (by decide)) rfl rfl ?_
    obtain ⟨x32, hx32, ho31⟩ := bnd ho31
    refine nq (Q_shl rfl rfl (nn_some hx32)) rfl rfl <| nq (Q_move rfl) rfl rfl <| nq (Q_geq rfl rfl) rfl rfl <| nq (Q_move rfl) rfl rfl ?_
    rcases Bool.eq_false_or_eq_true (decide (x7 ≥ 0)) with hb | hb
    · rw [hb]
      replace ho31 := itT hb ho31
      refine gq (Q_move rfl) rfl rfl rfl <| gq (Q_move rfl) rfl rfl rfl ?_
      replace H := H.front 1 rfl
      dsimp only [List.eraseIdx] at H
      replace H := H.front 1 rfl
      dsimp only [List.eraseIdx] at H
      obtain ⟨q33, hq33, ho31⟩ := bnd ho31
      refine ge (E_call fn87 rfl (c_87 H  r4 hq33)) rfl rfl rfl ?_
      rintro _ wd35 ⟨rfl, rfl, H⟩
      try dsimp only at ho31
      refine gq (Q_lss rfl rfl) rfl rfl rfl <| nq (Q_pickT rfl rfl) rfl rfl <| nq (Q_assign rfl) rfl rfl <| nq (Q_assign rfl) rfl rfl <| nq (Q_assign rfl) rfl rfl <| WL_nil ?_
      replace H := H.front 1 rfl
      dsimp only [List.eraseIdx] at H
      replace H := H.front 1 rfl
      dsimp only [List.eraseIdx] at H
      obtain rfl := Option.some.inj ho31
      refine x_A fun a hf => ⟨w64 (x7.tdiv 64), shlI .u64 1 ((IntKind.wrap .u64 x7).tmod 64), decide (x7 < x6), rfl, hf.sub ⟨rfl, rfl, rfl, trivial⟩, H⟩
    · rw [hb]
      replace ho31 := itF hb ho31
      refine gs rfl rfl rfl rfl <| gs rfl rfl rfl rfl <| gs rfl rfl rfl rfl <| gs rfl rfl rfl rfl <| nq (Q_pickF rfl rfl) rfl rfl <| nq (Q_assign rfl) rfl rfl <| nq (Q_assign rfl) rfl rfl <| nq (Q_assign rfl) rfl rfl <| WL_nil ?_
      replace H := H.front 1 rfl
      dsimp only [List.eraseIdx] at H
      replace H := H.front 1 rfl
      dsimp only [List.eraseIdx] at H
      obtain rfl := Option.some.inj ho31
      refine x_A fun a hf => ⟨w64 (x7.tdiv 64), shlI .u64 1 ((IntKind.wrap .u64 x7).tmod 64), false, rfl, hf.sub ⟨rfl, rfl, rfl, trivial⟩, H⟩
  · rintro a wd36 ⟨x28, x29, x30, rfl, hf, H⟩
    try dsimp only at hF
    refine CW.at hf <| C_ret ?_
    replace H := H.front 1 rfl
    dsimp only [List.eraseIdx] at H
    replace H := H.front 1 rfl
    dsimp only [List.eraseIdx] at H
    obtain rfl := Option.some.inj hF
    exact fn_ret (l := [.tmp 4, .tmp 5, .tmp 6]) (vs := [.int .i64 x28, .int .u64 x29, .bool x30]) rfl rfl rfl ⟨x28, x29, x30, rfl, rfl, H⟩
theorem c_52 {N : Nat} {C : Cx} {w : World} {ρ : View} {hs : List Hl} {b1 : Nat} {c2 : List Value} {v5 : Value} {x3 : (List Int)} {x6 : Int} {x7 : Int} (H : Hp C w ρ (Box b1 [v5, .int .i64 x6] :: Arr v5 1 c2 :: hs)) (r4 : rdL (eI .u64) ρ x3 c2) {r : ((List Int) × Bool)} (hF : F_marks_Marks_Put N x3 x6 x7 = some r) :
    Calls Tryd.prog 52 [.pointer (some ⟨b1, 0, none⟩), .int .i64 x7].toArray w (Rets (fun v w' => (∃ (c49 : (List Value)) (x50 : (List Int)) (x52 : Bool), (x50, x52) = r ∧ .bool x52 = v ∧ rdL (eI .u64) ρ x50 c49 ∧ Hp C w' ρ (Box b1 [v5, .int .i64 x6] :: Arr v5 1 c49 :: hs)))) := by
  unfold F_marks_Marks_Put at hF
  have h0 : Tryd.f52.body = some _ := rfl
  refine fn_calls' Tryd.func52 h0 (n := 39) rfl (by simp) <| C_seq <| R_nd <| nq (Q_assign rfl) rfl rfl <| WL_nil <| x_then <| C_seq <| R_nd <| nq (Q_move rfl) rfl rfl <| nq (Q_move rfl) rfl rfl ?_
  replace H := H.front 1 rfl
  dsimp only [List.eraseIdx] at H
  replace H := H.front 1 rfl
  dsimp only [List.eraseIdx] at H
  obtain ⟨q53, hq53, hF⟩ := bnd hF
  refine ne (E_call fn76 rfl (c_76 H  r4 hq53)) rfl rfl ?_
  rintro _ wd58 ⟨x55, x56, x57, rfl, rfl, H⟩
  try dsimp only at hF
  refine nq (Q_move rfl) rfl rfl <| nq (Q_extract rfl rfl) rfl rfl <| nq (Q_extract rfl rfl) rfl rfl <| nq (Q_extract rfl rfl) rfl rfl <| nq (Q_assign rfl) rfl rfl <| nq (Q_assign rfl) rfl rfl <| nq (Q_assign rfl) rfl rfl <| WL_nil <| x_then <| C_seq ?_
  obtain ⟨o67, ho67, hF⟩ := bnd hF
  refine C_cut (fun a w' => ∃ (x66 : Bool), x66 = o67 ∧ Fr 39 a [(0, .pointer (some ⟨b1, 0, none⟩)), (5, .int .i64 x55), (6, .int .u64 x56), (28, .bool x66)] ∧ Hp C w' ρ (Box b1 [v5, .int .i64 x6] :: Arr v5 1 c2 :: hs)) ?_ ?_
  · refine R_nd <| nq (Q_move rfl) rfl rfl <| nq (Q_not rfl) rfl rfl <| nq (Q_move rfl) rfl rfl ?_
    rcases Bool.eq_false_or_eq_true (!x57) with hb | hb
    · rw [hb]
      replace ho67 := itT hb ho67
      refine gs rfl rfl rfl rfl <| gs rfl rfl rfl rfl <| gs rfl rfl rfl rfl <| gs rfl rfl rfl rfl <| gs rfl rfl rfl rfl <| gs rfl rfl rfl rfl <| gs rfl rfl rfl rfl <| gs rfl rfl rfl rfl <| gs rfl rfl rfl rfl <| gs rfl rfl rfl rfl <| nq (Q_pickT rfl rfl) rfl rfl <| WL_nil ?_
      replace H := H.front 1 rfl
      dsimp only [List.eraseIdx] at H
      replace H := H.front 1 rfl
      dsimp only [List.eraseIdx] at H
      obtain rfl := Option.some.inj ho67
      refine x_A fun a hf => ⟨true, rfl, hf.sub ⟨rfl, rfl, rfl, rfl, trivial⟩, H⟩
    · rw [hb]
      replace ho67 := itF hb ho67
      refine gq (Q_move rfl) rfl rfl rfl <| gq (Q_nilP rfl) rfl rfl rfl <| gq (v := .pointer (some ⟨b1, 0, none⟩)) (Q_fld Tryd.underlying94 rfl ty92 (by decide) rfl rfl) rfl rfl rfl <| gq (v := v5) (Q_ldB (k := 0) (cs := [v5]) H.ok rfl ty92 rfl rfl rfl (fun _ => rfl) rfl) rfl rfl rfl <| gq (Q_move rfl) rfl rfl rfl ?_
      obtain ⟨x68, hx68, ho67⟩ := bnd ho67
      obtain ⟨b69, o70, hi74, hc72, ha73⟩ := arr_at (hs := [Arr v5 1 c2]) (k := 0) (by decide) (H.okS (by simp)) rfl r4 hx68
      refine gq (Q_idx hi74 Tryd.underlying92 ty95 rfl rfl) rfl rfl rfl <| gq (v := .int .u64 x68) (Q_ld (show cellsAt _ _ _ [.int .u64 x68] from (show _ = [_] from hc72) ▸ (ha73 _ (Ok.subS (by simp) H.ok))) ty95 rfl (fun _ => rfl) rfl rfl) rfl rfl rfl <| gq (Q_move rfl) rfl rfl rfl <| gq (Q_and rfl rfl) rfl rfl rfl <| gq (Q_neq rfl rfl) rfl rfl rfl <| nq (Q_pickF rfl rfl) rfl rfl <| WL_nil ?_
      replace H := H.front 1 rfl
      dsimp only [List.eraseIdx] at H
      replace H := H.front 1 rfl
      dsimp only [List.eraseIdx] at H
      obtain rfl := Option.some.inj ho67
      refine x_A fun a hf => ⟨(iand .u64 x68 x56) != 0, rfl, hf.sub ⟨rfl, rfl, rfl, rfl, trivial⟩, H⟩
  · rintro a wd75 ⟨x66, rfl, hf, H⟩
    try dsimp only at hF
    refine CW.at hf ?_
    refine C_cond rfl (fun hb => ?_) (fun hb => ?_)
    · replace hF := itT hb hF
      refine C_seq <| R_nd <| nq (Q_assign rfl) rfl rfl <| WL_nil <| x_then <| C_ret <| x_then_ret ?_
      replace H := H.front 1 rfl
      dsimp only [List.eraseIdx] at H
      replace H := H.front 1 rfl
      dsimp only [List.eraseIdx] at H
      obtain rfl := Option.some.inj hF
      exact fn_ret (l := [.tmp 4]) (vs := [.bool false]) rfl rfl rfl ⟨c2, x3, false, rfl, rfl, r4, H⟩
    · replace hF := itF hb hF
      refine C_skip <| x_then <| C_seq <| R_nd <| nq (Q_move rfl) rfl rfl <| nq (Q_nilP rfl) rfl rfl <| nq (v := .pointer (some ⟨b1, 0, none⟩)) (Q_fld Tryd.underlying94 rfl ty92 (by decide) rfl rfl) rfl rfl <| nq (v := v5) (Q_ldB (k := 0) (cs := [v5]) H.ok rfl ty92 rfl rfl rfl (fun _ => rfl) rfl) rfl rfl <| nq (Q_move rfl) rfl rfl ?_
      obtain ⟨x76, hx76, hF⟩ := bnd hF
      obtain ⟨b77, o78, hi82, hc80, ha81⟩ := arr_at (hs := [Arr v5 1 c2]) (k := 0) (by decide) (H.okS (by simp)) rfl r4 hx76
      refine nq (Q_idx hi82 Tryd.underlying92 ty95 rfl rfl) rfl rfl <| nq (v := .int .u64 x76) (Q_ld (show cellsAt _ _ _ [.int .u64 x76] from (show _ = [_] from hc80) ▸ (ha81 _ (Ok.subS (by simp) H.ok))) ty95 rfl (fun _ => rfl) rfl rfl) rfl rfl <| nq (Q_move rfl) rfl rfl <| nq (Q_or rfl rfl) rfl rfl ?_
      obtain ⟨x83, hx83, hF⟩ := bnd hF
      obtain ⟨b84, o85, hi89, hc87, ha88⟩ := arr_at (hs := [Arr v5 1 c2]) (k := 0) (by decide) (H.okS (by simp)) rfl r4 hx83
      refine nq (Q_idx hi89 Tryd.underlying92 ty95 rfl rfl) rfl rfl ?_
      obtain ⟨x90, hx90, hF⟩ := bnd hF
      obtain ⟨hs91a, hs91b, hs91c⟩ := setI_some hx90
      have r92 : rdL (eI .u64) ρ x90 (setC c2 (x55.toNat * 1 + 0) [.int .u64 (ior .u64 x76 x56)]) := hs91c ▸ rdL.set r4 hs91b (rfl)
      refine ne (E_stA (k := 1) (j := 0) (c := [.int .u64 (ior .u64 x76 x56)]) H rfl ty95 hi89 rfl rfl rfl rfl (one_cons rfl one_nil) (by decide)) rfl rfl ?_
      rintro _ wd93 H
      dsimp only [List.set] at H
      refine WL_nil <| x_then <| C_seq <| R_nd <| nq (Q_assign rfl) rfl rfl <| WL_nil <| x_then <| C_ret ?_
      replace H := H.front 1 rfl
      dsimp only [List.eraseIdx] at H
      replace H := H.front 1 rfl
      dsimp only [List.eraseIdx] at H
      obtain rfl := Option.some.inj hF
      exact fn_ret (l := [.tmp 4]) (vs := [.bool true]) rfl rfl rfl ⟨(setC c2 (x55.toNat * 1 + 0) [.int .u64 (ior .u64 x76 x56)]), x90, true, rfl, rfl, r92, H⟩
theorem c_75 {N : Nat} {C : Cx} {w : World} {ρ : View} {hs : List Hl} {v1 : Value} {b4 : Nat} {b5 : Nat} {c6 : List Value} {v9 : Value} {b11 : Nat} {c12 : List Value} {v15 : Value} {x2 : (List Int)} {x7 : (List Int)} {x10 : Int} {x13 : (List Int)} (H : Hp C w ρ (Box b4 [.pointer (some ⟨b5, 0, none⟩)] :: Box b5 [v9, .int .i64 x10] :: Arr v9 1 c6 :: Box b11 [v15] :: Arr v15 1 c12 :: hs)) (r3 : RdSl ρ (eI .i64) v1 x2) (r8 : rdL (eI .u64) ρ x7 c6) (r14 : rdL (eI .i64) ρ x13 c12) {r : ((List Int) × (List Int))} (hF : F_canon_order_1 N x2 x7 x10 x13 = some r) :
    Calls Tryd.prog 75 [v1, .pointer (some ⟨b4, 0, none⟩), .pointer (some ⟨b11, 0, none⟩)].toArray w (Rets (fun v w' => (∃ (c591 : (List Value)) (v594 : Value) (c595 : (List Value)) (x592 : (List Int)) (x596 : (List Int)), (x592, x596) = r ∧ .tuple [].toArray = v ∧ rdL (eI .u64) ρ x592 c591 ∧ rdL (eI .i64) ρ x596 c595 ∧ Hp C w' ρ (Box b4 [.pointer (some ⟨b5, 0, none⟩)] :: Box b5 [v9, .int .i64 x10] :: Arr v9 1 c591 :: Box b11 [v594] :: Arr v594 1 c595 :: hs)))) := by
  unfold F_canon_order_1 at hF
  have h0 : Tryd.f75.body = some _ := rfl
  refine fn_calls' Tryd.func75 h0 (n := 20) rfl (by simp) <| C_seq <| R_nd <| nq (Q_move rfl) rfl rfl <| nq (Q_len Tryd.underlying23 rfl r3) rfl rfl <| nq (Q_move rfl) rfl rfl <| WL_nil <| x_then ?_
  obtain ⟨o888, ho888, hF⟩ := bnd hF
  refine C_cutQ (fun a w' => ∃ (c881 : (List Value)) (v884 : Value) (c885 : (List Value)) (x882 : (List Int)) (x886 : (List Int)), (x882, x886) = o888 ∧ rdL (eI .u64) ρ x882 c881 ∧ rdL (eI .i64) ρ x886 c885 ∧ Fr 20 a [] ∧ Hp C w' ρ (Box b4 [.pointer (some ⟨b5, 0, none⟩)] :: Box b5 [v9, .int .i64 x10] :: Arr v9 1 c881 :: Box b11 [v884] :: Arr v884 1 c885 :: hs)) ?_ ?_
  · refine C_block ?_
    replace H := H.front 4 rfl
    dsimp only [List.eraseIdx] at H
    replace H := H.front 4 rfl
    dsimp only [List.eraseIdx] at H
    replace H := H.front 4 rfl
    dsimp only [List.eraseIdx] at H
    replace H := H.front 4 rfl
    dsimp only [List.eraseIdx] at H
    replace H := H.front 4 rfl
    dsimp only [List.eraseIdx] at H
    refine C_iter (f := fun s => F_canon_order_1_l0 N x2 x10 s.1 s.2.1 s.2.2) ho888 (fun s a w' => ∃ (c982 : (List Value)) (v985 : Value) (c986 : (List Value)) (x983 : (List Int)) (x987 : (List Int)) (x989 : Int), (x983, x987, x989) = s ∧ rdL (eI .u64) ρ x983 c982 ∧ rdL (eI .i64) ρ x987 c986 ∧ Fr 20 a [(1, .pointer (some ⟨b4, 0, none⟩)), (2, .pointer (some ⟨b11, 0, none⟩)), (6, v1), (7, .int .i64 (x2.length : Int)), (8, .int .i64 x989)] ∧ Hp C w' ρ (Box b4 [.pointer (some ⟨b5, 0, none⟩)] :: Box b5 [v9, .int .i64 x10] :: Arr v9 1 c982 :: Box b11 [v985] :: Arr v985 1 c986 :: hs)) ?_ ?_
    · exact fun a hf => ⟨c6, v15, c12, x7, x13, 0, rfl, r8, r14, hf.sub ⟨rfl, rfl, rfl, rfl, rfl, trivial⟩, H⟩
    · rintro s o1083 a wd1086 ⟨c982, v985, c986, x983, x987, x989, rfl, r984, r988, hf, H⟩ hB1084 hO1085
      replace hB1084 : F_canon_order_1_l0 N x2 x10 x983 x987 x989 = some o1083 := hB1084
      unfold F_canon_order_1_l0 at hB1084
      refine CW.at hf <| C_seq <| R_nd <| nq (Q_lss rfl rfl) rfl rfl <| WL_nil <| x_then <| C_seq ?_
      refine C_cond rfl (fun hb => ?_) (fun hb => ?_)
      · replace hB1084 := itT hb hB1084
        refine C_skip <| x_then ?_
        obtain ⟨o1132, ho1132, hB1084⟩ := bnd hB1084
        refine C_cut (fun a w' => ∃ (c1125 : (List Value)) (v1128 : Value) (c1129 : (List Value)) (x1126 : (List Int)) (x1130 : (List Int)), (x1126, x1130) = o1132 ∧ rdL (eI .u64) ρ x1126 c1125 ∧ rdL (eI .i64) ρ x1130 c1129 ∧ Fr 20 a [(1, .pointer (some ⟨b4, 0, none⟩)), (2, .pointer (some ⟨b11, 0, none⟩)), (6, v1), (7, .int .i64 (x2.length : Int)), (8, .int .i64 x989)] ∧ Hp C w' ρ (Box b4 [.pointer (some ⟨b5, 0, none⟩)] :: Box b5 [v9, .int .i64 x10] :: Arr v9 1 c1125 :: Box b11 [v1128] :: Arr v1128 1 c1129 :: hs)) ?_ ?_
        · refine C_block <| C_seq <| R_nd ?_
          obtain ⟨x1133, hx1133, ho1132⟩ := bnd ho1132
          obtain ⟨b1134, o1135, c1136, hc1137, ha1138, hi1139⟩ := idxR r3 hx1133
          refine nq (Q_idx hi1139 Tryd.underlying23 ty3 rfl rfl) rfl rfl <| nq (v := .int .i64 x1133) (Q_ld (show cellsAt _ _ _ [.int .i64 x1133] from (show _ = [_] from hc1137) ▸ (ha1138.up H.ok.view)) ty3 rfl (fun _ => rfl) rfl rfl) rfl rfl <| nq (Q_assign rfl) rfl rfl <| WL_nil <| x_then <| C_seq <| R_nd <| nq (v := .pointer (some ⟨b5, 0, none⟩)) (Q_ldB (k := 0) (cs := [.pointer (some ⟨b5, 0, none⟩)]) H.ok rfl ty61 rfl rfl rfl (fun _ => rfl) rfl) rfl rfl <| nq (Q_move rfl) rfl rfl ?_
          replace H := H.front 2 rfl
          dsimp only [List.eraseIdx] at H
          replace H := H.front 2 rfl
          dsimp only [List.eraseIdx] at H
          obtain ⟨q1140, hq1140, ho1132⟩ := bnd ho1132
          refine ne (E_call fn52 rfl (c_52 H  r984 hq1140)) rfl rfl ?_
          rintro _ wd1146 ⟨c1142, x1143, x1144, rfl, rfl, r1145, H⟩
          try dsimp only at ho1132
          refine WL_nil <| x_then ?_
          obtain ⟨o1160, ho1160, ho1132⟩ := bnd ho1132
          refine C_cutQ (fun a w' => ∃ (v1156 : Value) (c1157 : (List Value)) (x1158 : (List Int)), x1158 = o1160 ∧ rdL (eI .i64) ρ x1158 c1157 ∧ Fr 20 a [(1, .pointer (some ⟨b4, 0, none⟩)), (2, .pointer (some ⟨b11, 0, none⟩)), (6, v1), (7, .int .i64 (x2.length : Int)), (8, .int .i64 x989)] ∧ Hp C w' ρ (Box b4 [.pointer (some ⟨b5, 0, none⟩)] :: Box b5 [v9, .int .i64 x10] :: Arr v9 1 c1142 :: Box b11 [v1156] :: Arr v1156 1 c1157 :: hs)) ?_ ?_
          · refine C_cond rfl (fun hb => ?_) (fun hb => ?_)
            · replace ho1160 := itT hb ho1160
              refine R_nd <| nq (v := v985) (Q_ldB (k := 3) (cs := [v985]) H.ok rfl ty23 rfl rfl rfl (fun _ => rfl) rfl) rfl rfl <| nq (Q_move rfl) rfl rfl <| ne (E_bslice (xs := [.tmp 16]) (vs := [.int .i64 x1133]) H Tryd.underlying23 ty3 (by decide) (cs := [.int .i64 x1133]) rfl (sz_cons rfl sz_nil) rfl (by simp) (by simp) rfl rfl) rfl rfl ?_
              rintro _ wd1162 ⟨b1161, rfl, H⟩
              obtain ⟨x1163, hx1163, ho1160⟩ := bnd ho1160
              obtain ⟨ha1164a, ha1164b⟩ := app_some hx1163
              have r1166 : rdL (eI .i64) ρ x1163 (c986 ++ ([.int .i64 x1133])) := ha1164b ▸ rdL.app r988 (show rdL (eI .i64) ρ ([x1133]) ([.int .i64 x1133]) from ⟨([.int .i64 x1133]), _, rfl, rfl, rdL.nil⟩)
              refine ne (E_append (k := 5) H rfl Tryd.underlying23 ty3 rfl (by decide) (by decide) rfl rfl (Src.ofArr (k := 0) H.ok rfl) (rdL.one (show rdL (eI .i64) ρ ([x1133]) ([.int .i64 x1133]) from ⟨([.int .i64 x1133]), _, rfl, rfl, rdL.nil⟩)) (app_fit r988 (show rdL (eI .i64) ρ ([x1133]) ([.int .i64 x1133]) from ⟨([.int .i64 x1133]), _, rfl, rfl, rdL.nil⟩) ha1164a)) rfl rfl ?_
              rintro v1165 wd1168 ⟨H, hc1167⟩
              dsimp only [List.set] at H
              refine ne (E_stB (k := 4) (cs := [v1165]) (vs' := [v1165]) H rfl ty23 rfl rfl (arr_cells (H.ok.get (k := 5) rfl)).1 rfl (one_cons (arr_cells (H.ok.get (k := 5) rfl)).2 one_nil) (by simp) rfl) rfl rfl ?_
              rintro _ wd1169 H
              dsimp only [List.set] at H
              refine WL_nil ?_
              replace H := H.front 5 rfl
              dsimp only [List.eraseIdx] at H
              replace H := H.front 5 rfl
              dsimp only [List.eraseIdx] at H
              replace H := H.front 4 rfl
              dsimp only [List.eraseIdx] at H
              replace H := H.front 4 rfl
              dsimp only [List.eraseIdx] at H
              replace H := H.front 5 rfl
              dsimp only [List.eraseIdx] at H
              replace H := H.drop 5 rfl
              dsimp only [List.eraseIdx] at H
              obtain rfl := Option.some.inj ho1160
              refine x_A fun a hf => ⟨v1165, (c986 ++ ([.int .i64 x1133])), x1163, rfl, r1166, hf.sub ⟨rfl, rfl, rfl, rfl, rfl, trivial⟩, H⟩
            · replace ho1160 := itF hb ho1160
              refine C_skip ?_
              replace H := H.front 4 rfl
              dsimp only [List.eraseIdx] at H
              replace H := H.front 4 rfl
              dsimp only [List.eraseIdx] at H
              replace H := H.front 3 rfl
              dsimp only [List.eraseIdx] at H
              replace H := H.front 3 rfl
              dsimp only [List.eraseIdx] at H
              replace H := H.front 4 rfl
              dsimp only [List.eraseIdx] at H
              obtain rfl := Option.some.inj ho1160
              refine x_A fun a hf => ⟨v985, c986, x987, rfl, r988, hf.sub ⟨rfl, rfl, rfl, rfl, rfl, trivial⟩, H⟩
          · rintro a wd1170 ⟨v1156, c1157, x1158, rfl, r1159, hf, H⟩
            try dsimp only at ho1132
            refine XX.at hf <| x_block ?_
            replace H := H.front 4 rfl
            dsimp only [List.eraseIdx] at H
            replace H := H.front 4 rfl
            dsimp only [List.eraseIdx] at H
            replace H := H.front 4 rfl
            dsimp only [List.eraseIdx] at H
            replace H := H.front 4 rfl
            dsimp only [List.eraseIdx] at H
            replace H := H.front 4 rfl
            dsimp only [List.eraseIdx] at H
            obtain rfl := Option.some.inj ho1132
            refine x_A fun a hf => ⟨c1142, v1156, c1157, x1143, x1158, rfl, r1145, r1159, hf.sub ⟨rfl, rfl, rfl, rfl, rfl, trivial⟩, H⟩
        · rintro a wd1171 ⟨c1125, v1128, c1129, x1126, x1130, rfl, r1127, r1131, hf, H⟩
          try dsimp only at hB1084
          refine CW.at hf <| R_nd <| nq (Q_add rfl rfl) rfl rfl <| nq (Q_move rfl) rfl rfl <| WL_nil ?_
          replace H := H.front 4 rfl
          dsimp only [List.eraseIdx] at H
          replace H := H.front 4 rfl
          dsimp only [List.eraseIdx] at H
          replace H := H.front 4 rfl
          dsimp only [List.eraseIdx] at H
          replace H := H.front 4 rfl
          dsimp only [List.eraseIdx] at H
          replace H := H.front 4 rfl
          dsimp only [List.eraseIdx] at H
          obtain rfl := Option.some.inj hB1084
          refine x_A fun a hf => ⟨_, rfl, c1125, v1128, c1129, x1126, x1130, w64 (x989 + 1), rfl, r1127, r1131, hf.sub ⟨rfl, rfl, rfl, rfl, rfl, trivial⟩, H⟩
      · replace hB1084 := itF hb hB1084
        refine C_exit <| x_then_exit <| x_then_exit <| x_block_exit ?_
        replace H := H.front 4 rfl
        dsimp only [List.eraseIdx] at H
        replace H := H.front 4 rfl
        dsimp only [List.eraseIdx] at H
        replace H := H.front 4 rfl
        dsimp only [List.eraseIdx] at H
        replace H := H.front 4 rfl
        dsimp only [List.eraseIdx] at H
        replace H := H.front 4 rfl
        dsimp only [List.eraseIdx] at H
        obtain rfl := Option.some.inj hB1084
        obtain rfl := hO1085 _ rfl
        refine x_A fun a hf => ⟨c982, v985, c986, x983, x987, rfl, r984, r988, hf.sub trivial, H⟩
  · rintro a wd1172 ⟨c881, v884, c885, x882, x886, rfl, r883, r887, hf, H⟩
    try dsimp only at hF
    refine XX.at hf ?_
    replace H := H.front 4 rfl
    dsimp only [List.eraseIdx] at H
    replace H := H.front 4 rfl
    dsimp only [List.eraseIdx] at H
    replace H := H.front 4 rfl
    dsimp only [List.eraseIdx] at H
    replace H := H.front 4 rfl
    dsimp only [List.eraseIdx] at H
    replace H := H.front 4 rfl
    dsimp only [List.eraseIdx] at H
    obtain rfl := Option.some.inj hF
    exact fn_end (l := []) (vs := []) rfl rfl rfl ⟨c881, v884, c885, x882, x886, rfl, rfl, r883, r887, H⟩
theorem c_50 {N : Nat} {C : Cx} {w : World} {ρ : View} {hs : List Hl} {v1 : Value} {v4 : Value} {v7 : Value} {x2 : (List (List Int))} {x5 : (List Int)} {x8 : (List Int)} (H : Hp C w ρ (hs)) {ge0 : Value} (gl0 : GErr ρ 0 ge0) (r3 : RdSl ρ (eA 256 (eI .i64)) v1 x2) (_r6 : RdSl ρ (eI .i64) v4 x5) (r9 : RdSl ρ (eI .i64) v7 x8) {r : (List Int)} (hF : F_canon_order N x2 x5 x8 = some r) :
    Calls Tryd.prog 50 [.agg #[v1, v4, v7]].toArray w (Rets (fun v w' => (∃ (v254 : Value) (c255 : (List Value)) (x256 : (List Int)), x256 = r ∧ v254 = v ∧ rdL (eI .i64) ρ x256 c255 ∧ Hp C w' ρ (Arr v254 1 c255 :: hs)))) := by
  unfold F_canon_order at hF
  have h0 : Tryd.f50.body = some _ := rfl
  refine fn_calls' Tryd.func50 h0 (n := 42) rfl (by simp) <| C_seq <| R_nd <| ne (E_box H (vs := [v1, v4, v7]) rfl rfl) rfl rfl ?_
  rintro _ wd259 ⟨b258, rfl, H⟩
  refine nq (Q_assign rfl) rfl rfl <| WL_nil <| x_then <| C_seq <| R_nd <| nq (v := .pointer (some ⟨b258, 0, none⟩)) (Q_fld Tryd.underlying25 rfl ty22 (by decide) rfl rfl) rfl rfl <| nq (v := v1) (Q_ldB (k := 0) (cs := [v1]) H.ok rfl ty22 rfl rfl rfl (fun _ => rfl) rfl) rfl rfl <| nq (Q_len Tryd.underlying22 rfl r3) rfl rfl ?_
  obtain ⟨q260, hq260, hF⟩ := bnd hF
  refine ne (E_call fn51 rfl (c_51 H gl0  hq260)) rfl rfl ?_
  rintro _ wd267 (⟨rfl, rfl, H⟩ | ⟨b262, v263, c264, x265, rfl, rfl, r266, H⟩)
  · try dsimp only at hF
    refine nq (Q_move rfl) rfl rfl <| nq (Q_extract rfl rfl) rfl rfl <| nq (Q_extract rfl rfl) rfl rfl <| ne (E_alloc H ty61 (zs := [.pointer none]) rfl) rfl rfl ?_
    rintro _ wd269 ⟨b268, rfl, H⟩
    refine ne (E_stB (k := 0) (cs := [.pointer none]) (vs' := [.pointer none]) H rfl ty61 rfl rfl rfl rfl (one_cons rfl one_nil) (by simp) rfl) rfl rfl ?_
    rintro _ wd270 H
    dsimp only [List.set] at H
    refine nq (Q_assign rfl) rfl rfl <| WL_nil <| x_then <| C_seq <| C_seq <| R_nd <| nq (Q_move rfl) rfl rfl <| nq (v := .bool true) (Q_neqE Tryd.underlying63 gl0 rfl) rfl rfl <| WL_nil <| x_then ?_
    refine C_cond rfl (fun _ => ?_) (fun h => nomatch h)
    refine C_seq <| R_nd <| nq (Q_assign rfl) rfl rfl <| WL_nil <| x_then <| C_ret <| x_then_ret ?_
    have H := H.nilArr 1
    replace H := H.drop 1 rfl
    dsimp only [List.eraseIdx] at H
    replace H := H.drop 1 rfl
    dsimp only [List.eraseIdx] at H
    obtain rfl := Option.some.inj hF
    exact fn_ret (l := [.tmp 2]) (vs := [(.slice none 0 0)]) rfl rfl rfl ⟨(.slice none 0 0), [], [], rfl, rfl, rdL.nil, H⟩
  · try dsimp only at hF
    refine nq (Q_move rfl) rfl rfl <| nq (Q_extract rfl rfl) rfl rfl <| nq (Q_extract rfl rfl) rfl rfl <| ne (E_alloc H ty61 (zs := [.pointer none]) rfl) rfl rfl ?_
    rintro _ wd272 ⟨b271, rfl, H⟩
    refine ne (E_stB (k := 0) (cs := [.pointer (some ⟨b262, 0, none⟩)]) (vs' := [.pointer (some ⟨b262, 0, none⟩)]) H rfl ty61 rfl rfl rfl rfl (one_cons rfl one_nil) (by simp) rfl) rfl rfl ?_
    rintro _ wd273 H
    dsimp only [List.set] at H
    refine nq (Q_assign rfl) rfl rfl <| WL_nil <| x_then <| C_seq <| C_seq <| R_nd <| nq (Q_move rfl) rfl rfl <| nq (v := .bool false) (Q_neqN Tryd.underlying63 rfl) rfl rfl <| WL_nil <| x_then ?_
    refine C_cond rfl (fun h => nomatch h) (fun _ => ?_)
    refine C_skip <| x_then <| C_seq <| R_nd <| nq (v := .pointer (some ⟨b262, 0, none⟩)) (Q_ldB (k := 0) (cs := [.pointer (some ⟨b262, 0, none⟩)]) H.ok rfl ty61 rfl rfl rfl (fun _ => rfl) rfl) rfl rfl ?_
    replace H := H.front 2 rfl
    dsimp only [List.eraseIdx] at H
    replace H := H.front 2 rfl
    dsimp only [List.eraseIdx] at H
    obtain ⟨q274, hq274, hF⟩ := bnd hF
    refine ne (E_call fn52 rfl (c_52 H  r266 hq274)) rfl rfl ?_
    rintro _ wd280 ⟨c276, x277, x278, rfl, rfl, r279, H⟩
    try dsimp only at hF
    refine WL_nil <| x_then <| C_seq <| R_nd <| ne (E_bslice (xs := [.const (.int .i64 0)]) (vs := [.int .i64 0]) H Tryd.underlying23 ty3 (by decide) (cs := [.int .i64 0]) rfl (sz_cons rfl sz_nil) rfl (by simp) (by simp) rfl rfl) rfl rfl ?_
    rintro _ wd282 ⟨b281, rfl, H⟩
    refine ne (E_alloc H ty23 (zs := [.slice none 0 0]) rfl) rfl rfl ?_
    rintro _ wd284 ⟨b283, rfl, H⟩
    refine ne (E_stB (k := 0) (cs := [(.slice (some ⟨b281, 0, none⟩) 1 1)]) (vs' := [(.slice (some ⟨b281, 0, none⟩) 1 1)]) H rfl ty23 rfl rfl (arr_cells (H.ok.get (k := 1) rfl)).1 rfl (one_cons (arr_cells (H.ok.get (k := 1) rfl)).2 one_nil) (by simp) rfl) rfl rfl ?_
    rintro _ wd285 H
    dsimp only [List.set] at H
    refine WL_nil <| x_then <| C_seq <| R_nd <| nq (v := .func (.func 75) #[] [.pointer (some ⟨b271, 0, none⟩), .pointer (some ⟨b283, 0, none⟩)].toArray) (Q_func rfl) rfl rfl <| nq (Q_assign rfl) rfl rfl <| WL_nil <| x_then <| C_seq <| R_nd <| nq (Q_move rfl) rfl rfl <| nq (v := .pointer (some ⟨b258, 2, none⟩)) (Q_fld Tryd.underlying25 rfl ty23 (by decide) rfl rfl) rfl rfl <| nq (v := v7) (Q_ldB (k := 5) (cs := [v7]) H.ok rfl ty23 rfl rfl rfl (fun _ => rfl) rfl) rfl rfl ?_
    replace H := H.front 1 rfl
    dsimp only [List.eraseIdx] at H
    replace H := H.front 1 rfl
    dsimp only [List.eraseIdx] at H
    replace H := H.front 3 rfl
    dsimp only [List.eraseIdx] at H
    replace H := H.front 3 rfl
    dsimp only [List.eraseIdx] at H
    replace H := H.front 4 rfl
    dsimp only [List.eraseIdx] at H
    obtain ⟨q286, hq286, hF⟩ := bnd hF
    refine ne (E_callV fn75 rfl rfl (c_75 H  r9 r279 (show rdL (eI .i64) ρ ([0]) ([.int .i64 0]) from ⟨([.int .i64 0]), _, rfl, rfl, rdL.nil⟩) hq286)) rfl rfl ?_
    rintro _ wd295 ⟨c288, v289, c290, x291, x292, rfl, rfl, r293, r294, H⟩
    try dsimp only at hF
    refine WL_nil <| x_then <| C_seq <| C_seq <| R_nd <| nq (Q_assign rfl) rfl rfl <| WL_nil <| x_then ?_
    obtain ⟨o400, ho400, hF⟩ := bnd hF
    refine C_cutQ (fun a w' => ∃ (v396 : Value) (c397 : (List Value)) (x398 : (List Int)), x398 = o400 ∧ rdL (eI .i64) ρ x398 c397 ∧ Fr 42 a [(5, .pointer (some ⟨b283, 0, none⟩))] ∧ Hp C w' ρ (Box b283 [v396] :: Arr v396 1 c397 :: hs)) ?_ ?_
    · refine C_block ?_
      replace H := H.front 2 rfl
      dsimp only [List.eraseIdx] at H
      replace H := H.front 2 rfl
      dsimp only [List.eraseIdx] at H
      replace H := H.front 2 rfl
      dsimp only [List.eraseIdx] at H
      replace H := H.front 4 rfl
      dsimp only [List.eraseIdx] at H
      replace H := H.front 4 rfl
      dsimp only [List.eraseIdx] at H
      replace H := H.front 5 rfl
      dsimp only [List.eraseIdx] at H
      refine C_iter (f := fun s => F_canon_order_l0 N x2 s.1 s.2.1 s.2.2) ho400 (fun s a w' => ∃ (v433 : Value) (c434 : (List Value)) (c437 : (List Value)) (x435 : (List Int)) (x438 : (List Int)) (x440 : Int), (x435, x438, x440) = s ∧ rdL (eI .i64) ρ x435 c434 ∧ rdL (eI .u64) ρ x438 c437 ∧ Fr 42 a [(1, .pointer (some ⟨b258, 0, none⟩)), (5, .pointer (some ⟨b283, 0, none⟩)), (6, .func (.func 75) #[] [.pointer (some ⟨b271, 0, none⟩), .pointer (some ⟨b283, 0, none⟩)].toArray), (7, .int .i64 x440)] ∧ Hp C w' ρ (Box b258 [v1, v4, v7] :: Box b283 [v433] :: Arr v433 1 c434 :: Box b271 [.pointer (some ⟨b262, 0, none⟩)] :: Box b262 [v263, .int .i64 (x2.length : Int)] :: Arr v263 1 c437 :: hs)) ?_ ?_
      · exact fun a hf => ⟨v289, c290, c288, x292, x291, 1, rfl, r294, r293, hf.sub ⟨rfl, rfl, rfl, rfl, trivial⟩, H⟩
      · rintro s o473 a wd476 ⟨v433, c434, c437, x435, x438, x440, rfl, r436, r439, hf, H⟩ hB474 hO475
        replace hB474 : F_canon_order_l0 N x2 x435 x438 x440 = some o473 := hB474
        unfold F_canon_order_l0 at hB474
        refine CW.at hf <| C_seq <| C_seq <| R_nd <| nq (Q_move rfl) rfl rfl <| nq (v := v433) (Q_ldB (k := 1) (cs := [v433]) H.ok rfl ty23 rfl rfl rfl (fun _ => rfl) rfl) rfl rfl <| nq (Q_lenA (k := 2) H.ok rfl r436 (by decide) Tryd.underlying23 rfl) rfl rfl <| nq (Q_lss rfl rfl) rfl rfl <| WL_nil <| x_then ?_
        refine C_cond rfl (fun hb => ?_) (fun hb => ?_)
        · replace hB474 := itT hb hB474
          refine C_skip <| x_then <| C_seq <| C_block <| R_dr (.take 0 (.take 1 (.take 2 (.take 4 (.one 3 (.take 5 (.one 6 (.take 7 (.take 8 (.one 9 .done)))))))))) (fun w' => Ok w' ρ [Box b258 [v1, v4, v7], Box b271 [.pointer (some ⟨b262, 0, none⟩)], Box b262 [v263, .int .i64 (x2.length : Int)]]) (by kernel_rfl) (by kernel_rfl) (by kernel_rfl) (H.drew.okS (by simp)) ?_
          replace H := H.drew
          refine dq rfl (fun _ _ => Q_move rfl) rfl rfl <| dq (v := .pointer (some ⟨b258, 0, none⟩)) rfl (fun _ _ => Q_fld Tryd.underlying25 rfl ty22 (by decide) rfl rfl) rfl rfl <| dq (v := v1) rfl (fun _ hw => Q_ldB (k := 0) (cs := [v1]) hw rfl ty22 rfl rfl rfl (fun _ => rfl) rfl) rfl rfl <| dq rfl (fun _ _ => Q_move rfl) rfl rfl ?_
          refine d1 (de rfl (Eff.quiet (v := v433) (Q_ldB (k := 1) (cs := [v433]) H.ok rfl ty23 rfl rfl rfl (fun _ => rfl) rfl)) rfl rfl ?_)
          rintro _ _ ⟨rfl, rfl⟩
          refine ⟨H.okS (by simp), ?_⟩
          obtain ⟨x477, hx477, hB474⟩ := bnd hB474
          obtain ⟨b478, o479, hi483, hc481, ha482⟩ := arr_at (hs := [Arr v433 1 c434]) (k := 0) (by decide) (H.okS (by simp)) rfl r436 hx477
          refine dq rfl (fun _ _ => Q_idx hi483 Tryd.underlying23 ty3 rfl rfl) rfl rfl ?_
          refine d1 (de rfl (Eff.quiet (v := .int .i64 x477) (Q_ld (show cellsAt _ _ _ [.int .i64 x477] from (show _ = [_] from hc481) ▸ (ha482 _ (Ok.subS (by simp) H.ok))) ty3 rfl (fun _ => rfl) rfl rfl)) rfl rfl ?_)
          rintro _ _ ⟨rfl, rfl⟩
          refine ⟨H.okS (by simp), ?_⟩
          obtain ⟨x484, hx484, hB474⟩ := bnd hB474
          obtain ⟨b485, o486, c487, hc488, ha489, hi490⟩ := idxR r3 hx484
          refine dq rfl (fun _ _ => Q_idx hi490 Tryd.underlying22 ty58 rfl rfl) rfl rfl <| dq (v := (.slice (some ⟨b485, o486, none⟩) 256 256)) rfl (fun _ _ => Q_slE Tryd.underlying58 ty3 rfl) rfl rfl ?_
          replace H := H.front 2 rfl
          dsimp only [List.eraseIdx] at H
          replace H := H.front 2 rfl
          dsimp only [List.eraseIdx] at H
          replace H := H.front 5 rfl
          dsimp only [List.eraseIdx] at H
          replace H := H.front 5 rfl
          dsimp only [List.eraseIdx] at H
          replace H := H.front 5 rfl
          dsimp only [List.eraseIdx] at H
          obtain ⟨q491, hq491, hB474⟩ := bnd hB474
          refine d1 (de rfl (E_callV fn75 rfl rfl (c_75 H  (rd_of_arr hc488 ha489) r439 r436 hq491)) rfl rfl ?_)
          rintro _ wd500 ⟨c493, v494, c495, x496, x497, rfl, rfl, r498, r499, H⟩
          try dsimp only at hB474
          refine ⟨H.okS (by simp), ?_⟩
          refine DL_nil <| x_block <| x_then <| R_nd <| nq (Q_move rfl) rfl rfl <| nq (Q_add rfl rfl) rfl rfl <| nq (Q_assign rfl) rfl rfl <| WL_nil ?_
          replace H := H.front 2 rfl
          dsimp only [List.eraseIdx] at H
          replace H := H.front 2 rfl
          dsimp only [List.eraseIdx] at H
          replace H := H.front 2 rfl
          dsimp only [List.eraseIdx] at H
          replace H := H.front 4 rfl
          dsimp only [List.eraseIdx] at H
          replace H := H.front 4 rfl
          dsimp only [List.eraseIdx] at H
          replace H := H.front 5 rfl
          dsimp only [List.eraseIdx] at H
          obtain rfl := Option.some.inj hB474
          refine x_A fun a hf => ⟨_, rfl, v494, c495, c493, x497, x496, w64 (x440 + 1), rfl, r499, r498, hf.sub ⟨rfl, rfl, rfl, rfl, trivial⟩, H⟩
        · replace hB474 := itF hb hB474
          refine C_exit <| x_then_exit <| x_then_exit <| x_block_exit ?_
          replace H := H.front 2 rfl
          dsimp only [List.eraseIdx] at H
          replace H := H.front 2 rfl
          dsimp only [List.eraseIdx] at H
          replace H := H.drop 2 rfl
          dsimp only [List.eraseIdx] at H
          replace H := H.drop 2 rfl
          dsimp only [List.eraseIdx] at H
          replace H := H.drop 2 rfl
          dsimp only [List.eraseIdx] at H
          replace H := H.drop 2 rfl
          dsimp only [List.eraseIdx] at H
          obtain rfl := Option.some.inj hB474
          obtain rfl := hO475 _ rfl
          refine x_A fun a hf => ⟨v433, c434, x435, rfl, r436, hf.sub ⟨rfl, trivial⟩, H⟩
    · rintro a wd501 ⟨v396, c397, x398, rfl, r399, hf, H⟩
      try dsimp only at hF
      refine XX.at hf <| x_then <| C_seq <| R_nd <| nq (v := v396) (Q_ldB (k := 0) (cs := [v396]) H.ok rfl ty23 rfl rfl rfl (fun _ => rfl) rfl) rfl rfl <| nq (Q_assign rfl) rfl rfl <| WL_nil <| x_then <| C_ret ?_
      replace H := H.front 1 rfl
      dsimp only [List.eraseIdx] at H
      replace H := H.drop 1 rfl
      dsimp only [List.eraseIdx] at H
      obtain rfl := Option.some.inj hF
      exact fn_ret (l := [.tmp 2]) (vs := [v396]) rfl rfl rfl ⟨v396, c397, x398, rfl, rfl, r399, H⟩
theorem c_18 {N : Nat} {C : Cx} {w : World} {ρ : View} {hs : List Hl} {v1 : Value} {v4 : Value} {v7 : Value} {x2 : (List (List Int))} {x5 : (List Int)} {x8 : (List Int)} (H : Hp C w ρ (hs)) {ge0 : Value} (gl0 : GErr ρ 0 ge0) (r3 : RdSl ρ (eA 256 (eI .i64)) v1 x2) (r6 : RdSl ρ (eI .i64) v4 x5) (r9 : RdSl ρ (eI .i64) v7 x8) {r : (List Int)} (hF : F_canon_Order N x2 x5 x8 = some r) :
    Calls Tryd.prog 18 [.agg #[v1, v4, v7]].toArray w (Rets (fun v w' => (∃ (v23 : Value) (c24 : (List Value)) (x25 : (List Int)), x25 = r ∧ v23 = v ∧ rdL (eI .i64) ρ x25 c24 ∧ Hp C w' ρ (Arr v23 1 c24 :: hs)))) := by
  unfold F_canon_Order at hF
  have h0 : Tryd.f18.body = some _ := rfl
  refine fn_calls' Tryd.func18 h0 (n := 8) rfl (by simp) <| C_seq <| R_nd <| ne (E_box H (vs := [v1, v4, v7]) rfl rfl) rfl rfl ?_
  rintro _ wd28 ⟨b27, rfl, H⟩
  refine nq (Q_assign rfl) rfl rfl <| WL_nil <| x_then <| C_seq <| C_seq <| R_nd <| nq (v := .agg #[v1, v4, v7]) (Q_ldB (k := 0) (cs := [v1, v4, v7]) H.ok rfl ty25 rfl rfl rfl (fun h => nomatch h) rfl) rfl rfl ?_
  obtain ⟨q29, hq29, hF⟩ := bnd hF
  refine ne (E_call fn26 rfl (c_26 H  r3 r6 r9 hq29)) rfl rfl ?_
  rintro _ wd32 ⟨x31, rfl, rfl, H⟩
  try dsimp only at hF
  refine nq (Q_not rfl) rfl rfl <| WL_nil <| x_then ?_
  refine C_cond rfl (fun hb => ?_) (fun hb => ?_)
  · replace hF := itT hb hF
    refine C_seq <| R_nd <| nq (Q_assign rfl) rfl rfl <| WL_nil <| x_then <| C_ret <| x_then_ret ?_
    have H := H.nilArr 1
    replace H := H.drop 1 rfl
    dsimp only [List.eraseIdx] at H
    obtain rfl := Option.some.inj hF
    exact fn_ret (l := [.tmp 2]) (vs := [(.slice none 0 0)]) rfl rfl rfl ⟨(.slice none 0 0), [], [], rfl, rfl, rdL.nil, H⟩
  · replace hF := itF hb hF
    refine C_skip <| x_then <| C_seq <| R_nd <| nq (v := .agg #[v1, v4, v7]) (Q_ldB (k := 0) (cs := [v1, v4, v7]) H.ok rfl ty25 rfl rfl rfl (fun h => nomatch h) rfl) rfl rfl ?_
    obtain ⟨q33, hq33, hF⟩ := bnd hF
    refine ne (E_call fn50 rfl (c_50 H gl0 r3 r6 r9 hq33)) rfl rfl ?_
    rintro _ wd39 ⟨v35, c36, x37, rfl, rfl, r38, H⟩
    try dsimp only at hF
    refine nq (Q_assign rfl) rfl rfl <| WL_nil <| x_then <| C_ret ?_
    replace H := H.drop 1 rfl
    dsimp only [List.eraseIdx] at H
    obtain rfl := Option.some.inj hF
    exact fn_ret (l := [.tmp 2]) (vs := [v35]) rfl rfl rfl ⟨v35, c36, x37, rfl, rfl, r38, H⟩
theorem c_22 {N : Nat} {C : Cx} {w : World} {ρ : View} {hs : List Hl} {v1 : Value} {v4 : Value} {x2 : (List Int)} {x5 : (List Int)} (H : Hp C w ρ (hs)) (r3 : RdSl ρ (eI .i64) v1 x2) (r6 : RdSl ρ (eI .i64) v4 x5) {r : Bool} (hF : F_doffernum_SameInts N x2 x5 = some r) :
    Calls Tryd.prog 22 [v1, v4].toArray w (Rets (fun v w' => (∃ (x107 : Bool), x107 = r ∧ .bool x107 = v ∧ Hp C w' ρ (hs)))) := by
  unfold F_doffernum_SameInts at hF
  have h0 : Tryd.f22.body = some _ := rfl
  refine fn_calls' Tryd.func22 h0 (n := 26) rfl (by simp) <| C_seq <| R_nd <| nq (Q_assign rfl) rfl rfl <| WL_nil <| x_then <| C_seq <| C_seq <| R_nd <| nq (Q_move rfl) rfl rfl <| nq (Q_len Tryd.underlying23 rfl r3) rfl rfl <| nq (Q_move rfl) rfl rfl <| nq (Q_len Tryd.underlying23 rfl r6) rfl rfl <| nq (Q_neq rfl rfl) rfl rfl ?_
  refine WL_nil <| x_then ?_
  refine C_cond rfl (fun hb => ?_) (fun hb => ?_)
  · replace hF := itT hb hF
    refine C_seq <| R_nd <| nq (Q_assign rfl) rfl rfl <| WL_nil <| x_then <| C_ret <| x_then_ret ?_
    obtain rfl := Option.some.inj hF
    exact fn_ret (l := [.tmp 4]) (vs := [.bool false]) rfl rfl rfl ⟨false, rfl, rfl, H⟩
  · replace hF := itF hb hF
    refine C_skip <| x_then <| C_seq <| C_seq <| R_nd <| nq (Q_move rfl) rfl rfl <| nq (Q_len Tryd.underlying23 rfl r3) rfl rfl <| nq (Q_move rfl) rfl rfl <| WL_nil <| x_then ?_
    obtain ⟨o157, ho157, hF⟩ := bnd hF
    refine C_cutQ (fun a w' => .inl () = o157 ∧ Fr 26 a [] ∧ Hp C w' ρ (hs)) ?_ ?_
    · refine C_block ?_
      refine C_iter (f := fun s => F_doffernum_SameInts_l0 N x2 x5 s) ho157 (fun s a w' => ∃ (x173 : Int), x173 = s ∧ Fr 26 a [(0, v1), (1, v4), (12, .int .i64 (x2.length : Int)), (13, .int .i64 x173)] ∧ Hp C w' ρ (hs)) ?_ ?_
      · exact fun a hf => ⟨0, rfl, hf.sub ⟨rfl, rfl, rfl, rfl, trivial⟩, H⟩
      · rintro s o189 a wd192 ⟨x173, rfl, hf, H⟩ hB190 hO191
        replace hB190 : F_doffernum_SameInts_l0 N x2 x5 x173 = some o189 := hB190
        unfold F_doffernum_SameInts_l0 at hB190
        refine CW.at hf <| C_seq <| R_nd <| nq (Q_lss rfl rfl) rfl rfl <| WL_nil <| x_then <| C_seq ?_
        refine C_cond rfl (fun hb => ?_) (fun hb => ?_)
        · replace hB190 := itT hb hB190
          refine C_skip <| x_then <| C_seq <| C_block <| C_seq <| R_nd <| nq (Q_move rfl) rfl rfl <| nq (Q_assign rfl) rfl rfl <| WL_nil <| x_then <| C_seq <| R_dr (.take 0 (.take 1 (.take 2 (.take 3 (.take 4 (.take 5 (.take 6 (.take 7 (.take 8 .done))))))))) (fun w' => Ok w' ρ []) (by kernel_rfl) (by kernel_rfl) (by kernel_rfl) (H.drew.okS (by simp)) ?_
          replace H := H.drew
          refine dq rfl (fun _ _ => Q_move rfl) rfl rfl <| dq rfl (fun _ _ => Q_move rfl) rfl rfl ?_
          obtain ⟨x193, hx193, hB190⟩ := bnd hB190
          obtain ⟨b194, o195, c196, hc197, ha198, hi199⟩ := idxR r3 hx193
          refine dq rfl (fun _ _ => Q_idx hi199 Tryd.underlying23 ty3 rfl rfl) rfl rfl <| dq (v := .int .i64 x193) rfl (fun _ hw => Q_ld (show cellsAt _ _ _ [.int .i64 x193] from (show _ = [_] from hc197) ▸ (ha198.up hw.view)) ty3 rfl (fun _ => rfl) rfl rfl) rfl rfl <| dq rfl (fun _ _ => Q_move rfl) rfl rfl <| dq rfl (fun _ _ => Q_move rfl) rfl rfl ?_
          obtain ⟨x200, hx200, hB190⟩ := bnd hB190
          obtain ⟨b201, o202, c203, hc204, ha205, hi206⟩ := idxR r6 hx200
          refine dq rfl (fun _ _ => Q_idx hi206 Tryd.underlying23 ty3 rfl rfl) rfl rfl <| dq (v := .int .i64 x200) rfl (fun _ hw => Q_ld (show cellsAt _ _ _ [.int .i64 x200] from (show _ = [_] from hc204) ▸ (ha205.up hw.view)) ty3 rfl (fun _ => rfl) rfl rfl) rfl rfl <| dq rfl (fun _ _ => Q_neq rfl rfl) rfl rfl <| DL_nil <| x_then ?_
          refine C_cond rfl (fun hb => ?_) (fun hb => ?_)
          · replace hB190 := itT hb hB190
            refine C_seq <| R_nd <| nq (Q_assign rfl) rfl rfl <| WL_nil <| x_then <| C_ret <| x_block_ret <| x_then_ret <| x_then_ret <| x_block_ret <| x_then_ret <| x_then_ret ?_
            obtain rfl := Option.some.inj hB190
            obtain rfl := hO191 _ rfl
            obtain rfl := Option.some.inj (show some _ = some _ from hF)
            exact fn_ret (l := [.tmp 4]) (vs := [.bool false]) rfl rfl rfl ⟨false, rfl, rfl, H⟩
          · replace hB190 := itF hb hB190
            refine C_skip <| x_block <| x_then <| R_nd <| nq (Q_add rfl rfl) rfl rfl <| nq (Q_move rfl) rfl rfl <| WL_nil ?_
            obtain rfl := Option.some.inj hB190
            refine x_A fun a hf => ⟨_, rfl, w64 (x173 + 1), rfl, hf.sub ⟨rfl, rfl, rfl, rfl, trivial⟩, H⟩
        · replace hB190 := itF hb hB190
          refine C_exit <| x_then_exit <| x_then_exit <| x_block_exit ?_
          obtain rfl := Option.some.inj hB190
          obtain rfl := hO191 _ rfl
          refine x_A fun a hf => ⟨rfl, hf.sub trivial, H⟩
    · rintro a wd207 ⟨rfl, hf, H⟩
      try dsimp only at hF
      refine XX.at hf <| x_then <| C_seq <| R_nd <| nq (Q_assign rfl) rfl rfl <| WL_nil <| x_then <| C_ret ?_
      obtain rfl := Option.some.inj hF
      exact fn_ret (l := [.tmp 4]) (vs := [.bool true]) rfl rfl rfl ⟨true, rfl, rfl, H⟩
theorem c_14 {N : Nat} {C : Cx} {w : World} {ρ : View} {hs : List Hl} (H : Hp C w ρ (hs)) {ge0 : Value} (gl0 : GErr ρ 0 ge0) {r : Bool} (hF : F_dofferlaw20_alive N = some r) :
    Calls Tryd.prog 14 [].toArray w (Rets (fun v w' => (∃ (x162 : Bool), x162 = r ∧ .bool x162 = v ∧ Hp C w' ρ (hs)))) := by
  unfold F_dofferlaw20_alive at hF
  have h0 : Tryd.f14.body = some _ := rfl
  refine fn_calls' Tryd.func14 h0 (n := 20) rfl (by simp) <| C_seq <| R_nd <| nq (Q_assign rfl) rfl rfl <| WL_nil <| x_then <| C_seq <| R_nd ?_
  obtain ⟨x163, hx163, hF⟩ := bnd hF
  obtain ⟨hm165a, hm165b, hm165c⟩ := mk_some hx163
  refine ne (E_make H Tryd.underlying22 ty58 (zs := (repC 256 [.int .i64 0])) rfl (by simp [repC_length]) (by decide) (by decide) rfl hm165a hm165b) rfl rfl ?_
  rintro _ wd166 ⟨b164, rfl, H⟩
  refine ne (E_bslice (xs := [.const (.int .i64 (-1)), .const (.int .i64 0), .const (.int .i64 (-1))]) (vs := [.int .i64 (-1), .int .i64 0, .int .i64 (-1)]) H Tryd.underlying23 ty3 (by decide) (cs := [.int .i64 (-1), .int .i64 0, .int .i64 (-1)]) rfl (sz_cons rfl (sz_cons rfl (sz_cons rfl sz_nil))) rfl (by simp) (by simp) rfl rfl) rfl rfl ?_
  rintro _ wd168 ⟨b167, rfl, H⟩
  refine ne (E_bslice (xs := [.const (.int .i64 2)]) (vs := [.int .i64 2]) H Tryd.underlying23 ty3 (by decide) (cs := [.int .i64 2]) rfl (sz_cons rfl sz_nil) rfl (by simp) (by simp) rfl rfl) rfl rfl ?_
  rintro _ wd170 ⟨b169, rfl, H⟩
  refine nq (v := .agg #[(.slice (some ⟨b164, 0, none⟩) (3 : Int).toNat (3 : Int).toNat), (.slice (some ⟨b167, 0, none⟩) 3 3), (.slice (some ⟨b169, 0, none⟩) 1 1)]) (Q_buildS st25.choose_spec (ps := [(0, [(.slice (some ⟨b164, 0, none⟩) (3 : Int).toNat (3 : Int).toNat)]), (1, [(.slice (some ⟨b167, 0, none⟩) 3 3)]), (2, [(.slice (some ⟨b169, 0, none⟩) 1 1)])]) rfl ⟨rfl, (arr_cells (H.ok.get (k := 2) rfl)).1, by simp, ⟨rfl, (arr_cells (H.ok.get (k := 1) rfl)).1, by simp, ⟨rfl, (arr_cells (H.ok.get (k := 0) rfl)).1, by simp, trivial⟩⟩⟩ rfl) rfl rfl <| ne (E_alloc H ty25 (zs := [.slice none 0 0, .slice none 0 0, .slice none 0 0]) rfl) rfl rfl ?_
  rintro _ wd172 ⟨b171, rfl, H⟩
  refine ne (E_stB (k := 0) (cs := [(.slice (some ⟨b164, 0, none⟩) (3 : Int).toNat (3 : Int).toNat), (.slice (some ⟨b167, 0, none⟩) 3 3), (.slice (some ⟨b169, 0, none⟩) 1 1)]) (vs' := [(.slice (some ⟨b164, 0, none⟩) (3 : Int).toNat (3 : Int).toNat), (.slice (some ⟨b167, 0, none⟩) 3 3), (.slice (some ⟨b169, 0, none⟩) 1 1)]) H rfl ty25 rfl rfl rfl rfl (one_cons (arr_cells (H.ok.get (k := 3) rfl)).2 (one_cons (arr_cells (H.ok.get (k := 2) rfl)).2 (one_cons (arr_cells (H.ok.get (k := 1) rfl)).2 one_nil))) (by simp) rfl) rfl rfl ?_
  rintro _ wd173 H
  dsimp only [List.set] at H
  refine WL_nil <| x_then <| C_seq <| C_seq <| R_nd <| nq (Q_move rfl) rfl rfl <| WL_nil <| x_then ?_
  obtain ⟨o232, ho232, hF⟩ := bnd hF
  refine C_cutQ (fun a w' => ∃ (c229 : (List Value)) (x230 : (List (List Int))), x230 = o232 ∧ rdL (eA 256 (eI .i64)) ρ x230 c229 ∧ Fr 20 a [(1, .pointer (some ⟨b171, 0, none⟩))] ∧ Hp C w' ρ (Box b171 [(.slice (some ⟨b164, 0, none⟩) (3 : Int).toNat (3 : Int).toNat), (.slice (some ⟨b167, 0, none⟩) 3 3), (.slice (some ⟨b169, 0, none⟩) 1 1)] :: Arr (.slice (some ⟨b164, 0, none⟩) (3 : Int).toNat (3 : Int).toNat) 256 c229 :: Arr (.slice (some ⟨b167, 0, none⟩) 3 3) 1 ([.int .i64 (-1), .int .i64 0, .int .i64 (-1)]) :: Arr (.slice (some ⟨b169, 0, none⟩) 1 1) 1 ([.int .i64 2]) :: hs)) ?_ ?_
  · refine C_block ?_
    replace H := H.front 1 rfl
    dsimp only [List.eraseIdx] at H
    replace H := H.front 2 rfl
    dsimp only [List.eraseIdx] at H
    replace H := H.front 3 rfl
    dsimp only [List.eraseIdx] at H
    replace H := H.front 3 rfl
    dsimp only [List.eraseIdx] at H
    refine C_iter (f := fun s => F_dofferlaw20_alive_l0 N s.1 s.2) ho232 (fun s a w' => ∃ (c250 : (List Value)) (x251 : (List (List Int))) (x253 : Int), (x251, x253) = s ∧ rdL (eA 256 (eI .i64)) ρ x251 c250 ∧ Fr 20 a [(1, .pointer (some ⟨b171, 0, none⟩)), (7, .int .i64 x253)] ∧ Hp C w' ρ (Box b171 [(.slice (some ⟨b164, 0, none⟩) (3 : Int).toNat (3 : Int).toNat), (.slice (some ⟨b167, 0, none⟩) 3 3), (.slice (some ⟨b169, 0, none⟩) 1 1)] :: Arr (.slice (some ⟨b164, 0, none⟩) (3 : Int).toNat (3 : Int).toNat) 256 c250 :: Arr (.slice (some ⟨b167, 0, none⟩) 3 3) 1 ([.int .i64 (-1), .int .i64 0, .int .i64 (-1)]) :: Arr (.slice (some ⟨b169, 0, none⟩) 1 1) 1 ([.int .i64 2]) :: hs)) ?_ ?_
    · exact fun a hf => ⟨(repC (3 : Int).toNat (repC 256 [.int .i64 0])), x163, 0, rfl, (hm165c ▸ rdL_rep (e := (eA 256 (eI .i64))) (ρ := ρ) (⟨by simp, rdL_rep (e:=(eI .i64)) (ρ:=ρ) (rfl) 256⟩) _), hf.sub ⟨rfl, rfl, trivial⟩, H⟩
    · rintro s o271 a wd274 ⟨c250, x251, x253, rfl, r252, hf, H⟩ hB272 hO273
      replace hB272 : F_dofferlaw20_alive_l0 N x251 x253 = some o271 := hB272
      unfold F_dofferlaw20_alive_l0 at hB272
      refine CW.at hf <| C_seq <| R_nd <| nq (Q_lss rfl rfl) rfl rfl <| WL_nil <| x_then <| C_seq ?_
      refine C_cond rfl (fun hb => ?_) (fun hb => ?_)
      · replace hB272 := itT hb hB272
        refine C_skip <| x_then <| C_seq <| C_block <| C_seq <| R_nd <| nq (Q_move rfl) rfl rfl <| nq (Q_assign rfl) rfl rfl <| WL_nil <| x_then <| R_nd <| nq (v := .pointer (some ⟨b171, 0, none⟩)) (Q_fld Tryd.underlying25 rfl ty22 (by decide) rfl rfl) rfl rfl <| nq (v := (.slice (some ⟨b164, 0, none⟩) (3 : Int).toNat (3 : Int).toNat)) (Q_ldB (k := 0) (cs := [(.slice (some ⟨b164, 0, none⟩) (3 : Int).toNat (3 : Int).toNat)]) H.ok rfl ty22 rfl rfl rfl (fun _ => rfl) rfl) rfl rfl <| nq (Q_move rfl) rfl rfl ?_
        obtain ⟨x275, hx275, hB272⟩ := bnd hB272
        obtain ⟨b276, o277, hi281, hc279, ha280⟩ := arr_at (hs := [Arr (.slice (some ⟨b164, 0, none⟩) (3 : Int).toNat (3 : Int).toNat) 256 c250]) (k := 0) (by decide) (H.okS (by simp)) rfl r252 hx275
        refine nq (Q_idx hi281 Tryd.underlying22 ty58 rfl rfl) rfl rfl ?_
        obtain ⟨x282, hx282, hB272⟩ := bnd hB272
        have hn283 := idx_lt hc279.1 hx282
        refine nq (Q_idxA hn283.1 hn283.2 Tryd.underlying58 ty3 rfl rfl) rfl rfl ?_
        obtain ⟨x284, hx284, hB272⟩ := bnd hB272
        obtain ⟨x285, hx285, hB272⟩ := bnd hB272
        have r286 : rdL (eA 256 (eI .i64)) ρ x285 (setC c250 ((2 : Int).toNat * 256 + x253.toNat * 1) [.int .i64 1]) := rdL_set2 (e := (eI .i64)) (N := 256) r252 hc279 hx284 hx285 (rfl)
        refine ne (E_stA (k := 1) (j := x253.toNat * 1) (c := [.int .i64 1]) H rfl ty3 hi281 rfl rfl rfl rfl (one_cons rfl one_nil) (idx_fit (N := 256) (m := 1) (idx_lt hc279.1 hx282))) rfl rfl ?_
        rintro _ wd287 H
        dsimp only [List.set] at H
        refine WL_nil <| x_block <| x_then <| R_nd <| nq (Q_add rfl rfl) rfl rfl <| nq (Q_move rfl) rfl rfl <| WL_nil ?_
        replace H := H.front 3 rfl
        dsimp only [List.eraseIdx] at H
        replace H := H.front 3 rfl
        dsimp only [List.eraseIdx] at H
        replace H := H.front 3 rfl
        dsimp only [List.eraseIdx] at H
        replace H := H.front 3 rfl
        dsimp only [List.eraseIdx] at H
        obtain rfl := Option.some.inj hB272
        refine x_A fun a hf => ⟨_, rfl, (setC c250 ((2 : Int).toNat * 256 + x253.toNat * 1) [.int .i64 1]), x285, w64 (x253 + 1), rfl, r286, hf.sub ⟨rfl, rfl, trivial⟩, H⟩
      · replace hB272 := itF hb hB272
        refine C_exit <| x_then_exit <| x_then_exit <| x_block_exit ?_
        replace H := H.front 3 rfl
        dsimp only [List.eraseIdx] at H
        replace H := H.front 3 rfl
        dsimp only [List.eraseIdx] at H
        replace H := H.front 3 rfl
        dsimp only [List.eraseIdx] at H
        replace H := H.front 3 rfl
        dsimp only [List.eraseIdx] at H
        obtain rfl := Option.some.inj hB272
        obtain rfl := hO273 _ rfl
        refine x_A fun a hf => ⟨c250, x251, rfl, r252, hf.sub ⟨rfl, trivial⟩, H⟩
  · rintro a wd288 ⟨c229, x230, rfl, r231, hf, H⟩
    try dsimp only at hF
    refine XX.at hf <| x_then <| C_seq <| R_nd <| nq (v := .agg #[(.slice (some ⟨b164, 0, none⟩) (3 : Int).toNat (3 : Int).toNat), (.slice (some ⟨b167, 0, none⟩) 3 3), (.slice (some ⟨b169, 0, none⟩) 1 1)]) (Q_ldB (k := 0) (cs := [(.slice (some ⟨b164, 0, none⟩) (3 : Int).toNat (3 : Int).toNat), (.slice (some ⟨b167, 0, none⟩) 3 3), (.slice (some ⟨b169, 0, none⟩) 1 1)]) H.ok rfl ty25 rfl rfl rfl (fun h => nomatch h) rfl) rfl rfl ?_
    replace H := H.front 3 rfl
    dsimp only [List.eraseIdx] at H
    replace H := H.front 3 rfl
    dsimp only [List.eraseIdx] at H
    replace H := H.front 3 rfl
    dsimp only [List.eraseIdx] at H
    obtain ⟨q289, hq289, hF⟩ := bnd hF
    obtain ⟨C', ρ', hl290, HA, hL, hback⟩ := Hp.lend (A := []) (L := [Arr (.slice (some ⟨b164, 0, none⟩) (3 : Int).toNat (3 : Int).toNat) 256 c229, Arr (.slice (some ⟨b167, 0, none⟩) 3 3) 1 ([.int .i64 (-1), .int .i64 0, .int .i64 (-1)]), Arr (.slice (some ⟨b169, 0, none⟩) 1 1) 1 ([.int .i64 2])]) (F := Box b171 [(.slice (some ⟨b164, 0, none⟩) (3 : Int).toNat (3 : Int).toNat), (.slice (some ⟨b167, 0, none⟩) 3 3), (.slice (some ⟨b169, 0, none⟩) 1 1)] :: hs) H
    refine ne (E_call fn18 rfl (c_18 HA (gl0.up hl290) (arr_rd (by decide) hl290 (hL (Arr (.slice (some ⟨b164, 0, none⟩) (3 : Int).toNat (3 : Int).toNat) 256 c229) (by simp)) r231) (arr_rd (by decide) hl290 (hL (Arr (.slice (some ⟨b167, 0, none⟩) 3 3) 1 ([.int .i64 (-1), .int .i64 0, .int .i64 (-1)])) (by simp)) (show rdL (eI .i64) ρ ([(-1), 0, (-1)]) ([.int .i64 (-1), .int .i64 0, .int .i64 (-1)]) from ⟨([.int .i64 (-1)]), _, rfl, rfl, ⟨([.int .i64 0]), _, rfl, rfl, ⟨([.int .i64 (-1)]), _, rfl, rfl, rdL.nil⟩⟩⟩)) (arr_rd (by decide) hl290 (hL (Arr (.slice (some ⟨b169, 0, none⟩) 1 1) 1 ([.int .i64 2])) (by simp)) (show rdL (eI .i64) ρ ([2]) ([.int .i64 2]) from ⟨([.int .i64 2]), _, rfl, rfl, rdL.nil⟩)) hq289)) rfl rfl ?_
    rintro _ wd295 ⟨v291, c292, x293, rfl, rfl, r294, H⟩
    try dsimp only at hF
    replace H := hback H
    replace r294 := rdL.flat (ρ := ρ') (ρ' := ρ) (flat_I _) r294
    dsimp only [List.cons_append, List.nil_append] at H
    refine ne (E_bslice (xs := [.const (.int .i64 0), .const (.int .i64 2), .const (.int .i64 1)]) (vs := [.int .i64 0, .int .i64 2, .int .i64 1]) H Tryd.underlying23 ty3 (by decide) (cs := [.int .i64 0, .int .i64 2, .int .i64 1]) rfl (sz_cons rfl (sz_cons rfl (sz_cons rfl sz_nil))) rfl (by simp) (by simp) rfl rfl) rfl rfl ?_
    rintro _ wd297 ⟨b296, rfl, H⟩
    replace H := H.front 1 rfl
    dsimp only [List.eraseIdx] at H
    obtain ⟨q298, hq298, hF⟩ := bnd hF
    obtain ⟨C', ρ', hl299, HA, hL, hback⟩ := Hp.lend (A := []) (L := [Arr v291 1 c292, Arr (.slice (some ⟨b296, 0, none⟩) 3 3) 1 ([.int .i64 0, .int .i64 2, .int .i64 1])]) (F := Arr (.slice (some ⟨b164, 0, none⟩) (3 : Int).toNat (3 : Int).toNat) 256 c229 :: Arr (.slice (some ⟨b167, 0, none⟩) 3 3) 1 ([.int .i64 (-1), .int .i64 0, .int .i64 (-1)]) :: Arr (.slice (some ⟨b169, 0, none⟩) 1 1) 1 ([.int .i64 2]) :: Box b171 [(.slice (some ⟨b164, 0, none⟩) (3 : Int).toNat (3 : Int).toNat), (.slice (some ⟨b167, 0, none⟩) 3 3), (.slice (some ⟨b169, 0, none⟩) 1 1)] :: hs) H
    refine ne (E_call fn22 rfl (c_22 HA  (arr_rd (by decide) hl299 (hL (Arr v291 1 c292) (by simp)) r294) (arr_rd (by decide) hl299 (hL (Arr (.slice (some ⟨b296, 0, none⟩) 3 3) 1 ([.int .i64 0, .int .i64 2, .int .i64 1])) (by simp)) (show rdL (eI .i64) ρ ([0, 2, 1]) ([.int .i64 0, .int .i64 2, .int .i64 1]) from ⟨([.int .i64 0]), _, rfl, rfl, ⟨([.int .i64 2]), _, rfl, rfl, ⟨([.int .i64 1]), _, rfl, rfl, rdL.nil⟩⟩⟩)) hq298)) rfl rfl ?_
    rintro _ wd301 ⟨x300, rfl, rfl, H⟩
    try dsimp only at hF
    replace H := hback H
    dsimp only [List.cons_append, List.nil_append] at H
    refine nq (Q_assign rfl) rfl rfl <| WL_nil <| x_then <| C_ret ?_
    replace H := H.drop 0 rfl
    dsimp only [List.eraseIdx] at H
    replace H := H.drop 0 rfl
    dsimp only [List.eraseIdx] at H
    replace H := H.drop 0 rfl
    dsimp only [List.eraseIdx] at H
    replace H := H.drop 0 rfl
    dsimp only [List.eraseIdx] at H
    replace H := H.drop 0 rfl
    dsimp only [List.eraseIdx] at H
    replace H := H.drop 0 rfl
    dsimp only [List.eraseIdx] at H
    obtain rfl := Option.some.inj hF
    exact fn_ret (l := [.tmp 0]) (vs := [.bool x300]) rfl rfl rfl ⟨x300, rfl, rfl, H⟩
theorem c_16 {N : Nat} {C : Cx} {w : World} {ρ : View} {hs : List Hl} {v1 : Value} {v4 : Value} {v7 : Value} {x2 : (List (List Int))} {x5 : (List Int)} {x8 : (List Int)} (H : Hp C w ρ (hs)) {ge0 : Value} (gl0 : GErr ρ 0 ge0) (r3 : RdSl ρ (eA 256 (eI .i64)) v1 x2) (r6 : RdSl ρ (eI .i64) v4 x5) (r9 : RdSl ρ (eI .i64) v7 x8) {r : ((List (List Int)) × (List Int) × (List Int))} (hF : F_canon_Canon N x2 x5 x8 = some r) :
    Calls Tryd.prog 16 [.agg #[v1, v4, v7]].toArray w (Rets (fun v w' => (∃ (v1966 : Value) (c1967 : (List Value)) (v1970 : Value) (c1971 : (List Value)) (v1974 : Value) (c1975 : (List Value)) (x1968 : (List (List Int))) (x1972 : (List Int)) (x1976 : (List Int)), (x1968, x1972, x1976) = r ∧ .agg #[v1966, v1970, v1974] = v ∧ rdL (eA 256 (eI .i64)) ρ x1968 c1967 ∧ rdL (eI .i64) ρ x1972 c1971 ∧ rdL (eI .i64) ρ x1976 c1975 ∧ Hp C w' ρ (Arr v1966 256 c1967 :: Arr v1970 1 c1971 :: Arr v1974 1 c1975 :: hs)))) := by
  unfold F_canon_Canon at hF
  have h0 : Tryd.f16.body = some _ := rfl
  refine fn_calls' Tryd.func16 h0 (n := 95) rfl (by simp) <| C_seq <| R_nd <| ne (E_box H (vs := [v1, v4, v7]) rfl rfl) rfl rfl ?_
  rintro _ wd1979 ⟨b1978, rfl, H⟩
  refine ne (E_alloc H ty25 (zs := [.slice none 0 0, .slice none 0 0, .slice none 0 0]) rfl) rfl rfl ?_
  rintro _ wd1981 ⟨b1980, rfl, H⟩
  refine WL_nil <| x_then <| C_seq <| R_nd <| ne (E_alloc H ty25 (zs := [.slice none 0 0, .slice none 0 0, .slice none 0 0]) rfl) rfl rfl ?_
  rintro _ wd1983 ⟨b1982, rfl, H⟩
  refine WL_nil <| x_then <| C_seq <| R_nd <| nq (v := .agg #[v1, v4, v7]) (Q_ldB (k := 2) (cs := [v1, v4, v7]) H.ok rfl ty25 rfl rfl rfl (fun h => nomatch h) rfl) rfl rfl ?_
  obtain ⟨q1984, hq1984, hF⟩ := bnd hF
  refine ne (E_call fn18 rfl (c_18 H gl0 r3 r6 r9 hq1984)) rfl rfl ?_
  rintro _ wd1990 ⟨v1986, c1987, x1988, rfl, rfl, r1989, H⟩
  try dsimp only at hF
  refine nq (Q_assign rfl) rfl rfl <| WL_nil <| x_then <| C_seq <| R_nd <| nq (v := .pointer (some ⟨b1978, 0, none⟩)) (Q_fld Tryd.underlying25 rfl ty22 (by decide) rfl rfl) rfl rfl <| nq (v := v1) (Q_ldB (k := 3) (cs := [v1]) H.ok rfl ty22 rfl rfl rfl (fun _ => rfl) rfl) rfl rfl <| nq (Q_len Tryd.underlying22 rfl r3) rfl rfl ?_
  obtain ⟨x1991, hx1991, hF⟩ := bnd hF
  obtain ⟨hm1993a, hm1993b, hm1993c⟩ := mk_some hx1991
  refine ne (E_make H Tryd.underlying23 ty3 (zs := [.int .i64 0]) rfl rfl (by decide) (by decide) rfl hm1993a hm1993b) rfl rfl ?_
  rintro _ wd1994 ⟨b1992, rfl, H⟩
  refine nq (Q_assign rfl) rfl rfl <| WL_nil <| x_then <| C_seq <| C_seq <| R_nd <| nq (Q_move rfl) rfl rfl <| nq (Q_lenA (k := 1) H.ok rfl r1989 (by decide) Tryd.underlying23 rfl) rfl rfl <| nq (Q_move rfl) rfl rfl <| WL_nil <| x_then ?_
  obtain ⟨o2068, ho2068, hF⟩ := bnd hF
  refine C_cutQ (fun a w' => ∃ (c2065 : (List Value)) (x2066 : (List Int)), x2066 = o2068 ∧ rdL (eI .i64) ρ x2066 c2065 ∧ Fr 95 a [(1, .pointer (some ⟨b1978, 0, none⟩)), (2, .pointer (some ⟨b1980, 0, none⟩)), (3, .pointer (some ⟨b1982, 0, none⟩)), (4, v1986), (5, (.slice (some ⟨b1992, 0, none⟩) (x2.length : Int).toNat (x2.length : Int).toNat))] ∧ Hp C w' ρ (Box b1978 [v1, v4, v7] :: Box b1980 [.slice none 0 0, .slice none 0 0, .slice none 0 0] :: Box b1982 [.slice none 0 0, .slice none 0 0, .slice none 0 0] :: Arr v1986 1 c1987 :: Arr (.slice (some ⟨b1992, 0, none⟩) (x2.length : Int).toNat (x2.length : Int).toNat) 1 c2065 :: hs)) ?_ ?_
  · refine C_block ?_
    replace H := H.front 2 rfl
    dsimp only [List.eraseIdx] at H
    replace H := H.front 2 rfl
    dsimp only [List.eraseIdx] at H
    replace H := H.front 3 rfl
    dsimp only [List.eraseIdx] at H
    replace H := H.front 4 rfl
    dsimp only [List.eraseIdx] at H
    refine C_iter (f := fun s => F_canon_Canon_l0 N x1988 s.1 s.2) ho2068 (fun s a w' => ∃ (c2092 : (List Value)) (x2091 : Int) (x2093 : (List Int)), (x2091, x2093) = s ∧ rdL (eI .i64) ρ x2093 c2092 ∧ Fr 95 a [(1, .pointer (some ⟨b1978, 0, none⟩)), (2, .pointer (some ⟨b1980, 0, none⟩)), (3, .pointer (some ⟨b1982, 0, none⟩)), (4, v1986), (5, (.slice (some ⟨b1992, 0, none⟩) (x2.length : Int).toNat (x2.length : Int).toNat)), (21, v1986), (22, .int .i64 (x1988.length : Int)), (23, .int .i64 x2091)] ∧ Hp C w' ρ (Box b1978 [v1, v4, v7] :: Box b1980 [.slice none 0 0, .slice none 0 0, .slice none 0 0] :: Arr v1986 1 c1987 :: Box b1982 [.slice none 0 0, .slice none 0 0, .slice none 0 0] :: Arr (.slice (some ⟨b1992, 0, none⟩) (x2.length : Int).toNat (x2.length : Int).toNat) 1 c2092 :: hs)) ?_ ?_
    · exact fun a hf => ⟨(repC (x2.length : Int).toNat [.int .i64 0]), 0, x1991, rfl, (hm1993c ▸ rdL_rep (e := (eI .i64)) (ρ := ρ) (rfl) _), hf.sub ⟨rfl, rfl, rfl, rfl, rfl, rfl, rfl, rfl, trivial⟩, H⟩
    · rintro s o2117 a wd2120 ⟨c2092, x2091, x2093, rfl, r2094, hf, H⟩ hB2118 hO2119
      replace hB2118 : F_canon_Canon_l0 N x1988 x2091 x2093 = some o2117 := hB2118
      unfold F_canon_Canon_l0 at hB2118
      refine CW.at hf <| C_seq <| R_nd <| nq (Q_lss rfl rfl) rfl rfl <| WL_nil <| x_then <| C_seq ?_
      refine C_cond rfl (fun hb => ?_) (fun hb => ?_)
      · replace hB2118 := itT hb hB2118
        refine C_skip <| x_then <| C_seq <| C_block <| C_seq <| R_nd <| nq (Q_move rfl) rfl rfl ?_
        obtain ⟨x2121, hx2121, hB2118⟩ := bnd hB2118
        obtain ⟨b2122, o2123, hi2127, hc2125, ha2126⟩ := arr_at (hs := [Arr v1986 1 c1987]) (k := 0) (by decide) (H.okS (by simp)) rfl r1989 hx2121
        refine nq (Q_idx hi2127 Tryd.underlying23 ty3 rfl rfl) rfl rfl <| nq (v := .int .i64 x2121) (Q_ld (show cellsAt _ _ _ [.int .i64 x2121] from (show _ = [_] from hc2125) ▸ (ha2126 _ (Ok.subS (by simp) H.ok))) ty3 rfl (fun _ => rfl) rfl rfl) rfl rfl <| nq (Q_assign rfl) rfl rfl <| nq (Q_assign rfl) rfl rfl <| WL_nil <| x_then <| R_nd <| nq (Q_move rfl) rfl rfl <| nq (Q_move rfl) rfl rfl <| nq (Q_move rfl) rfl rfl ?_
        obtain ⟨x2128, hx2128, hB2118⟩ := bnd hB2118
        obtain ⟨b2129, o2130, hi2134, hc2132, ha2133⟩ := arr_at (hs := [Arr (.slice (some ⟨b1992, 0, none⟩) (x2.length : Int).toNat (x2.length : Int).toNat) 1 c2092]) (k := 0) (by decide) (H.okS (by simp)) rfl r2094 hx2128
        refine nq (Q_idx hi2134 Tryd.underlying23 ty3 rfl rfl) rfl rfl ?_
        obtain ⟨x2135, hx2135, hB2118⟩ := bnd hB2118
        obtain ⟨hs2136a, hs2136b, hs2136c⟩ := setI_some hx2135
        have r2137 : rdL (eI .i64) ρ x2135 (setC c2092 (x2121.toNat * 1 + 0) [.int .i64 x2091]) := hs2136c ▸ rdL.set r2094 hs2136b (rfl)
        refine ne (E_stA (k := 4) (j := 0) (c := [.int .i64 x2091]) H rfl ty3 hi2134 rfl rfl rfl rfl (one_cons rfl one_nil) (by decide)) rfl rfl ?_
        rintro _ wd2138 H
        dsimp only [List.set] at H
        refine WL_nil <| x_block <| x_then <| R_nd <| nq (Q_add rfl rfl) rfl rfl <| nq (Q_move rfl) rfl rfl <| WL_nil ?_
        replace H := H.front 4 rfl
        dsimp only [List.eraseIdx] at H
        replace H := H.front 4 rfl
        dsimp only [List.eraseIdx] at H
        replace H := H.front 4 rfl
        dsimp only [List.eraseIdx] at H
        replace H := H.front 4 rfl
        dsimp only [List.eraseIdx] at H
        replace H := H.front 4 rfl
        dsimp only [List.eraseIdx] at H
        obtain rfl := Option.some.inj hB2118
        refine x_A fun a hf => ⟨_, rfl, (setC c2092 (x2121.toNat * 1 + 0) [.int .i64 x2091]), w64 (x2091 + 1), x2135, rfl, r2137, hf.sub ⟨rfl, rfl, rfl, rfl, rfl, rfl, rfl, rfl, trivial⟩, H⟩
      · replace hB2118 := itF hb hB2118
        refine C_exit <| x_then_exit <| x_then_exit <| x_block_exit ?_
        replace H := H.front 4 rfl
        dsimp only [List.eraseIdx] at H
        replace H := H.front 3 rfl
        dsimp only [List.eraseIdx] at H
        replace H := H.front 4 rfl
        dsimp only [List.eraseIdx] at H
        replace H := H.front 4 rfl
        dsimp only [List.eraseIdx] at H
        replace H := H.front 4 rfl
        dsimp only [List.eraseIdx] at H
        obtain rfl := Option.some.inj hB2118
        obtain rfl := hO2119 _ rfl
        refine x_A fun a hf => ⟨c2092, x2093, rfl, r2094, hf.sub ⟨rfl, rfl, rfl, rfl, rfl, trivial⟩, H⟩
  · rintro a wd2139 ⟨c2065, x2066, rfl, r2067, hf, H⟩
    try dsimp only at hF
    refine XX.at hf <| x_then <| C_seq <| C_seq <| R_nd <| nq (Q_move rfl) rfl rfl <| nq (Q_lenA (k := 3) H.ok rfl r1989 (by decide) Tryd.underlying23 rfl) rfl rfl <| nq (Q_move rfl) rfl rfl <| WL_nil <| x_then ?_
    obtain ⟨o2827, ho2827, hF⟩ := bnd hF
    refine C_cutQ (fun a w' => ∃ (v2819 : Value) (c2820 : (List Value)) (v2823 : Value) (c2824 : (List Value)) (x2821 : (List (List Int))) (x2825 : (List Int)), (x2821, x2825) = o2827 ∧ rdL (eA 256 (eI .i64)) ρ x2821 c2820 ∧ rdL (eI .i64) ρ x2825 c2824 ∧ Fr 95 a [(1, .pointer (some ⟨b1978, 0, none⟩)), (2, .pointer (some ⟨b1980, 0, none⟩)), (3, .pointer (some ⟨b1982, 0, none⟩)), (4, v1986), (5, (.slice (some ⟨b1992, 0, none⟩) (x2.length : Int).toNat (x2.length : Int).toNat))] ∧ Hp C w' ρ (Box b1978 [v1, v4, v7] :: Box b1980 [.slice none 0 0, .slice none 0 0, .slice none 0 0] :: Box b1982 [v2819, v2823, .slice none 0 0] :: Arr v2819 256 c2820 :: Arr v2823 1 c2824 :: Arr v1986 1 c1987 :: Arr (.slice (some ⟨b1992, 0, none⟩) (x2.length : Int).toNat (x2.length : Int).toNat) 1 c2065 :: hs)) ?_ ?_
    · refine C_block ?_
      have H := H.nilArr 256
      have H := H.nilArr 1
      replace H := H.front 6 rfl
      dsimp only [List.eraseIdx] at H
      replace H := H.front 6 rfl
      dsimp only [List.eraseIdx] at H
      replace H := H.front 2 rfl
      dsimp only [List.eraseIdx] at H
      replace H := H.front 3 rfl
      dsimp only [List.eraseIdx] at H
      replace H := H.front 6 rfl
      dsimp only [List.eraseIdx] at H
      replace H := H.front 6 rfl
      dsimp only [List.eraseIdx] at H
      replace H := H.front 6 rfl
      dsimp only [List.eraseIdx] at H
      refine C_iter (f := fun s => F_canon_Canon_l1 N x2 x5 x1988 x2066 s.1 s.2.1 s.2.2) ho2827 (fun s a w' => ∃ (v3053 : Value) (c3054 : (List Value)) (v3057 : Value) (c3058 : (List Value)) (x3055 : (List (List Int))) (x3059 : (List Int)) (x3061 : Int), (x3055, x3059, x3061) = s ∧ rdL (eA 256 (eI .i64)) ρ x3055 c3054 ∧ rdL (eI .i64) ρ x3059 c3058 ∧ Fr 95 a [(1, .pointer (some ⟨b1978, 0, none⟩)), (2, .pointer (some ⟨b1980, 0, none⟩)), (3, .pointer (some ⟨b1982, 0, none⟩)), (4, v1986), (5, (.slice (some ⟨b1992, 0, none⟩) (x2.length : Int).toNat (x2.length : Int).toNat)), (33, v1986), (34, .int .i64 (x1988.length : Int)), (35, .int .i64 x3061)] ∧ Hp C w' ρ (Box b1978 [v1, v4, v7] :: Box b1980 [.slice none 0 0, .slice none 0 0, .slice none 0 0] :: Box b1982 [v3053, v3057, .slice none 0 0] :: Arr v3053 256 c3054 :: Arr v3057 1 c3058 :: Arr v1986 1 c1987 :: Arr (.slice (some ⟨b1992, 0, none⟩) (x2.length : Int).toNat (x2.length : Int).toNat) 1 c2065 :: hs)) ?_ ?_
      · exact fun a hf => ⟨(.slice none 0 0), [], (.slice none 0 0), [], [], [], 0, rfl, rdL.nil, rdL.nil, hf.sub ⟨rfl, rfl, rfl, rfl, rfl, rfl, rfl, rfl, trivial⟩, H⟩
      · rintro s o3287 a wd3290 ⟨v3053, c3054, v3057, c3058, x3055, x3059, x3061, rfl, r3056, r3060, hf, H⟩ hB3288 hO3289
        replace hB3288 : F_canon_Canon_l1 N x2 x5 x1988 x2066 x3055 x3059 x3061 = some o3287 := hB3288
        unfold F_canon_Canon_l1 at hB3288
        refine CW.at hf <| C_seq <| R_nd <| nq (Q_lss rfl rfl) rfl rfl <| WL_nil <| x_then <| C_seq ?_
        refine C_cond rfl (fun hb => ?_) (fun hb => ?_)
        · replace hB3288 := itT hb hB3288
          refine C_skip <| x_then <| C_seq <| C_block <| C_seq <| R_nd ?_
          obtain ⟨x3291, hx3291, hB3288⟩ := bnd hB3288
          obtain ⟨b3292, o3293, hi3297, hc3295, ha3296⟩ := arr_at (hs := [Arr v1986 1 c1987]) (k := 0) (by decide) (H.okS (by simp)) rfl r1989 hx3291
          refine nq (Q_idx hi3297 Tryd.underlying23 ty3 rfl rfl) rfl rfl <| nq (v := .int .i64 x3291) (Q_ld (show cellsAt _ _ _ [.int .i64 x3291] from (show _ = [_] from hc3295) ▸ (ha3296 _ (Ok.subS (by simp) H.ok))) ty3 rfl (fun _ => rfl) rfl rfl) rfl rfl <| nq (Q_assign rfl) rfl rfl <| WL_nil <| x_then <| C_seq <| R_nd <| nq (v := .pointer (some ⟨b1978, 0, none⟩)) (Q_fld Tryd.underlying25 rfl ty22 (by decide) rfl rfl) rfl rfl <| nq (v := v1) (Q_ldB (k := 0) (cs := [v1]) H.ok rfl ty22 rfl rfl rfl (fun _ => rfl) rfl) rfl rfl <| nq (Q_move rfl) rfl rfl ?_
          obtain ⟨x3298, hx3298, hB3288⟩ := bnd hB3288
          obtain ⟨b3299, o3300, c3301, hc3302, ha3303, hi3304⟩ := idxR r3 hx3298
          refine nq (Q_idx hi3304 Tryd.underlying22 ty58 rfl rfl) rfl rfl <| nq (v := .agg c3301.toArray) (Q_ld (ha3303.up H.ok.view) ty58 ((eA 256 (eI .i64)).len hc3302) (fun h => nomatch h) rfl rfl) rfl rfl <| ne (E_allocA (N := 256) (n := 1) (zs := (repC 256 [.int .i64 0])) H ty58 rfl (by simp [repC_length])) rfl rfl ?_
          rintro _ wd3306 ⟨b3305, rfl, H⟩
          refine ne (E_stW (k := 0) H rfl ty58 rfl rfl (rdL.one hc3302.2) (arr_clen (rdL_rep (e:=(eI .i64)) (ρ:=ρ) (rfl) 256) List.length_replicate) (arr_clen hc3302.2 hc3302.1)) rfl rfl ?_
          rintro _ wd3307 H
          dsimp only [List.set] at H
          refine WL_nil <| x_then <| C_seq <| C_seq <| R_nd <| nq (Q_ldW (k := 0) H.ok rfl ty58 rfl (arr_clen hc3302.2 hc3302.1)) rfl rfl <| nq (Q_move rfl) rfl rfl <| WL_nil <| x_then ?_
          obtain ⟨o3376, ho3376, hB3288⟩ := bnd hB3288
          refine C_cutQ (fun a w' => ∃ (c3372 : (List Value)) (x3373 : (List Int)), x3373 = o3376 ∧ rdL (eI .i64) ρ x3373 c3372 ∧ x3373.length = 256 ∧ Fr 95 a [(1, .pointer (some ⟨b1978, 0, none⟩)), (2, .pointer (some ⟨b1980, 0, none⟩)), (3, .pointer (some ⟨b1982, 0, none⟩)), (4, v1986), (5, (.slice (some ⟨b1992, 0, none⟩) (x2.length : Int).toNat (x2.length : Int).toNat)), (9, .int .i64 x3291), (10, .pointer (some ⟨b3305, 0, none⟩)), (33, v1986), (34, .int .i64 (x1988.length : Int)), (35, .int .i64 x3061)] ∧ Hp C w' ρ (Box b1978 [v1, v4, v7] :: Arr (.slice (some ⟨b3305, 0, none⟩) 256 256) 1 c3372 :: Box b1980 [.slice none 0 0, .slice none 0 0, .slice none 0 0] :: Box b1982 [v3053, v3057, .slice none 0 0] :: Arr v3053 256 c3054 :: Arr v3057 1 c3058 :: Arr v1986 1 c1987 :: Arr (.slice (some ⟨b1992, 0, none⟩) (x2.length : Int).toNat (x2.length : Int).toNat) 1 c2065 :: hs)) ?_ ?_
          · refine C_block ?_
            replace H := H.front 7 rfl
            dsimp only [List.eraseIdx] at H
            replace H := H.front 7 rfl
            dsimp only [List.eraseIdx] at H
            replace H := H.front 7 rfl
            dsimp only [List.eraseIdx] at H
            replace H := H.front 7 rfl
            dsimp only [List.eraseIdx] at H
            replace H := H.front 7 rfl
            dsimp only [List.eraseIdx] at H
            replace H := H.front 7 rfl
            dsimp only [List.eraseIdx] at H
            replace H := H.front 6 rfl
            dsimp only [List.eraseIdx] at H
            replace H := H.front 7 rfl
            dsimp only [List.eraseIdx] at H
            refine C_iter (f := fun s => F_canon_Canon_l2 N x2066 x3298 s.1 s.2) ho3376 (fun s a w' => ∃ (c3397 : (List Value)) (x3398 : (List Int)) (x3401 : Int), (x3398, x3401) = s ∧ rdL (eI .i64) ρ x3398 c3397 ∧ x3398.length = 256 ∧ Fr 95 a [(1, .pointer (some ⟨b1978, 0, none⟩)), (2, .pointer (some ⟨b1980, 0, none⟩)), (3, .pointer (some ⟨b1982, 0, none⟩)), (4, v1986), (5, (.slice (some ⟨b1992, 0, none⟩) (x2.length : Int).toNat (x2.length : Int).toNat)), (9, .int .i64 x3291), (10, .pointer (some ⟨b3305, 0, none⟩)), (33, v1986), (34, .int .i64 (x1988.length : Int)), (35, .int .i64 x3061), (44, .agg c3301.toArray), (45, .int .i64 x3401)] ∧ Hp C w' ρ (Box b1978 [v1, v4, v7] :: Arr (.slice (some ⟨b3305, 0, none⟩) 256 256) 1 c3397 :: Box b1980 [.slice none 0 0, .slice none 0 0, .slice none 0 0] :: Box b1982 [v3053, v3057, .slice none 0 0] :: Arr v3053 256 c3054 :: Arr v3057 1 c3058 :: Arr v1986 1 c1987 :: Arr (.slice (some ⟨b1992, 0, none⟩) (x2.length : Int).toNat (x2.length : Int).toNat) 1 c2065 :: hs)) ?_ ?_
            · exact fun a hf => ⟨c3301, x3298, 0, rfl, hc3302.2, hc3302.1, hf.sub ⟨rfl, rfl, rfl, rfl, rfl, rfl, rfl, rfl, rfl, rfl, rfl, rfl, trivial⟩, H⟩
            · rintro s o3422 a wd3425 ⟨c3397, x3398, x3401, rfl, r3399, lp3400, hf, H⟩ hB3423 hO3424
              replace hB3423 : F_canon_Canon_l2 N x2066 x3298 x3398 x3401 = some o3422 := hB3423
              unfold F_canon_Canon_l2 at hB3423
              refine CW.at hf <| C_seq <| R_nd <| nq (Q_lss rfl rfl) rfl rfl <| WL_nil <| x_then <| C_seq ?_
              refine C_cond rfl (fun hb => ?_) (fun hb => ?_)
              · replace hB3423 := itT hb hB3423
                refine C_skip <| x_then <| C_seq <| C_block <| C_seq <| R_nd <| nq (Q_move rfl) rfl rfl ?_
                obtain ⟨x3426, hx3426, hB3423⟩ := bnd hB3423
                refine nq (Q_ixI hc3302.2 hc3302.1 hx3426 Tryd.underlying58 rfl rfl ty3 rfl) rfl rfl <| nq (Q_assign rfl) rfl rfl <| nq (Q_assign rfl) rfl rfl <| WL_nil <| x_then <| R_nd <| nq (Q_move rfl) rfl rfl <| nq (Q_move rfl) rfl rfl <| nq (Q_move rfl) rfl rfl ?_
                obtain ⟨x3427, hx3427, hB3423⟩ := bnd hB3423
                obtain ⟨b3428, o3429, hi3433, hc3431, ha3432⟩ := arr_at (hs := [Arr (.slice (some ⟨b1992, 0, none⟩) (x2.length : Int).toNat (x2.length : Int).toNat) 1 c2065]) (k := 0) (by decide) (H.okS (by simp)) rfl r2067 hx3427
                refine nq (Q_idx hi3433 Tryd.underlying23 ty3 rfl rfl) rfl rfl <| nq (v := .int .i64 x3427) (Q_ld (show cellsAt _ _ _ [.int .i64 x3427] from (show _ = [_] from hc3431) ▸ (ha3432 _ (Ok.subS (by simp) H.ok))) ty3 rfl (fun _ => rfl) rfl rfl) rfl rfl ?_
                obtain ⟨x3434, hx3434, hB3423⟩ := bnd hB3423
                have hn3436 := idx_lt (N := 256) (lp3400) hx3434
                have hi3435 : IdxOk (.slice (some ⟨b3305, 0, none⟩) 256 256) x3401 1 b3305 (0 + x3401.toNat * 1) := ⟨0, 256, 256, rfl, hn3436.1, hn3436.2, rfl⟩
                refine nq (Q_idxA hn3436.1 hn3436.2 Tryd.underlying58 ty3 rfl rfl) rfl rfl ?_
                obtain ⟨x3437, hx3437, hB3423⟩ := bnd hB3423
                obtain ⟨hs3438a, hs3438b, hs3438c⟩ := setI_some hx3437
                have r3439 : rdL (eI .i64) ρ x3437 (setC c3397 (x3401.toNat * 1 + 0) [.int .i64 x3427]) := hs3438c ▸ rdL.set r3399 hs3438b (rfl)
                refine ne (E_stA (k := 1) (j := 0) (c := [.int .i64 x3427]) H rfl ty3 hi3435 rfl rfl rfl rfl (one_cons rfl one_nil) (by decide)) rfl rfl ?_
                rintro _ wd3440 H
                dsimp only [List.set] at H
                refine WL_nil <| x_block <| x_then <| R_nd <| nq (Q_add rfl rfl) rfl rfl <| nq (Q_move rfl) rfl rfl <| WL_nil ?_
                replace H := H.front 7 rfl
                dsimp only [List.eraseIdx] at H
                replace H := H.front 7 rfl
                dsimp only [List.eraseIdx] at H
                replace H := H.front 7 rfl
                dsimp only [List.eraseIdx] at H
                replace H := H.front 7 rfl
                dsimp only [List.eraseIdx] at H
                replace H := H.front 7 rfl
                dsimp only [List.eraseIdx] at H
                replace H := H.front 7 rfl
                dsimp only [List.eraseIdx] at H
                replace H := H.front 7 rfl
                dsimp only [List.eraseIdx] at H
                replace H := H.front 7 rfl
                dsimp only [List.eraseIdx] at H
                obtain rfl := Option.some.inj hB3423
                refine x_A fun a hf => ⟨_, rfl, (setC c3397 (x3401.toNat * 1 + 0) [.int .i64 x3427]), x3437, w64 (x3401 + 1), rfl, r3439, (setI_len hx3437 lp3400), hf.sub ⟨rfl, rfl, rfl, rfl, rfl, rfl, rfl, rfl, rfl, rfl, rfl, rfl, trivial⟩, H⟩
              · replace hB3423 := itF hb hB3423
                refine C_exit <| x_then_exit <| x_then_exit <| x_block_exit ?_
                replace H := H.front 7 rfl
                dsimp only [List.eraseIdx] at H
                replace H := H.front 7 rfl
                dsimp only [List.eraseIdx] at H
                replace H := H.front 7 rfl
                dsimp only [List.eraseIdx] at H
                replace H := H.front 7 rfl
                dsimp only [List.eraseIdx] at H
                replace H := H.front 7 rfl
                dsimp only [List.eraseIdx] at H
                replace H := H.front 7 rfl
                dsimp only [List.eraseIdx] at H
                replace H := H.front 7 rfl
                dsimp only [List.eraseIdx] at H
                replace H := H.front 7 rfl
                dsimp only [List.eraseIdx] at H
                obtain rfl := Option.some.inj hB3423
                obtain rfl := hO3424 _ rfl
                refine x_A fun a hf => ⟨c3397, x3398, rfl, r3399, lp3400, hf.sub ⟨rfl, rfl, rfl, rfl, rfl, rfl, rfl, rfl, rfl, rfl, trivial⟩, H⟩
          · rintro a wd3441 ⟨c3372, x3373, rfl, r3374, lp3375, hf, H⟩
            try dsimp only at hB3288
            refine XX.at hf <| x_then <| C_seq <| R_nd <| nq (v := .pointer (some ⟨b1982, 0, none⟩)) (Q_fld Tryd.underlying25 rfl ty22 (by decide) rfl rfl) rfl rfl <| nq (v := v3053) (Q_ldB (k := 3) (cs := [v3053]) H.ok rfl ty22 rfl rfl rfl (fun _ => rfl) rfl) rfl rfl <| nq (Q_ldW (k := 1) H.ok rfl ty58 rfl (arr_clen r3374 lp3375)) rfl rfl <| ne (E_bslice (xs := [.tmp 58]) (vs := [.agg c3372.toArray]) H Tryd.underlying22 ty58 (by decide) (cs := c3372) rfl (sz_cons (arr_clen r3374 lp3375) sz_nil) (by simp [Value.cells]) (by simp) (by simp) rfl rfl) rfl rfl ?_
            rintro _ wd3443 ⟨b3442, rfl, H⟩
            obtain ⟨x3444, hx3444, hB3288⟩ := bnd hB3288
            obtain ⟨ha3445a, ha3445b⟩ := app_some hx3444
            have r3447 : rdL (eA 256 (eI .i64)) ρ x3444 (c3054 ++ c3372) := ha3445b ▸ rdL.app r3056 (show rdL (eA 256 (eI .i64)) ρ ([x3373]) c3372 from rdL.single ⟨lp3375, r3374⟩)
            refine ne (E_append (k := 5) H rfl Tryd.underlying22 ty58 rfl (by decide) (by decide) rfl rfl (Src.ofArr (k := 0) H.ok rfl) (rdL.one (show rdL (eA 256 (eI .i64)) ρ ([x3373]) c3372 from rdL.single ⟨lp3375, r3374⟩)) (app_fit r3056 (show rdL (eA 256 (eI .i64)) ρ ([x3373]) c3372 from rdL.single ⟨lp3375, r3374⟩) ha3445a)) rfl rfl ?_
            rintro v3446 wd3449 ⟨H, hc3448⟩
            dsimp only [List.set] at H
            refine nq (v := .pointer (some ⟨b1982, 0, none⟩)) (Q_fld Tryd.underlying25 rfl ty22 (by decide) rfl rfl) rfl rfl <| ne (E_stB (k := 4) (cs := [v3446]) (vs' := [v3446, v3057, .slice none 0 0]) H rfl ty22 rfl rfl (arr_cells (H.ok.get (k := 5) rfl)).1 rfl (one_cons (arr_cells (H.ok.get (k := 5) rfl)).2 one_nil) (by simp) rfl) rfl rfl ?_
            rintro _ wd3450 H
            dsimp only [List.set] at H
            refine WL_nil <| x_then ?_
            obtain ⟨o3480, ho3480, hB3288⟩ := bnd hB3288
            refine C_cutQ (fun a w' => ∃ (v3476 : Value) (c3477 : (List Value)) (x3478 : (List Int)), x3478 = o3480 ∧ rdL (eI .i64) ρ x3478 c3477 ∧ Fr 95 a [(1, .pointer (some ⟨b1978, 0, none⟩)), (2, .pointer (some ⟨b1980, 0, none⟩)), (3, .pointer (some ⟨b1982, 0, none⟩)), (4, v1986), (5, (.slice (some ⟨b1992, 0, none⟩) (x2.length : Int).toNat (x2.length : Int).toNat)), (33, v1986), (34, .int .i64 (x1988.length : Int)), (35, .int .i64 x3061)] ∧ Hp C w' ρ (Box b1978 [v1, v4, v7] :: Box b1980 [.slice none 0 0, .slice none 0 0, .slice none 0 0] :: Box b1982 [v3446, v3476, .slice none 0 0] :: Arr v3446 256 (c3054 ++ c3372) :: Arr v3476 1 c3477 :: Arr v1986 1 c1987 :: Arr (.slice (some ⟨b1992, 0, none⟩) (x2.length : Int).toNat (x2.length : Int).toNat) 1 c2065 :: hs)) ?_ ?_
            · refine R_dr (.take 0 (.take 2 (.take 3 (.take 4 (.take 5 (.take 6 (.two 1 7 (.one 7 (.one 8 (.take 9 (.one 10 .done)))) (.one 1 (.one 8 (.take 9 (.one 10 .done))))))))))) (fun w' => Ok w' ρ [Arr (.slice (some ⟨b3442, 0, none⟩) 1 1) 256 c3372, Box b1978 [v1, v4, v7], Arr (.slice (some ⟨b3305, 0, none⟩) 256 256) 1 c3372, Box b1980 [.slice none 0 0, .slice none 0 0, .slice none 0 0], Arr v3446 256 (c3054 ++ c3372), Arr v1986 1 c1987, Arr (.slice (some ⟨b1992, 0, none⟩) (x2.length : Int).toNat (x2.length : Int).toNat) 1 c2065]) (by kernel_rfl) (by kernel_rfl) (by kernel_rfl) (H.drew.okS (by simp)) ?_
              replace H := H.drew
              refine dq (v := .pointer (some ⟨b1982, 1, none⟩)) rfl (fun _ _ => Q_fld Tryd.underlying25 rfl ty23 (by decide) rfl rfl) rfl rfl <| dq (v := .pointer (some ⟨b1978, 1, none⟩)) rfl (fun _ _ => Q_fld Tryd.underlying25 rfl ty23 (by decide) rfl rfl) rfl rfl <| dq (v := v4) rfl (fun _ hw => Q_ldB (k := 1) (cs := [v4]) hw rfl ty23 rfl rfl rfl (fun _ => rfl) rfl) rfl rfl <| dq rfl (fun _ _ => Q_move rfl) rfl rfl ?_
              obtain ⟨x3481, hx3481, ho3480⟩ := bnd ho3480
              obtain ⟨b3482, o3483, c3484, hc3485, ha3486, hi3487⟩ := idxR r6 hx3481
              refine dq rfl (fun _ _ => Q_idx hi3487 Tryd.underlying23 ty3 rfl rfl) rfl rfl <| dq (v := .int .i64 x3481) rfl (fun _ hw => Q_ld (show cellsAt _ _ _ [.int .i64 x3481] from (show _ = [_] from hc3485) ▸ (ha3486.up hw.view)) ty3 rfl (fun _ => rfl) rfl rfl) rfl rfl ?_
              refine d2 ?_ ?_
              · refine de rfl (Eff.quiet (v := v3057) (Q_ldB (k := 4) (cs := [v3057]) H.ok rfl ty23 rfl rfl rfl (fun _ => rfl) rfl)) rfl rfl ?_
                rintro _ _ ⟨rfl, rfl⟩
                refine ⟨H.okS (by simp), ?_⟩
                refine d1 (de rfl (E_bslice (xs := [.tmp 68]) (vs := [.int .i64 x3481]) H Tryd.underlying23 ty3 (by decide) (cs := [.int .i64 x3481]) rfl (sz_cons rfl sz_nil) rfl (by simp) (by simp) rfl rfl) rfl rfl ?_)
                rintro _ wd3489 ⟨b3488, rfl, H⟩
                refine ⟨H.okS (by simp), ?_⟩
                obtain ⟨x3490, hx3490, ho3480⟩ := bnd ho3480
                obtain ⟨ha3491a, ha3491b⟩ := app_some hx3490
                have r3493 : rdL (eI .i64) ρ x3490 (c3058 ++ ([.int .i64 x3481])) := ha3491b ▸ rdL.app r3060 (show rdL (eI .i64) ρ ([x3481]) ([.int .i64 x3481]) from ⟨([.int .i64 x3481]), _, rfl, rfl, rdL.nil⟩)
                refine d1 (de rfl (E_append (k := 7) H rfl Tryd.underlying23 ty3 rfl (by decide) (by decide) rfl rfl (Src.ofArr (k := 0) H.ok rfl) (rdL.one (show rdL (eI .i64) ρ ([x3481]) ([.int .i64 x3481]) from ⟨([.int .i64 x3481]), _, rfl, rfl, rdL.nil⟩)) (app_fit r3060 (show rdL (eI .i64) ρ ([x3481]) ([.int .i64 x3481]) from ⟨([.int .i64 x3481]), _, rfl, rfl, rdL.nil⟩) ha3491a)) rfl rfl ?_)
                rintro v3492 wd3495 ⟨H, hc3494⟩
                dsimp only [List.set] at H
                refine ⟨H.okS (by simp), ?_⟩
                refine dq (v := .pointer (some ⟨b1982, 1, none⟩)) rfl (fun _ _ => Q_fld Tryd.underlying25 rfl ty23 (by decide) rfl rfl) rfl rfl ?_
                refine d1 (de rfl (E_stB (k := 5) (cs := [v3492]) (vs' := [v3446, v3492, .slice none 0 0]) H rfl ty23 rfl rfl (arr_cells (H.ok.get (k := 7) rfl)).1 rfl (one_cons (arr_cells (H.ok.get (k := 7) rfl)).2 one_nil) (by simp) rfl) rfl rfl ?_)
                rintro _ wd3496 H
                dsimp only [List.set] at H
                refine ⟨H.okS (by simp), ?_⟩
                refine DL_nil ?_
                replace H := H.front 9 rfl
                dsimp only [List.eraseIdx] at H
                replace H := H.front 9 rfl
                dsimp only [List.eraseIdx] at H
                replace H := H.front 9 rfl
                dsimp only [List.eraseIdx] at H
                replace H := H.front 9 rfl
                dsimp only [List.eraseIdx] at H
                replace H := H.front 9 rfl
                dsimp only [List.eraseIdx] at H
                replace H := H.front 9 rfl
                dsimp only [List.eraseIdx] at H
                replace H := H.front 8 rfl
                dsimp only [List.eraseIdx] at H
                replace H := H.drop 7 rfl
                dsimp only [List.eraseIdx] at H
                replace H := H.drop 7 rfl
                dsimp only [List.eraseIdx] at H
                replace H := H.drop 7 rfl
                dsimp only [List.eraseIdx] at H
                obtain rfl := Option.some.inj ho3480
                refine x_A fun a hf => ⟨v3492, (c3058 ++ ([.int .i64 x3481])), x3490, rfl, r3493, hf.sub ⟨rfl, rfl, rfl, rfl, rfl, rfl, rfl, rfl, trivial⟩, H⟩
              · refine de rfl (E_bslice (xs := [.tmp 68]) (vs := [.int .i64 x3481]) H Tryd.underlying23 ty3 (by decide) (cs := [.int .i64 x3481]) rfl (sz_cons rfl sz_nil) rfl (by simp) (by simp) rfl rfl) rfl rfl ?_
                rintro _ wd3498 ⟨b3497, rfl, H⟩
                refine ⟨H.okS (by simp), ?_⟩
                refine d1 (de rfl (Eff.quiet (v := v3057) (Q_ldB (k := 5) (cs := [v3057]) H.ok rfl ty23 rfl rfl rfl (fun _ => rfl) rfl)) rfl rfl ?_)
                rintro _ _ ⟨rfl, rfl⟩
                refine ⟨H.okS (by simp), ?_⟩
                obtain ⟨x3499, hx3499, ho3480⟩ := bnd ho3480
                obtain ⟨ha3500a, ha3500b⟩ := app_some hx3499
                have r3502 : rdL (eI .i64) ρ x3499 (c3058 ++ ([.int .i64 x3481])) := ha3500b ▸ rdL.app r3060 (show rdL (eI .i64) ρ ([x3481]) ([.int .i64 x3481]) from ⟨([.int .i64 x3481]), _, rfl, rfl, rdL.nil⟩)
                refine d1 (de rfl (E_append (k := 7) H rfl Tryd.underlying23 ty3 rfl (by decide) (by decide) rfl rfl (Src.ofArr (k := 0) H.ok rfl) (rdL.one (show rdL (eI .i64) ρ ([x3481]) ([.int .i64 x3481]) from ⟨([.int .i64 x3481]), _, rfl, rfl, rdL.nil⟩)) (app_fit r3060 (show rdL (eI .i64) ρ ([x3481]) ([.int .i64 x3481]) from ⟨([.int .i64 x3481]), _, rfl, rfl, rdL.nil⟩) ha3500a)) rfl rfl ?_)
                rintro v3501 wd3504 ⟨H, hc3503⟩
                dsimp only [List.set] at H
                refine ⟨H.okS (by simp), ?_⟩
                refine dq (v := .pointer (some ⟨b1982, 1, none⟩)) rfl (fun _ _ => Q_fld Tryd.underlying25 rfl ty23 (by decide) rfl rfl) rfl rfl ?_
                refine d1 (de rfl (E_stB (k := 5) (cs := [v3501]) (vs' := [v3446, v3501, .slice none 0 0]) H rfl ty23 rfl rfl (arr_cells (H.ok.get (k := 7) rfl)).1 rfl (one_cons (arr_cells (H.ok.get (k := 7) rfl)).2 one_nil) (by simp) rfl) rfl rfl ?_)
                rintro _ wd3505 H
                dsimp only [List.set] at H
                refine ⟨H.okS (by simp), ?_⟩
                refine DL_nil ?_
                replace H := H.front 9 rfl
                dsimp only [List.eraseIdx] at H
                replace H := H.front 9 rfl
                dsimp only [List.eraseIdx] at H
                replace H := H.front 9 rfl
                dsimp only [List.eraseIdx] at H
                replace H := H.front 9 rfl
                dsimp only [List.eraseIdx] at H
                replace H := H.front 9 rfl
                dsimp only [List.eraseIdx] at H
                replace H := H.front 9 rfl
                dsimp only [List.eraseIdx] at H
                replace H := H.front 8 rfl
                dsimp only [List.eraseIdx] at H
                replace H := H.drop 7 rfl
                dsimp only [List.eraseIdx] at H
                replace H := H.drop 7 rfl
                dsimp only [List.eraseIdx] at H
                replace H := H.drop 7 rfl
                dsimp only [List.eraseIdx] at H
                obtain rfl := Option.some.inj ho3480
                refine x_A fun a hf => ⟨v3501, (c3058 ++ ([.int .i64 x3481])), x3499, rfl, r3502, hf.sub ⟨rfl, rfl, rfl, rfl, rfl, rfl, rfl, rfl, trivial⟩, H⟩
            · rintro a wd3506 ⟨v3476, c3477, x3478, rfl, r3479, hf, H⟩
              try dsimp only at hB3288
              refine XX.at hf <| x_block <| x_then <| R_nd <| nq (Q_add rfl rfl) rfl rfl <| nq (Q_move rfl) rfl rfl <| WL_nil ?_
              replace H := H.front 6 rfl
              dsimp only [List.eraseIdx] at H
              replace H := H.front 6 rfl
              dsimp only [List.eraseIdx] at H
              replace H := H.front 6 rfl
              dsimp only [List.eraseIdx] at H
              replace H := H.front 6 rfl
              dsimp only [List.eraseIdx] at H
              replace H := H.front 6 rfl
              dsimp only [List.eraseIdx] at H
              replace H := H.front 6 rfl
              dsimp only [List.eraseIdx] at H
              replace H := H.front 6 rfl
              dsimp only [List.eraseIdx] at H
              obtain rfl := Option.some.inj hB3288
              refine x_A fun a hf => ⟨_, rfl, v3446, (c3054 ++ c3372), v3476, c3477, x3444, x3478, w64 (x3061 + 1), rfl, r3447, r3479, hf.sub ⟨rfl, rfl, rfl, rfl, rfl, rfl, rfl, rfl, trivial⟩, H⟩
        · replace hB3288 := itF hb hB3288
          refine C_exit <| x_then_exit <| x_then_exit <| x_block_exit ?_
          replace H := H.front 6 rfl
          dsimp only [List.eraseIdx] at H
          replace H := H.front 6 rfl
          dsimp only [List.eraseIdx] at H
          replace H := H.front 6 rfl
          dsimp only [List.eraseIdx] at H
          replace H := H.front 6 rfl
          dsimp only [List.eraseIdx] at H
          replace H := H.front 6 rfl
          dsimp only [List.eraseIdx] at H
          replace H := H.front 6 rfl
          dsimp only [List.eraseIdx] at H
          replace H := H.front 6 rfl
          dsimp only [List.eraseIdx] at H
          obtain rfl := Option.some.inj hB3288
          obtain rfl := hO3289 _ rfl
          refine x_A fun a hf => ⟨v3053, c3054, v3057, c3058, x3055, x3059, rfl, r3056, r3060, hf.sub ⟨rfl, rfl, rfl, rfl, rfl, trivial⟩, H⟩
    · rintro a wd3507 ⟨v2819, c2820, v2823, c2824, x2821, x2825, rfl, r2822, r2826, hf, H⟩
      try dsimp only at hF
      refine XX.at hf <| x_then <| C_seq <| C_seq <| R_nd <| nq (Q_move rfl) rfl rfl <| nq (Q_lenA (k := 5) H.ok rfl r1989 (by decide) Tryd.underlying23 rfl) rfl rfl <| nq (Q_eql rfl rfl) rfl rfl <| WL_nil <| x_then ?_
      refine C_cond rfl (fun hb => ?_) (fun hb => ?_)
      · replace hF := itT hb hF
        refine C_seq <| R_nd <| nq (v := .agg #[v2819, v2823, .slice none 0 0]) (Q_ldB (k := 2) (cs := [v2819, v2823, .slice none 0 0]) H.ok rfl ty25 rfl rfl rfl (fun h => nomatch h) rfl) rfl rfl <| ne (E_stB (k := 1) (cs := [v2819, v2823, .slice none 0 0]) (vs' := [v2819, v2823, .slice none 0 0]) H rfl ty25 rfl rfl rfl rfl (one_cons (arr_cells (H.ok.get (k := 3) rfl)).2 (one_cons (arr_cells (H.ok.get (k := 4) rfl)).2 (one_cons rfl one_nil))) (by simp) rfl) rfl rfl ?_
        rintro _ wd3508 H
        dsimp only [List.set] at H
        refine WL_nil <| x_then <| C_ret <| x_then_ret ?_
        have H := H.nilArr 1
        have hRV : RV Tryd.prog wd3508 [(2, .pointer (some ⟨b1980, 0, none⟩))] [.cell 2 25] [.agg #[v2819, v2823, (.slice none 0 0)]] := ⟨⟨_, rfl, run_ldv ty25 rfl (fun h => nomatch h) (box_at (H.ok.get (k := 2) rfl) 0 3)⟩, trivial⟩
        replace H := H.front 5 rfl
        dsimp only [List.eraseIdx] at H
        replace H := H.front 5 rfl
        dsimp only [List.eraseIdx] at H
        replace H := H.drop 3 rfl
        dsimp only [List.eraseIdx] at H
        replace H := H.drop 3 rfl
        dsimp only [List.eraseIdx] at H
        replace H := H.drop 3 rfl
        dsimp only [List.eraseIdx] at H
        replace H := H.drop 3 rfl
        dsimp only [List.eraseIdx] at H
        replace H := H.drop 3 rfl
        dsimp only [List.eraseIdx] at H
        obtain rfl := Option.some.inj hF
        exact fn_retV (rs := [.cell 2 25]) (vs := [.agg #[v2819, v2823, (.slice none 0 0)]]) rfl hRV ⟨v2819, c2820, v2823, c2824, (.slice none 0 0), [], x2821, x2825, [], rfl, rfl, r2822, r2826, rdL.nil, H⟩
      · replace hF := itF hb hF
        refine C_skip <| x_then <| C_seq <| C_seq <| R_nd <| nq (v := .pointer (some ⟨b1978, 2, none⟩)) (Q_fld Tryd.underlying25 rfl ty23 (by decide) rfl rfl) rfl rfl <| nq (v := v7) (Q_ldB (k := 0) (cs := [v7]) H.ok rfl ty23 rfl rfl rfl (fun _ => rfl) rfl) rfl rfl <| nq (Q_len Tryd.underlying23 rfl r9) rfl rfl <| nq (Q_move rfl) rfl rfl <| WL_nil <| x_then ?_
        obtain ⟨o3721, ho3721, hF⟩ := bnd hF
        refine C_cutQ (fun a w' => ∃ (v3717 : Value) (c3718 : (List Value)) (x3719 : (List Int)), x3719 = o3721 ∧ rdL (eI .i64) ρ x3719 c3718 ∧ Fr 95 a [(2, .pointer (some ⟨b1980, 0, none⟩)), (3, .pointer (some ⟨b1982, 0, none⟩))] ∧ Hp C w' ρ (Box b1980 [.slice none 0 0, .slice none 0 0, .slice none 0 0] :: Box b1982 [v2819, v2823, v3717] :: Arr v2819 256 c2820 :: Arr v2823 1 c2824 :: Arr v3717 1 c3718 :: hs)) ?_ ?_
        · refine C_block ?_
          have H := H.nilArr 1
          replace H := H.front 7 rfl
          dsimp only [List.eraseIdx] at H
          replace H := H.front 1 rfl
          dsimp only [List.eraseIdx] at H
          replace H := H.front 6 rfl
          dsimp only [List.eraseIdx] at H
          replace H := H.front 6 rfl
          dsimp only [List.eraseIdx] at H
          replace H := H.front 6 rfl
          dsimp only [List.eraseIdx] at H
          replace H := H.front 6 rfl
          dsimp only [List.eraseIdx] at H
          replace H := H.drop 6 rfl
          dsimp only [List.eraseIdx] at H
          replace H := H.drop 6 rfl
          dsimp only [List.eraseIdx] at H
          refine C_iter (f := fun s => F_canon_Canon_l3 N x8 x2066 s.1 s.2) ho3721 (fun s a w' => ∃ (v3790 : Value) (c3791 : (List Value)) (x3792 : (List Int)) (x3794 : Int), (x3792, x3794) = s ∧ rdL (eI .i64) ρ x3792 c3791 ∧ Fr 95 a [(2, .pointer (some ⟨b1980, 0, none⟩)), (3, .pointer (some ⟨b1982, 0, none⟩)), (5, (.slice (some ⟨b1992, 0, none⟩) (x2.length : Int).toNat (x2.length : Int).toNat)), (78, v7), (79, .int .i64 (x8.length : Int)), (80, .int .i64 x3794)] ∧ Hp C w' ρ (Box b1980 [.slice none 0 0, .slice none 0 0, .slice none 0 0] :: Box b1982 [v2819, v2823, v3790] :: Arr v2819 256 c2820 :: Arr v2823 1 c2824 :: Arr v3790 1 c3791 :: Arr (.slice (some ⟨b1992, 0, none⟩) (x2.length : Int).toNat (x2.length : Int).toNat) 1 c2065 :: hs)) ?_ ?_
          · exact fun a hf => ⟨(.slice none 0 0), [], [], 0, rfl, rdL.nil, hf.sub ⟨rfl, rfl, rfl, rfl, rfl, rfl, trivial⟩, H⟩
          · rintro s o3863 a wd3866 ⟨v3790, c3791, x3792, x3794, rfl, r3793, hf, H⟩ hB3864 hO3865
            replace hB3864 : F_canon_Canon_l3 N x8 x2066 x3792 x3794 = some o3863 := hB3864
            unfold F_canon_Canon_l3 at hB3864
            refine CW.at hf <| C_seq <| R_nd <| nq (Q_lss rfl rfl) rfl rfl <| WL_nil <| x_then <| C_seq ?_
            refine C_cond rfl (fun hb => ?_) (fun hb => ?_)
            · replace hB3864 := itT hb hB3864
              refine C_skip <| x_then <| C_seq <| C_block <| C_seq <| R_nd ?_
              obtain ⟨x3867, hx3867, hB3864⟩ := bnd hB3864
              obtain ⟨b3868, o3869, c3870, hc3871, ha3872, hi3873⟩ := idxR r9 hx3867
              refine nq (Q_idx hi3873 Tryd.underlying23 ty3 rfl rfl) rfl rfl <| nq (v := .int .i64 x3867) (Q_ld (show cellsAt _ _ _ [.int .i64 x3867] from (show _ = [_] from hc3871) ▸ (ha3872.up H.ok.view)) ty3 rfl (fun _ => rfl) rfl rfl) rfl rfl <| nq (Q_assign rfl) rfl rfl <| WL_nil <| x_then ?_
              obtain ⟨o3903, ho3903, hB3864⟩ := bnd hB3864
              refine C_cutQ (fun a w' => ∃ (v3899 : Value) (c3900 : (List Value)) (x3901 : (List Int)), x3901 = o3903 ∧ rdL (eI .i64) ρ x3901 c3900 ∧ Fr 95 a [(2, .pointer (some ⟨b1980, 0, none⟩)), (3, .pointer (some ⟨b1982, 0, none⟩)), (5, (.slice (some ⟨b1992, 0, none⟩) (x2.length : Int).toNat (x2.length : Int).toNat)), (78, v7), (79, .int .i64 (x8.length : Int)), (80, .int .i64 x3794)] ∧ Hp C w' ρ (Box b1980 [.slice none 0 0, .slice none 0 0, .slice none 0 0] :: Box b1982 [v2819, v2823, v3899] :: Arr v2819 256 c2820 :: Arr v2823 1 c2824 :: Arr v3899 1 c3900 :: Arr (.slice (some ⟨b1992, 0, none⟩) (x2.length : Int).toNat (x2.length : Int).toNat) 1 c2065 :: hs)) ?_ ?_
              · refine R_dr (.take 0 (.take 2 (.take 3 (.take 4 (.take 5 (.two 1 6 (.one 6 (.one 7 (.take 8 (.one 9 .done)))) (.one 1 (.one 7 (.take 8 (.one 9 .done)))))))))) (fun w' => Ok w' ρ [Box b1980 [.slice none 0 0, .slice none 0 0, .slice none 0 0], Arr v2819 256 c2820, Arr v2823 1 c2824, Arr (.slice (some ⟨b1992, 0, none⟩) (x2.length : Int).toNat (x2.length : Int).toNat) 1 c2065]) (by kernel_rfl) (by kernel_rfl) (by kernel_rfl) (H.drew.okS (by simp)) ?_
                replace H := H.drew
                refine dq (v := .pointer (some ⟨b1982, 2, none⟩)) rfl (fun _ _ => Q_fld Tryd.underlying25 rfl ty23 (by decide) rfl rfl) rfl rfl <| dq rfl (fun _ _ => Q_move rfl) rfl rfl <| dq rfl (fun _ _ => Q_move rfl) rfl rfl ?_
                obtain ⟨x3904, hx3904, ho3903⟩ := bnd ho3903
                obtain ⟨b3905, o3906, hi3910, hc3908, ha3909⟩ := arr_at (hs := [Arr (.slice (some ⟨b1992, 0, none⟩) (x2.length : Int).toNat (x2.length : Int).toNat) 1 c2065]) (k := 0) (by decide) (H.okS (by simp)) rfl r2067 hx3904
                refine dq rfl (fun _ _ => Q_idx hi3910 Tryd.underlying23 ty3 rfl rfl) rfl rfl <| dq (v := .int .i64 x3904) rfl (fun _ hw => Q_ld (show cellsAt _ _ _ [.int .i64 x3904] from (show _ = [_] from hc3908) ▸ (ha3909 _ (Ok.subS (by simp) hw))) ty3 rfl (fun _ => rfl) rfl rfl) rfl rfl ?_
                refine d2 ?_ ?_
                · refine de rfl (Eff.quiet (v := v3790) (Q_ldB (k := 1) (cs := [v3790]) H.ok rfl ty23 rfl rfl rfl (fun _ => rfl) rfl)) rfl rfl ?_
                  rintro _ _ ⟨rfl, rfl⟩
                  refine ⟨H.okS (by simp), ?_⟩
                  refine d1 (de rfl (E_bslice (xs := [.tmp 89]) (vs := [.int .i64 x3904]) H Tryd.underlying23 ty3 (by decide) (cs := [.int .i64 x3904]) rfl (sz_cons rfl sz_nil) rfl (by simp) (by simp) rfl rfl) rfl rfl ?_)
                  rintro _ wd3912 ⟨b3911, rfl, H⟩
                  refine ⟨H.okS (by simp), ?_⟩
                  obtain ⟨x3913, hx3913, ho3903⟩ := bnd ho3903
                  obtain ⟨ha3914a, ha3914b⟩ := app_some hx3913
                  have r3916 : rdL (eI .i64) ρ x3913 (c3791 ++ ([.int .i64 x3904])) := ha3914b ▸ rdL.app r3793 (show rdL (eI .i64) ρ ([x3904]) ([.int .i64 x3904]) from ⟨([.int .i64 x3904]), _, rfl, rfl, rdL.nil⟩)
                  refine d1 (de rfl (E_append (k := 5) H rfl Tryd.underlying23 ty3 rfl (by decide) (by decide) rfl rfl (Src.ofArr (k := 0) H.ok rfl) (rdL.one (show rdL (eI .i64) ρ ([x3904]) ([.int .i64 x3904]) from ⟨([.int .i64 x3904]), _, rfl, rfl, rdL.nil⟩)) (app_fit r3793 (show rdL (eI .i64) ρ ([x3904]) ([.int .i64 x3904]) from ⟨([.int .i64 x3904]), _, rfl, rfl, rdL.nil⟩) ha3914a)) rfl rfl ?_)
                  rintro v3915 wd3918 ⟨H, hc3917⟩
                  dsimp only [List.set] at H
                  refine ⟨H.okS (by simp), ?_⟩
                  refine dq (v := .pointer (some ⟨b1982, 2, none⟩)) rfl (fun _ _ => Q_fld Tryd.underlying25 rfl ty23 (by decide) rfl rfl) rfl rfl ?_
                  refine d1 (de rfl (E_stB (k := 2) (cs := [v3915]) (vs' := [v2819, v2823, v3915]) H rfl ty23 rfl rfl (arr_cells (H.ok.get (k := 5) rfl)).1 rfl (one_cons (arr_cells (H.ok.get (k := 5) rfl)).2 one_nil) (by simp) rfl) rfl rfl ?_)
                  rintro _ wd3919 H
                  dsimp only [List.set] at H
                  refine ⟨H.okS (by simp), ?_⟩
                  refine DL_nil ?_
                  replace H := H.front 6 rfl
                  dsimp only [List.eraseIdx] at H
                  replace H := H.front 6 rfl
                  dsimp only [List.eraseIdx] at H
                  replace H := H.front 6 rfl
                  dsimp only [List.eraseIdx] at H
                  replace H := H.front 6 rfl
                  dsimp only [List.eraseIdx] at H
                  replace H := H.front 6 rfl
                  dsimp only [List.eraseIdx] at H
                  replace H := H.front 6 rfl
                  dsimp only [List.eraseIdx] at H
                  replace H := H.drop 6 rfl
                  dsimp only [List.eraseIdx] at H
                  obtain rfl := Option.some.inj ho3903
                  refine x_A fun a hf => ⟨v3915, (c3791 ++ ([.int .i64 x3904])), x3913, rfl, r3916, hf.sub ⟨rfl, rfl, rfl, rfl, rfl, rfl, trivial⟩, H⟩
                · refine de rfl (E_bslice (xs := [.tmp 89]) (vs := [.int .i64 x3904]) H Tryd.underlying23 ty3 (by decide) (cs := [.int .i64 x3904]) rfl (sz_cons rfl sz_nil) rfl (by simp) (by simp) rfl rfl) rfl rfl ?_
                  rintro _ wd3921 ⟨b3920, rfl, H⟩
                  refine ⟨H.okS (by simp), ?_⟩
                  refine d1 (de rfl (Eff.quiet (v := v3790) (Q_ldB (k := 2) (cs := [v3790]) H.ok rfl ty23 rfl rfl rfl (fun _ => rfl) rfl)) rfl rfl ?_)
                  rintro _ _ ⟨rfl, rfl⟩
                  refine ⟨H.okS (by simp), ?_⟩
                  obtain ⟨x3922, hx3922, ho3903⟩ := bnd ho3903
                  obtain ⟨ha3923a, ha3923b⟩ := app_some hx3922
                  have r3925 : rdL (eI .i64) ρ x3922 (c3791 ++ ([.int .i64 x3904])) := ha3923b ▸ rdL.app r3793 (show rdL (eI .i64) ρ ([x3904]) ([.int .i64 x3904]) from ⟨([.int .i64 x3904]), _, rfl, rfl, rdL.nil⟩)
                  refine d1 (de rfl (E_append (k := 5) H rfl Tryd.underlying23 ty3 rfl (by decide) (by decide) rfl rfl (Src.ofArr (k := 0) H.ok rfl) (rdL.one (show rdL (eI .i64) ρ ([x3904]) ([.int .i64 x3904]) from ⟨([.int .i64 x3904]), _, rfl, rfl, rdL.nil⟩)) (app_fit r3793 (show rdL (eI .i64) ρ ([x3904]) ([.int .i64 x3904]) from ⟨([.int .i64 x3904]), _, rfl, rfl, rdL.nil⟩) ha3923a)) rfl rfl ?_)
                  rintro v3924 wd3927 ⟨H, hc3926⟩
                  dsimp only [List.set] at H
                  refine ⟨H.okS (by simp), ?_⟩
                  refine dq (v := .pointer (some ⟨b1982, 2, none⟩)) rfl (fun _ _ => Q_fld Tryd.underlying25 rfl ty23 (by decide) rfl rfl) rfl rfl ?_
                  refine d1 (de rfl (E_stB (k := 2) (cs := [v3924]) (vs' := [v2819, v2823, v3924]) H rfl ty23 rfl rfl (arr_cells (H.ok.get (k := 5) rfl)).1 rfl (one_cons (arr_cells (H.ok.get (k := 5) rfl)).2 one_nil) (by simp) rfl) rfl rfl ?_)
                  rintro _ wd3928 H
                  dsimp only [List.set] at H
                  refine ⟨H.okS (by simp), ?_⟩
                  refine DL_nil ?_
                  replace H := H.front 6 rfl
                  dsimp only [List.eraseIdx] at H
                  replace H := H.front 6 rfl
                  dsimp only [List.eraseIdx] at H
                  replace H := H.front 6 rfl
                  dsimp only [List.eraseIdx] at H
                  replace H := H.front 6 rfl
                  dsimp only [List.eraseIdx] at H
                  replace H := H.front 6 rfl
                  dsimp only [List.eraseIdx] at H
                  replace H := H.front 6 rfl
                  dsimp only [List.eraseIdx] at H
                  replace H := H.drop 6 rfl
                  dsimp only [List.eraseIdx] at H
                  obtain rfl := Option.some.inj ho3903
                  refine x_A fun a hf => ⟨v3924, (c3791 ++ ([.int .i64 x3904])), x3922, rfl, r3925, hf.sub ⟨rfl, rfl, rfl, rfl, rfl, rfl, trivial⟩, H⟩
              · rintro a wd3929 ⟨v3899, c3900, x3901, rfl, r3902, hf, H⟩
                try dsimp only at hB3864
                refine XX.at hf <| x_block <| x_then <| R_nd <| nq (Q_add rfl rfl) rfl rfl <| nq (Q_move rfl) rfl rfl <| WL_nil ?_
                replace H := H.front 5 rfl
                dsimp only [List.eraseIdx] at H
                replace H := H.front 5 rfl
                dsimp only [List.eraseIdx] at H
                replace H := H.front 5 rfl
                dsimp only [List.eraseIdx] at H
                replace H := H.front 5 rfl
                dsimp only [List.eraseIdx] at H
                replace H := H.front 5 rfl
                dsimp only [List.eraseIdx] at H
                replace H := H.front 5 rfl
                dsimp only [List.eraseIdx] at H
                obtain rfl := Option.some.inj hB3864
                refine x_A fun a hf => ⟨_, rfl, v3899, c3900, x3901, w64 (x3794 + 1), rfl, r3902, hf.sub ⟨rfl, rfl, rfl, rfl, rfl, rfl, trivial⟩, H⟩
            · replace hB3864 := itF hb hB3864
              refine C_exit <| x_then_exit <| x_then_exit <| x_block_exit ?_
              replace H := H.front 4 rfl
              dsimp only [List.eraseIdx] at H
              replace H := H.front 4 rfl
              dsimp only [List.eraseIdx] at H
              replace H := H.front 4 rfl
              dsimp only [List.eraseIdx] at H
              replace H := H.front 4 rfl
              dsimp only [List.eraseIdx] at H
              replace H := H.front 4 rfl
              dsimp only [List.eraseIdx] at H
              replace H := H.drop 5 rfl
              dsimp only [List.eraseIdx] at H
              obtain rfl := Option.some.inj hB3864
              obtain rfl := hO3865 _ rfl
              refine x_A fun a hf => ⟨v3790, c3791, x3792, rfl, r3793, hf.sub ⟨rfl, rfl, trivial⟩, H⟩
        · rintro a wd3930 ⟨v3717, c3718, x3719, rfl, r3720, hf, H⟩
          try dsimp only at hF
          refine XX.at hf <| x_then <| C_seq <| R_nd <| nq (v := .agg #[v2819, v2823, v3717]) (Q_ldB (k := 1) (cs := [v2819, v2823, v3717]) H.ok rfl ty25 rfl rfl rfl (fun h => nomatch h) rfl) rfl rfl <| ne (E_stB (k := 0) (cs := [v2819, v2823, v3717]) (vs' := [v2819, v2823, v3717]) H rfl ty25 rfl rfl rfl rfl (one_cons (arr_cells (H.ok.get (k := 2) rfl)).2 (one_cons (arr_cells (H.ok.get (k := 3) rfl)).2 (one_cons (arr_cells (H.ok.get (k := 4) rfl)).2 one_nil))) (by simp) rfl) rfl rfl ?_
          rintro _ wd3931 H
          dsimp only [List.set] at H
          refine WL_nil <| x_then <| C_ret ?_
          have hRV : RV Tryd.prog wd3931 [(2, .pointer (some ⟨b1980, 0, none⟩))] [.cell 2 25] [.agg #[v2819, v2823, v3717]] := ⟨⟨_, rfl, run_ldv ty25 rfl (fun h => nomatch h) (box_at (H.ok.get (k := 0) rfl) 0 3)⟩, trivial⟩
          replace H := H.front 4 rfl
          dsimp only [List.eraseIdx] at H
          replace H := H.front 4 rfl
          dsimp only [List.eraseIdx] at H
          replace H := H.front 4 rfl
          dsimp only [List.eraseIdx] at H
          replace H := H.drop 3 rfl
          dsimp only [List.eraseIdx] at H
          replace H := H.drop 3 rfl
          dsimp only [List.eraseIdx] at H
          obtain rfl := Option.some.inj hF
          exact fn_retV (rs := [.cell 2 25]) (vs := [.agg #[v2819, v2823, v3717]]) rfl hRV ⟨v2819, c2820, v2823, c2824, v3717, c3718, x2821, x2825, x3719, rfl, rfl, r2822, r2826, r3720, H⟩
theorem c_77 {N : Nat} {C : Cx} {w : World} {ρ : View} {hs : List Hl} {b1 : Nat} {c2 : List Value} {v5 : Value} {x3 : (List Int)} {x6 : Int} (H : Hp C w ρ (Box b1 [v5, .int .i64 x6] :: Arr v5 1 c2 :: hs)) (_r4 : rdL (eI .u64) ρ x3 c2) {r : Unit} (hF : F_marks_Marks_own N x3 x6 = some r) :
    Calls Tryd.prog 77 [.pointer (some ⟨b1, 0, none⟩)].toArray w (Rets (fun v w' => (() = r ∧ v5 = v ∧ Hp C w' ρ (Box b1 [v5, .int .i64 x6] :: Arr v5 1 c2 :: hs)))) := by
  unfold F_marks_Marks_own at hF
  have h0 : Tryd.f77.body = some _ := rfl
  refine fn_calls' Tryd.func77 h0 (n := 9) rfl (by simp) <| C_seq <| R_nd <| nq (Q_assign rfl) rfl rfl <| WL_nil <| x_then <| C_seq <| C_seq <| R_nd <| nq (Q_move rfl) rfl rfl <| nq (v := .bool false) (Q_eqlP (o := (some ⟨b1, 0, none⟩)) Tryd.underlying61 rfl) rfl rfl <| WL_nil <| x_then ?_
  refine C_cond rfl (fun h => nomatch h) (fun _ => ?_)
  refine C_skip <| x_then <| C_seq <| R_nd <| nq (Q_move rfl) rfl rfl <| nq (Q_nilP rfl) rfl rfl <| nq (v := .pointer (some ⟨b1, 0, none⟩)) (Q_fld Tryd.underlying94 rfl ty92 (by decide) rfl rfl) rfl rfl <| nq (v := v5) (Q_ldB (k := 0) (cs := [v5]) H.ok rfl ty92 rfl rfl rfl (fun _ => rfl) rfl) rfl rfl <| nq (Q_assign rfl) rfl rfl <| WL_nil <| x_then <| C_ret ?_
  replace H := H.front 1 rfl
  dsimp only [List.eraseIdx] at H
  replace H := H.front 1 rfl
  dsimp only [List.eraseIdx] at H
  obtain rfl := Option.some.inj hF
  exact fn_ret (l := [.tmp 2]) (vs := [v5]) rfl rfl rfl ⟨rfl, rfl, H⟩
theorem c_78 {N : Nat} {C : Cx} {w : World} {ρ : View} {hs : List Hl} {x1 : Int} (H : Hp C w ρ (hs)) {r : Int} (hF : F_math_bits_OnesCount64 N x1 = some r) :
    Calls Tryd.prog 78 [.int .u64 x1].toArray w (Rets (fun v w' => (∃ (x2 : Int), x2 = r ∧ .int .i64 x2 = v ∧ Hp C w' ρ (hs)))) := by
  unfold F_math_bits_OnesCount64 at hF
  have h0 : Tryd.f78.body = some _ := rfl
  refine fn_calls' Tryd.func78 h0 (n := 35) rfl (by simp) <| C_seq <| R_nd <| nq (Q_assign rfl) rfl rfl <| WL_nil <| x_then <| C_seq <| R_nd <| nq (Q_move rfl) rfl rfl <| nq (Q_shr rfl rfl (by decide)) rfl rfl <| nq (Q_and rfl rfl) rfl rfl <| nq (Q_move rfl) rfl rfl <| nq (Q_and rfl rfl) rfl rfl <| nq (Q_add rfl rfl) rfl rfl ?_
  refine nq (Q_assign rfl) rfl rfl <| WL_nil <| x_then <| C_seq <| R_nd <| nq (Q_move rfl) rfl rfl <| nq (Q_shr rfl rfl (by decide)) rfl rfl <| nq (Q_and rfl rfl) rfl rfl <| nq (Q_move rfl) rfl rfl <| nq (Q_and rfl rfl) rfl rfl <| nq (Q_add rfl rfl) rfl rfl <| nq (Q_assign rfl) rfl rfl <| WL_nil <| x_then ?_
  refine C_seq <| R_nd <| nq (Q_move rfl) rfl rfl <| nq (Q_shr rfl rfl (by decide)) rfl rfl <| nq (Q_move rfl) rfl rfl <| nq (Q_add rfl rfl) rfl rfl <| nq (Q_and rfl rfl) rfl rfl <| nq (Q_assign rfl) rfl rfl <| WL_nil <| x_then <| C_seq <| R_nd <| nq (Q_move rfl) rfl rfl <| nq (Q_move rfl) rfl rfl ?_
  refine nq (Q_shr rfl rfl (by decide)) rfl rfl <| nq (Q_add rfl rfl) rfl rfl <| nq (Q_assign rfl) rfl rfl <| WL_nil <| x_then <| C_seq <| R_nd <| nq (Q_move rfl) rfl rfl <| nq (Q_move rfl) rfl rfl <| nq (Q_shr rfl rfl (by decide)) rfl rfl <| nq (Q_add rfl rfl) rfl rfl <| nq (Q_assign rfl) rfl rfl <| WL_nil <| x_then ?_
  refine C_seq <| R_nd <| nq (Q_move rfl) rfl rfl <| nq (Q_move rfl) rfl rfl <| nq (Q_shr rfl rfl (by decide)) rfl rfl <| nq (Q_add rfl rfl) rfl rfl <| nq (Q_assign rfl) rfl rfl <| WL_nil <| x_then <| C_seq <| R_nd <| nq (Q_move rfl) rfl rfl <| nq (Q_cvI ⟨_, Tryd.underlying95⟩ Tryd.underlying3 rfl) rfl rfl <| nq (Q_and rfl rfl) rfl rfl ?_
  refine nq (Q_assign rfl) rfl rfl <| WL_nil <| x_then <| C_ret ?_
  obtain rfl := Option.some.inj hF
  exact fn_ret (l := [.tmp 2]) (vs := [.int .i64 (iand .i64 (IntKind.wrap .i64 (IntKind.wrap .u64 ((IntKind.wrap .u64 ((IntKind.wrap .u64 ((iand .u64 (IntKind.wrap .u64 ((shrI .u64 (IntKind.wrap .u64 ((iand .u64 (shrI .u64 (IntKind.wrap .u64 ((iand .u64 (shrI .u64 x1 1) 6148914691236517205) + (iand .u64 x1 6148914691236517205))) 2) 3689348814741910323) + (iand .u64 (IntKind.wrap .u64 ((iand .u64 (shrI .u64 x1 1) 6148914691236517205) + (iand .u64 x1 6148914691236517205))) 3689348814741910323))) 4) + (IntKind.wrap .u64 ((iand .u64 (shrI .u64 (IntKind.wrap .u64 ((iand .u64 (shrI .u64 x1 1) 6148914691236517205) + (iand .u64 x1 6148914691236517205))) 2) 3689348814741910323) + (iand .u64 (IntKind.wrap .u64 ((iand .u64 (shrI .u64 x1 1) 6148914691236517205) + (iand .u64 x1 6148914691236517205))) 3689348814741910323))))) 1085102592571150095) + (shrI .u64 (iand .u64 (IntKind.wrap .u64 ((shrI .u64 (IntKind.wrap .u64 ((iand .u64 (shrI .u64 (IntKind.wrap .u64 ((iand .u64 (shrI .u64 x1 1) 6148914691236517205) + (iand .u64 x1 6148914691236517205))) 2) 3689348814741910323) + (iand .u64 (IntKind.wrap .u64 ((iand .u64 (shrI .u64 x1 1) 6148914691236517205) + (iand .u64 x1 6148914691236517205))) 3689348814741910323))) 4) + (IntKind.wrap .u64 ((iand .u64 (shrI .u64 (IntKind.wrap .u64 ((iand .u64 (shrI .u64 x1 1) 6148914691236517205) + (iand .u64 x1 6148914691236517205))) 2) 3689348814741910323) + (iand .u64 (IntKind.wrap .u64 ((iand .u64 (shrI .u64 x1 1) 6148914691236517205) + (iand .u64 x1 6148914691236517205))) 3689348814741910323))))) 1085102592571150095) 8))) + (shrI .u64 (IntKind.wrap .u64 ((iand .u64 (IntKind.wrap .u64 ((shrI .u64 (IntKind.wrap .u64 ((iand .u64 (shrI .u64 (IntKind.wrap .u64 ((iand .u64 (shrI .u64 x1 1) 6148914691236517205) + (iand .u64 x1 6148914691236517205))) 2) 3689348814741910323) + (iand .u64 (IntKind.wrap .u64 ((iand .u64 (shrI .u64 x1 1) 6148914691236517205) + (iand .u64 x1 6148914691236517205))) 3689348814741910323))) 4) + (IntKind.wrap .u64 ((iand .u64 (shrI .u64 (IntKind.wrap .u64 ((iand .u64 (shrI .u64 x1 1) 6148914691236517205) + (iand .u64 x1 6148914691236517205))) 2) 3689348814741910323) + (iand .u64 (IntKind.wrap .u64 ((iand .u64 (shrI .u64 x1 1) 6148914691236517205) + (iand .u64 x1 6148914691236517205))) 3689348814741910323))))) 1085102592571150095) + (shrI .u64 (iand .u64 (IntKind.wrap .u64 ((shrI .u64 (IntKind.wrap .u64 ((iand .u64 (shrI .u64 (IntKind.wrap .u64 ((iand .u64 (shrI .u64 x1 1) 6148914691236517205) + (iand .u64 x1 6148914691236517205))) 2) 3689348814741910323) + (iand .u64 (IntKind.wrap .u64 ((iand .u64 (shrI .u64 x1 1) 6148914691236517205) + (iand .u64 x1 6148914691236517205))) 3689348814741910323))) 4) + (IntKind.wrap .u64 ((iand .u64 (shrI .u64 (IntKind.wrap .u64 ((iand .u64 (shrI .u64 x1 1) 6148914691236517205) + (iand .u64 x1 6148914691236517205))) 2) 3689348814741910323) + (iand .u64 (IntKind.wrap .u64 ((iand .u64 (shrI .u64 x1 1) 6148914691236517205) + (iand .u64 x1 6148914691236517205))) 3689348814741910323))))) 1085102592571150095) 8))) 16))) + (shrI .u64 (IntKind.wrap .u64 ((IntKind.wrap .u64 ((iand .u64 (IntKind.wrap .u64 ((shrI .u64 (IntKind.wrap .u64 ((iand .u64 (shrI .u64 (IntKind.wrap .u64 ((iand .u64 (shrI .u64 x1 1) 6148914691236517205) + (iand .u64 x1 6148914691236517205))) 2) 3689348814741910323) + (iand .u64 (IntKind.wrap .u64 ((iand .u64 (shrI .u64 x1 1) 6148914691236517205) + (iand .u64 x1 6148914691236517205))) 3689348814741910323))) 4) + (IntKind.wrap .u64 ((iand .u64 (shrI .u64 (IntKind.wrap .u64 ((iand .u64 (shrI .u64 x1 1) 6148914691236517205) + (iand .u64 x1 6148914691236517205))) 2) 3689348814741910323) + (iand .u64 (IntKind.wrap .u64 ((iand .u64 (shrI .u64 x1 1) 6148914691236517205) + (iand .u64 x1 6148914691236517205))) 3689348814741910323))))) 1085102592571150095) + (shrI .u64 (iand .u64 (IntKind.wrap .u64 ((shrI .u64 (IntKind.wrap .u64 ((iand .u64 (shrI .u64 (IntKind.wrap .u64 ((iand .u64 (shrI .u64 x1 1) 6148914691236517205) + (iand .u64 x1 6148914691236517205))) 2) 3689348814741910323) + (iand .u64 (IntKind.wrap .u64 ((iand .u64 (shrI .u64 x1 1) 6148914691236517205) + (iand .u64 x1 6148914691236517205))) 3689348814741910323))) 4) + (IntKind.wrap .u64 ((iand .u64 (shrI .u64 (IntKind.wrap .u64 ((iand .u64 (shrI .u64 x1 1) 6148914691236517205) + (iand .u64 x1 6148914691236517205))) 2) 3689348814741910323) + (iand .u64 (IntKind.wrap .u64 ((iand .u64 (shrI .u64 x1 1) 6148914691236517205) + (iand .u64 x1 6148914691236517205))) 3689348814741910323))))) 1085102592571150095) 8))) + (shrI .u64 (IntKind.wrap .u64 ((iand .u64 (IntKind.wrap .u64 ((shrI .u64 (IntKind.wrap .u64 ((iand .u64 (shrI .u64 (IntKind.wrap .u64 ((iand .u64 (shrI .u64 x1 1) 6148914691236517205) + (iand .u64 x1 6148914691236517205))) 2) 3689348814741910323) + (iand .u64 (IntKind.wrap .u64 ((iand .u64 (shrI .u64 x1 1) 6148914691236517205) + (iand .u64 x1 6148914691236517205))) 3689348814741910323))) 4) + (IntKind.wrap .u64 ((iand .u64 (shrI .u64 (IntKind.wrap .u64 ((iand .u64 (shrI .u64 x1 1) 6148914691236517205) + (iand .u64 x1 6148914691236517205))) 2) 3689348814741910323) + (iand .u64 (IntKind.wrap .u64 ((iand .u64 (shrI .u64 x1 1) 6148914691236517205) + (iand .u64 x1 6148914691236517205))) 3689348814741910323))))) 1085102592571150095) + (shrI .u64 (iand .u64 (IntKind.wrap .u64 ((shrI .u64 (IntKind.wrap .u64 ((iand .u64 (shrI .u64 (IntKind.wrap .u64 ((iand .u64 (shrI .u64 x1 1) 6148914691236517205) + (iand .u64 x1 6148914691236517205))) 2) 3689348814741910323) + (iand .u64 (IntKind.wrap .u64 ((iand .u64 (shrI .u64 x1 1) 6148914691236517205) + (iand .u64 x1 6148914691236517205))) 3689348814741910323))) 4) + (IntKind.wrap .u64 ((iand .u64 (shrI .u64 (IntKind.wrap .u64 ((iand .u64 (shrI .u64 x1 1) 6148914691236517205) + (iand .u64 x1 6148914691236517205))) 2) 3689348814741910323) + (iand .u64 (IntKind.wrap .u64 ((iand .u64 (shrI .u64 x1 1) 6148914691236517205) + (iand .u64 x1 6148914691236517205))) 3689348814741910323))))) 1085102592571150095) 8))) 16))) 32)))) 127)]) rfl rfl rfl ⟨iand .i64 (IntKind.wrap .i64 (IntKind.wrap .u64 ((IntKind.wrap .u64 ((IntKind.wrap .u64 ((iand .u64 (IntKind.wrap .u64 ((shrI .u64 (IntKind.wrap .u64 ((iand .u64 (shrI .u64 (IntKind.wrap .u64 ((iand .u64 (shrI .u64 x1 1) 6148914691236517205) + (iand .u64 x1 6148914691236517205))) 2) 3689348814741910323) + (iand .u64 (IntKind.wrap .u64 ((iand .u64 (shrI .u64 x1 1) 6148914691236517205) + (iand .u64 x1 6148914691236517205))) 3689348814741910323))) 4) + (IntKind.wrap .u64 ((iand .u64 (shrI .u64 (IntKind.wrap .u64 ((iand .u64 (shrI .u64 x1 1) 6148914691236517205) + (iand .u64 x1 6148914691236517205))) 2) 3689348814741910323) + (iand .u64 (IntKind.wrap .u64 ((iand .u64 (shrI .u64 x1 1) 6148914691236517205) + (iand .u64 x1 6148914691236517205))) 3689348814741910323))))) 1085102592571150095) + (shrI .u64 (iand .u64 (IntKind.wrap .u64 ((shrI .u64 (IntKind.wrap .u64 ((iand .u64 (shrI .u64 (IntKind.wrap .u64 ((iand .u64 (shrI .u64 x1 1) 6148914691236517205) + (iand .u64 x1 6148914691236517205))) 2) 3689348814741910323) + (iand .u64 (IntKind.wrap .u64 ((iand .u64 (shrI .u64 x1 1) 6148914691236517205) + (iand .u64 x1 6148914691236517205))) 3689348814741910323))) 4) + (IntKind.wrap .u64 ((iand .u64 (shrI .u64 (IntKind.wrap .u64 ((iand .u64 (shrI .u64 x1 1) 6148914691236517205) + (iand .u64 x1 6148914691236517205))) 2) 3689348814741910323) + (iand .u64 (IntKind.wrap .u64 ((iand .u64 (shrI .u64 x1 1) 6148914691236517205) + (iand .u64 x1 6148914691236517205))) 3689348814741910323))))) 1085102592571150095) 8))) + (shrI .u64 (IntKind.wrap .u64 ((iand .u64 (IntKind.wrap .u64 ((shrI .u64 (IntKind.wrap .u64 ((iand .u64 (shrI .u64 (IntKind.wrap .u64 ((iand .u64 (shrI .u64 x1 1) 6148914691236517205) + (iand .u64 x1 6148914691236517205))) 2) 3689348814741910323) + (iand .u64 (IntKind.wrap .u64 ((iand .u64 (shrI .u64 x1 1) 6148914691236517205) + (iand .u64 x1 6148914691236517205))) 3689348814741910323))) 4) + (IntKind.wrap .u64 ((iand .u64 (shrI .u64 (IntKind.wrap .u64 ((iand .u64 (shrI .u64 x1 1) 6148914691236517205) + (iand .u64 x1 6148914691236517205))) 2) 3689348814741910323) + (iand .u64 (IntKind.wrap .u64 ((iand .u64 (shrI .u64 x1 1) 6148914691236517205) + (iand .u64 x1 6148914691236517205))) 3689348814741910323))))) 1085102592571150095) + (shrI .u64 (iand .u64 (IntKind.wrap .u64 ((shrI .u64 (IntKind.wrap .u64 ((iand .u64 (shrI .u64 (IntKind.wrap .u64 ((iand .u64 (shrI .u64 x1 1) 6148914691236517205) + (iand .u64 x1 6148914691236517205))) 2) 3689348814741910323) + (iand .u64 (IntKind.wrap .u64 ((iand .u64 (shrI .u64 x1 1) 6148914691236517205) + (iand .u64 x1 6148914691236517205))) 3689348814741910323))) 4) + (IntKind.wrap .u64 ((iand .u64 (shrI .u64 (IntKind.wrap .u64 ((iand .u64 (shrI .u64 x1 1) 6148914691236517205) + (iand .u64 x1 6148914691236517205))) 2) 3689348814741910323) + (iand .u64 (IntKind.wrap .u64 ((iand .u64 (shrI .u64 x1 1) 6148914691236517205) + (iand .u64 x1 6148914691236517205))) 3689348814741910323))))) 1085102592571150095) 8))) 16))) + (shrI .u64 (IntKind.wrap .u64 ((IntKind.wrap .u64 ((iand .u64 (IntKind.wrap .u64 ((shrI .u64 (IntKind.wrap .u64 ((iand .u64 (shrI .u64 (IntKind.wrap .u64 ((iand .u64 (shrI .u64 x1 1) 6148914691236517205) + (iand .u64 x1 6148914691236517205))) 2) 3689348814741910323) + (iand .u64 (IntKind.wrap .u64 ((iand .u64 (shrI .u64 x1 1) 6148914691236517205) + (iand .u64 x1 6148914691236517205))) 3689348814741910323))) 4) + (IntKind.wrap .u64 ((iand .u64 (shrI .u64 (IntKind.wrap .u64 ((iand .u64 (shrI .u64 x1 1) 6148914691236517205) + (iand .u64 x1 6148914691236517205))) 2) 3689348814741910323) + (iand .u64 (IntKind.wrap .u64 ((iand .u64 (shrI .u64 x1 1) 6148914691236517205) + (iand .u64 x1 6148914691236517205))) 3689348814741910323))))) 1085102592571150095) + (shrI .u64 (iand .u64 (IntKind.wrap .u64 ((shrI .u64 (IntKind.wrap .u64 ((iand .u64 (shrI .u64 (IntKind.wrap .u64 ((iand .u64 (shrI .u64 x1 1) 6148914691236517205) + (iand .u64 x1 6148914691236517205))) 2) 3689348814741910323) + (iand .u64 (IntKind.wrap .u64 ((iand .u64 (shrI .u64 x1 1) 6148914691236517205) + (iand .u64 x1 6148914691236517205))) 3689348814741910323))) 4) + (IntKind.wrap .u64 ((iand .u64 (shrI .u64 (IntKind.wrap .u64 ((iand .u64 (shrI .u64 x1 1) 6148914691236517205) + (iand .u64 x1 6148914691236517205))) 2) 3689348814741910323) + (iand .u64 (IntKind.wrap .u64 ((iand .u64 (shrI .u64 x1 1) 6148914691236517205) + (iand .u64 x1 6148914691236517205))) 3689348814741910323))))) 1085102592571150095) 8))) + (shrI .u64 (IntKind.wrap .u64 ((iand .u64 (IntKind.wrap .u64 ((shrI .u64 (IntKind.wrap .u64 ((iand .u64 (shrI .u64 (IntKind.wrap .u64 ((iand .u64 (shrI .u64 x1 1) 6148914691236517205) + (iand .u64 x1 6148914691236517205))) 2) 3689348814741910323) + (iand .u64 (IntKind.wrap .u64 ((iand .u64 (shrI .u64 x1 1) 6148914691236517205) + (iand .u64 x1 6148914691236517205))) 3689348814741910323))) 4) + (IntKind.wrap .u64 ((iand .u64 (shrI .u64 (IntKind.wrap .u64 ((iand .u64 (shrI .u64 x1 1) 6148914691236517205) + (iand .u64 x1 6148914691236517205))) 2) 3689348814741910323) + (iand .u64 (IntKind.wrap .u64 ((iand .u64 (shrI .u64 x1 1) 6148914691236517205) + (iand .u64 x1 6148914691236517205))) 3689348814741910323))))) 1085102592571150095) + (shrI .u64 (iand .u64 (IntKind.wrap .u64 ((shrI .u64 (IntKind.wrap .u64 ((iand .u64 (shrI .u64 (IntKind.wrap .u64 ((iand .u64 (shrI .u64 x1 1) 6148914691236517205) + (iand .u64 x1 6148914691236517205))) 2) 3689348814741910323) + (iand .u64 (IntKind.wrap .u64 ((iand .u64 (shrI .u64 x1 1) 6148914691236517205) + (iand .u64 x1 6148914691236517205))) 3689348814741910323))) 4) + (IntKind.wrap .u64 ((iand .u64 (shrI .u64 (IntKind.wrap .u64 ((iand .u64 (shrI .u64 x1 1) 6148914691236517205) + (iand .u64 x1 6148914691236517205))) 2) 3689348814741910323) + (iand .u64 (IntKind.wrap .u64 ((iand .u64 (shrI .u64 x1 1) 6148914691236517205) + (iand .u64 x1 6148914691236517205))) 3689348814741910323))))) 1085102592571150095) 8))) 16))) 32)))) 127, rfl, rfl, H⟩
theorem c_53 {N : Nat} {C : Cx} {w : World} {ρ : View} {hs : List Hl} {b1 : Nat} {c2 : List Value} {v5 : Value} {x3 : (List Int)} {x6 : Int} (H : Hp C w ρ (Box b1 [v5, .int .i64 x6] :: Arr v5 1 c2 :: hs)) (r4 : rdL (eI .u64) ρ x3 c2) {r : Int} (hF : F_marks_Marks_Len N x3 x6 = some r) :
    Calls Tryd.prog 53 [.pointer (some ⟨b1, 0, none⟩)].toArray w (Rets (fun v w' => (∃ (x99 : Int), x99 = r ∧ .int .i64 x99 = v ∧ Hp C w' ρ (Box b1 [v5, .int .i64 x6] :: Arr v5 1 c2 :: hs)))) := by
  unfold F_marks_Marks_Len at hF
  have h0 : Tryd.f53.body = some _ := rfl
  refine fn_calls' Tryd.func53 h0 (n := 19) rfl (by simp) <| C_seq <| R_nd <| nq (Q_assign rfl) rfl rfl <| WL_nil <| x_then <| C_seq <| R_nd <| nq (Q_assign rfl) rfl rfl <| WL_nil <| x_then <| C_seq <| C_seq <| R_nd ?_
  refine nq (Q_move rfl) rfl rfl ?_
  replace H := H.front 1 rfl
  dsimp only [List.eraseIdx] at H
  replace H := H.front 1 rfl
  dsimp only [List.eraseIdx] at H
  obtain ⟨q100, hq100, hF⟩ := bnd hF
  refine ne (E_call fn77 rfl (c_77 H  r4 hq100)) rfl rfl ?_
  rintro _ wd102 ⟨rfl, rfl, H⟩
  try dsimp only at hF
  refine nq (Q_lenA (k := 1) H.ok rfl r4 (by decide) Tryd.underlying92 rfl) rfl rfl <| nq (Q_move rfl) rfl rfl <| WL_nil <| x_then ?_
  obtain ⟨o147, ho147, hF⟩ := bnd hF
  refine C_cutQ (fun a w' => ∃ (x146 : Int), x146 = o147 ∧ Fr 19 a [(3, .int .i64 x146)] ∧ Hp C w' ρ (Box b1 [v5, .int .i64 x6] :: Arr v5 1 c2 :: hs)) ?_ ?_
  · refine C_block ?_
    replace H := H.front 1 rfl
    dsimp only [List.eraseIdx] at H
    replace H := H.front 1 rfl
    dsimp only [List.eraseIdx] at H
    refine C_iter (f := fun s => F_marks_Marks_Len_l0 N x3 s.1 s.2) ho147 (fun s a w' => ∃ (x161 : Int) (x162 : Int), (x161, x162) = s ∧ Fr 19 a [(3, .int .i64 x161), (7, v5), (8, .int .i64 (x3.length : Int)), (9, .int .i64 x162)] ∧ Hp C w' ρ (Box b1 [v5, .int .i64 x6] :: Arr v5 1 c2 :: hs)) ?_ ?_
    · exact fun a hf => ⟨0, 0, rfl, hf.sub ⟨rfl, rfl, rfl, rfl, trivial⟩, H⟩
    · rintro s o176 a wd179 ⟨x161, x162, rfl, hf, H⟩ hB177 hO178
      replace hB177 : F_marks_Marks_Len_l0 N x3 x161 x162 = some o176 := hB177
      unfold F_marks_Marks_Len_l0 at hB177
      refine CW.at hf <| C_seq <| R_nd <| nq (Q_lss rfl rfl) rfl rfl <| WL_nil <| x_then <| C_seq ?_
      refine C_cond rfl (fun hb => ?_) (fun hb => ?_)
      · replace hB177 := itT hb hB177
        refine C_skip <| x_then <| C_seq <| C_block <| C_seq <| R_nd ?_
        obtain ⟨x180, hx180, hB177⟩ := bnd hB177
        obtain ⟨b181, o182, hi186, hc184, ha185⟩ := arr_at (hs := [Arr v5 1 c2]) (k := 0) (by decide) (H.okS (by simp)) rfl r4 hx180
        refine nq (Q_idx hi186 Tryd.underlying92 ty95 rfl rfl) rfl rfl <| nq (v := .int .u64 x180) (Q_ld (show cellsAt _ _ _ [.int .u64 x180] from (show _ = [_] from hc184) ▸ (ha185 _ (Ok.subS (by simp) H.ok))) ty95 rfl (fun _ => rfl) rfl rfl) rfl rfl <| nq (Q_assign rfl) rfl rfl <| WL_nil <| x_then <| R_nd <| nq (Q_move rfl) rfl rfl <| nq (Q_move rfl) rfl rfl ?_
        obtain ⟨q187, hq187, hB177⟩ := bnd hB177
        refine ne (E_call fn78 rfl (c_78 H   hq187)) rfl rfl ?_
        rintro _ wd190 ⟨x189, rfl, rfl, H⟩
        try dsimp only at hB177
        refine nq (Q_add rfl rfl) rfl rfl <| nq (Q_assign rfl) rfl rfl <| WL_nil <| x_block <| x_then <| R_nd <| nq (Q_add rfl rfl) rfl rfl <| nq (Q_move rfl) rfl rfl <| WL_nil ?_
        replace H := H.front 1 rfl
        dsimp only [List.eraseIdx] at H
        replace H := H.front 1 rfl
        dsimp only [List.eraseIdx] at H
        obtain rfl := Option.some.inj hB177
        refine x_A fun a hf => ⟨_, rfl, w64 (x161 + x189), w64 (x162 + 1), rfl, hf.sub ⟨rfl, rfl, rfl, rfl, trivial⟩, H⟩
      · replace hB177 := itF hb hB177
        refine C_exit <| x_then_exit <| x_then_exit <| x_block_exit ?_
        replace H := H.front 1 rfl
        dsimp only [List.eraseIdx] at H
        replace H := H.front 1 rfl
        dsimp only [List.eraseIdx] at H
        obtain rfl := Option.some.inj hB177
        obtain rfl := hO178 _ rfl
        refine x_A fun a hf => ⟨x161, rfl, hf.sub ⟨rfl, trivial⟩, H⟩
  · rintro a wd191 ⟨x146, rfl, hf, H⟩
    try dsimp only at hF
    refine XX.at hf <| x_then <| C_seq <| R_nd <| nq (Q_move rfl) rfl rfl <| nq (Q_assign rfl) rfl rfl <| WL_nil <| x_then <| C_ret ?_
    replace H := H.front 1 rfl
    dsimp only [List.eraseIdx] at H
    replace H := H.front 1 rfl
    dsimp only [List.eraseIdx] at H
    obtain rfl := Option.some.inj hF
    exact fn_ret (l := [.tmp 2]) (vs := [.int .i64 x146]) rfl rfl rfl ⟨x146, rfl, rfl, H⟩
theorem c_19 {N : Nat} {C : Cx} {w : World} {ρ : View} {hs : List Hl} {v1 : Value} {v4 : Value} {v7 : Value} {x2 : (List (List Int))} {x5 : (List Int)} {x8 : (List Int)} (H : Hp C w ρ (hs)) {ge0 : Value} (gl0 : GErr ρ 0 ge0) (r3 : RdSl ρ (eA 256 (eI .i64)) v1 x2) (r6 : RdSl ρ (eI .i64) v4 x5) (r9 : RdSl ρ (eI .i64) v7 x8) {r : Int} (hF : F_canon_Edges N x2 x5 x8 = some r) :
    Calls Tryd.prog 19 [.agg #[v1, v4, v7]].toArray w (Rets (fun v w' => (∃ (x681 : Int), x681 = r ∧ .int .i64 x681 = v ∧ Hp C w' ρ (hs)))) := by
  unfold F_canon_Edges at hF
  have h0 : Tryd.f19.body = some _ := rfl
  refine fn_calls' Tryd.func19 h0 (n := 40) rfl (by simp) <| C_seq <| R_nd <| ne (E_box H (vs := [v1, v4, v7]) rfl rfl) rfl rfl ?_
  rintro _ wd683 ⟨b682, rfl, H⟩
  refine nq (Q_assign rfl) rfl rfl <| WL_nil <| x_then <| C_seq <| C_seq <| R_nd <| nq (v := .agg #[v1, v4, v7]) (Q_ldB (k := 0) (cs := [v1, v4, v7]) H.ok rfl ty25 rfl rfl rfl (fun h => nomatch h) rfl) rfl rfl ?_
  obtain ⟨q684, hq684, hF⟩ := bnd hF
  refine ne (E_call fn26 rfl (c_26 H  r3 r6 r9 hq684)) rfl rfl ?_
  rintro _ wd687 ⟨x686, rfl, rfl, H⟩
  try dsimp only at hF
  refine nq (Q_not rfl) rfl rfl <| WL_nil <| x_then ?_
  refine C_cond rfl (fun hb => ?_) (fun hb => ?_)
  · replace hF := itT hb hF
    refine C_seq <| R_nd <| nq (Q_assign rfl) rfl rfl <| WL_nil <| x_then <| C_ret <| x_then_ret ?_
    replace H := H.drop 0 rfl
    dsimp only [List.eraseIdx] at H
    obtain rfl := Option.some.inj hF
    exact fn_ret (l := [.tmp 2]) (vs := [.int .i64 0]) rfl rfl rfl ⟨0, rfl, rfl, H⟩
  · replace hF := itF hb hF
    refine C_skip <| x_then <| C_seq <| R_nd <| nq (Q_assign rfl) rfl rfl <| WL_nil <| x_then <| C_seq <| C_seq <| R_nd <| nq (v := .pointer (some ⟨b682, 0, none⟩)) (Q_fld Tryd.underlying25 rfl ty22 (by decide) rfl rfl) rfl rfl <| nq (v := v1) (Q_ldB (k := 0) (cs := [v1]) H.ok rfl ty22 rfl rfl rfl (fun _ => rfl) rfl) rfl rfl <| nq (Q_len Tryd.underlying22 rfl r3) rfl rfl <| nq (Q_move rfl) rfl rfl ?_
    refine WL_nil <| x_then ?_
    obtain ⟨o1020, ho1020, hF⟩ := bnd hF
    refine C_cutQ (fun a w' => ∃ (x1019 : Int), .inl x1019 = o1020 ∧ Fr 40 a [(3, .int .i64 x1019)] ∧ Hp C w' ρ (hs)) ?_ ?_
    · refine C_block ?_
      replace H := H.drop 0 rfl
      dsimp only [List.eraseIdx] at H
      refine C_iter (f := fun s => F_canon_Edges_l0 N x2 s.1 s.2) ho1020 (fun s a w' => ∃ (x1130 : Int) (x1131 : Int), (x1130, x1131) = s ∧ Fr 40 a [(3, .int .i64 x1131), (14, v1), (15, .int .i64 (x2.length : Int)), (16, .int .i64 x1130)] ∧ Hp C w' ρ (hs)) ?_ ?_
      · exact fun a hf => ⟨0, 0, rfl, hf.sub ⟨rfl, rfl, rfl, rfl, trivial⟩, H⟩
      · rintro s o1241 a wd1244 ⟨x1130, x1131, rfl, hf, H⟩ hB1242 hO1243
        replace hB1242 : F_canon_Edges_l0 N x2 x1130 x1131 = some o1241 := hB1242
        unfold F_canon_Edges_l0 at hB1242
        refine CW.at hf <| C_seq <| R_nd <| nq (Q_lss rfl rfl) rfl rfl <| WL_nil <| x_then <| C_seq ?_
        refine C_cond rfl (fun hb => ?_) (fun hb => ?_)
        · replace hB1242 := itT hb hB1242
          refine C_skip <| x_then <| C_seq <| C_block <| C_seq <| R_nd ?_
          obtain ⟨x1245, hx1245, hB1242⟩ := bnd hB1242
          obtain ⟨b1246, o1247, c1248, hc1249, ha1250, hi1251⟩ := idxR r3 hx1245
          refine nq (Q_idx hi1251 Tryd.underlying22 ty58 rfl rfl) rfl rfl <| nq (v := .agg c1248.toArray) (Q_ld (ha1250.up H.ok.view) ty58 ((eA 256 (eI .i64)).len hc1249) (fun h => nomatch h) rfl rfl) rfl rfl <| ne (E_allocA (N := 256) (n := 1) (zs := (repC 256 [.int .i64 0])) H ty58 rfl (by simp [repC_length])) rfl rfl ?_
          rintro _ wd1253 ⟨b1252, rfl, H⟩
          refine ne (E_stW (k := 0) H rfl ty58 rfl rfl (rdL.one hc1249.2) (arr_clen (rdL_rep (e:=(eI .i64)) (ρ:=ρ) (rfl) 256) List.length_replicate) (arr_clen hc1249.2 hc1249.1)) rfl rfl ?_
          rintro _ wd1254 H
          dsimp only [List.set] at H
          refine WL_nil <| x_then <| C_seq <| R_nd ?_
          obtain ⟨q1255, hq1255, hB1242⟩ := bnd hB1242
          refine ne (E_call fn51 rfl (c_51 H gl0  hq1255)) rfl rfl ?_
          rintro _ wd1262 (⟨rfl, rfl, H⟩ | ⟨b1257, v1258, c1259, x1260, rfl, rfl, r1261, H⟩)
          · try dsimp only at hB1242
            refine nq (Q_move rfl) rfl rfl <| nq (Q_extract rfl rfl) rfl rfl <| nq (Q_extract rfl rfl) rfl rfl <| nq (Q_assign rfl) rfl rfl <| nq (Q_assign rfl) rfl rfl <| WL_nil <| x_then <| C_seq <| C_seq <| R_nd <| nq (Q_move rfl) rfl rfl <| nq (v := .bool true) (Q_neqE Tryd.underlying63 gl0 rfl) rfl rfl <| WL_nil <| x_then ?_
            refine C_cond rfl (fun _ => ?_) (fun h => nomatch h)
            refine C_seq <| R_nd <| nq (Q_assign rfl) rfl rfl <| WL_nil <| x_then <| C_ret <| x_then_ret <| x_block_ret <| x_then_ret <| x_then_ret <| x_block_ret <| x_then_ret <| x_then_ret ?_
            replace H := H.drop 0 rfl
            dsimp only [List.eraseIdx] at H
            obtain rfl := Option.some.inj hB1242
            obtain rfl := hO1243 _ rfl
            obtain rfl := Option.some.inj (show some _ = some _ from hF)
            exact fn_ret (l := [.tmp 2]) (vs := [.int .i64 0]) rfl rfl rfl ⟨0, rfl, rfl, H⟩
          · try dsimp only at hB1242
            refine nq (Q_move rfl) rfl rfl <| nq (Q_extract rfl rfl) rfl rfl <| nq (Q_extract rfl rfl) rfl rfl <| nq (Q_assign rfl) rfl rfl <| nq (Q_assign rfl) rfl rfl <| WL_nil <| x_then <| C_seq <| C_seq <| R_nd <| nq (Q_move rfl) rfl rfl <| nq (v := .bool false) (Q_neqN Tryd.underlying63 rfl) rfl rfl <| WL_nil <| x_then ?_
            refine C_cond rfl (fun h => nomatch h) (fun _ => ?_)
            refine C_skip <| x_then <| C_seq <| C_seq <| R_nd <| nq (Q_ldW (k := 2) H.ok rfl ty58 rfl (arr_clen hc1249.2 hc1249.1)) rfl rfl <| nq (Q_move rfl) rfl rfl <| WL_nil <| x_then ?_
            obtain ⟨o1306, ho1306, hB1242⟩ := bnd hB1242
            refine C_cutQ (fun a w' => ∃ (c1303 : (List Value)) (x1304 : (List Int)), x1304 = o1306 ∧ rdL (eI .u64) ρ x1304 c1303 ∧ Fr 40 a [(3, .int .i64 x1131), (6, .pointer (some ⟨b1257, 0, none⟩)), (14, v1), (15, .int .i64 (x2.length : Int)), (16, .int .i64 x1130)] ∧ Hp C w' ρ (Box b1257 [v1258, .int .i64 200] :: Arr v1258 1 c1303 :: hs)) ?_ ?_
            · refine C_block ?_
              replace H := H.front 1 rfl
              dsimp only [List.eraseIdx] at H
              replace H := H.front 1 rfl
              dsimp only [List.eraseIdx] at H
              replace H := H.drop 2 rfl
              dsimp only [List.eraseIdx] at H
              refine C_iter (f := fun s => F_canon_Edges_l1 N x1245 s.1 s.2) ho1306 (fun s a w' => ∃ (c1320 : (List Value)) (x1319 : Int) (x1321 : (List Int)), (x1319, x1321) = s ∧ rdL (eI .u64) ρ x1321 c1320 ∧ Fr 40 a [(3, .int .i64 x1131), (6, .pointer (some ⟨b1257, 0, none⟩)), (14, v1), (15, .int .i64 (x2.length : Int)), (16, .int .i64 x1130), (26, .agg c1248.toArray), (27, .int .i64 x1319)] ∧ Hp C w' ρ (Box b1257 [v1258, .int .i64 200] :: Arr v1258 1 c1320 :: hs)) ?_ ?_
              · exact fun a hf => ⟨c1259, 0, x1260, rfl, r1261, hf.sub ⟨rfl, rfl, rfl, rfl, rfl, rfl, rfl, trivial⟩, H⟩
              · rintro s o1335 a wd1338 ⟨c1320, x1319, x1321, rfl, r1322, hf, H⟩ hB1336 hO1337
                replace hB1336 : F_canon_Edges_l1 N x1245 x1319 x1321 = some o1335 := hB1336
                unfold F_canon_Edges_l1 at hB1336
                refine CW.at hf <| C_seq <| R_nd <| nq (Q_lss rfl rfl) rfl rfl <| WL_nil <| x_then <| C_seq ?_
                refine C_cond rfl (fun hb => ?_) (fun hb => ?_)
                · replace hB1336 := itT hb hB1336
                  refine C_skip <| x_then <| C_seq <| C_block <| C_seq <| R_nd ?_
                  obtain ⟨x1339, hx1339, hB1336⟩ := bnd hB1336
                  refine nq (Q_ixI hc1249.2 hc1249.1 hx1339 Tryd.underlying58 rfl rfl ty3 rfl) rfl rfl <| nq (Q_assign rfl) rfl rfl <| WL_nil <| x_then <| R_nd <| nq (Q_move rfl) rfl rfl <| nq (Q_move rfl) rfl rfl ?_
                  replace H := H.front 1 rfl
                  dsimp only [List.eraseIdx] at H
                  replace H := H.front 1 rfl
                  dsimp only [List.eraseIdx] at H
                  obtain ⟨q1340, hq1340, hB1336⟩ := bnd hB1336
                  refine ne (E_call fn52 rfl (c_52 H  r1322 hq1340)) rfl rfl ?_
                  rintro _ wd1346 ⟨c1342, x1343, x1344, rfl, rfl, r1345, H⟩
                  try dsimp only at hB1336
                  refine WL_nil <| x_block <| x_then <| R_nd <| nq (Q_add rfl rfl) rfl rfl <| nq (Q_move rfl) rfl rfl <| WL_nil ?_
                  replace H := H.front 1 rfl
                  dsimp only [List.eraseIdx] at H
                  replace H := H.front 1 rfl
                  dsimp only [List.eraseIdx] at H
                  obtain rfl := Option.some.inj hB1336
                  refine x_A fun a hf => ⟨_, rfl, c1342, w64 (x1319 + 1), x1343, rfl, r1345, hf.sub ⟨rfl, rfl, rfl, rfl, rfl, rfl, rfl, trivial⟩, H⟩
                · replace hB1336 := itF hb hB1336
                  refine C_exit <| x_then_exit <| x_then_exit <| x_block_exit ?_
                  replace H := H.front 1 rfl
                  dsimp only [List.eraseIdx] at H
                  replace H := H.front 1 rfl
                  dsimp only [List.eraseIdx] at H
                  obtain rfl := Option.some.inj hB1336
                  obtain rfl := hO1337 _ rfl
                  refine x_A fun a hf => ⟨c1320, x1321, rfl, r1322, hf.sub ⟨rfl, rfl, rfl, rfl, rfl, trivial⟩, H⟩
            · rintro a wd1347 ⟨c1303, x1304, rfl, r1305, hf, H⟩
              try dsimp only at hB1242
              refine XX.at hf <| x_then <| R_nd <| nq (Q_move rfl) rfl rfl <| nq (Q_move rfl) rfl rfl ?_
              replace H := H.front 1 rfl
              dsimp only [List.eraseIdx] at H
              replace H := H.front 1 rfl
              dsimp only [List.eraseIdx] at H
              obtain ⟨q1348, hq1348, hB1242⟩ := bnd hB1242
              refine ne (E_call fn53 rfl (c_53 H  r1305 hq1348)) rfl rfl ?_
              rintro _ wd1351 ⟨x1350, rfl, rfl, H⟩
              try dsimp only at hB1242
              refine nq (Q_add rfl rfl) rfl rfl <| nq (Q_assign rfl) rfl rfl <| WL_nil <| x_block <| x_then <| R_nd <| nq (Q_add rfl rfl) rfl rfl <| nq (Q_move rfl) rfl rfl <| WL_nil ?_
              replace H := H.drop 0 rfl
              dsimp only [List.eraseIdx] at H
              replace H := H.drop 0 rfl
              dsimp only [List.eraseIdx] at H
              obtain rfl := Option.some.inj hB1242
              refine x_A fun a hf => ⟨_, rfl, w64 (x1130 + 1), w64 (x1131 + x1350), rfl, hf.sub ⟨rfl, rfl, rfl, rfl, trivial⟩, H⟩
        · replace hB1242 := itF hb hB1242
          refine C_exit <| x_then_exit <| x_then_exit <| x_block_exit ?_
          obtain rfl := Option.some.inj hB1242
          obtain rfl := hO1243 _ rfl
          refine x_A fun a hf => ⟨x1131, rfl, hf.sub ⟨rfl, trivial⟩, H⟩
    · rintro a wd1352 ⟨x1019, rfl, hf, H⟩
      try dsimp only at hF
      refine XX.at hf <| x_then <| C_seq <| R_nd <| nq (Q_move rfl) rfl rfl <| nq (Q_assign rfl) rfl rfl <| WL_nil <| x_then <| C_ret ?_
      obtain rfl := Option.some.inj hF
      exact fn_ret (l := [.tmp 2]) (vs := [.int .i64 x1019]) rfl rfl rfl ⟨x1019, rfl, rfl, H⟩
theorem c_60 {N : Nat} {C : Cx} {w : World} {ρ : View} {hs : List Hl} {v1 : Value} {v4 : Value} {v7 : Value} {x2 : (List (List Int))} {x5 : (List Int)} {x8 : (List Int)} {x10 : Int} (H : Hp C w ρ (hs)) (_r3 : RdSl ρ (eA 256 (eI .i64)) v1 x2) (_r6 : RdSl ρ (eI .i64) v4 x5) (r9 : RdSl ρ (eI .i64) v7 x8) {r : Int} (hF : F_subset_DFA_begin N x2 x5 x8 x10 = some r) :
    Calls Tryd.prog 60 [.agg #[v1, v4, v7], .int .i64 x10].toArray w (Rets (fun v w' => (∃ (x23 : Int), x23 = r ∧ .int .i64 x23 = v ∧ Hp C w' ρ (hs)))) := by
  unfold F_subset_DFA_begin at hF
  have h0 : Tryd.f60.body = some _ := rfl
  refine fn_calls' Tryd.func60 h0 (n := 19) rfl (by simp) <| C_seq <| R_nd <| ne (E_box H (vs := [v1, v4, v7]) rfl rfl) rfl rfl ?_
  rintro _ wd25 ⟨b24, rfl, H⟩
  refine nq (Q_assign rfl) rfl rfl <| WL_nil <| x_then <| C_seq ?_
  obtain ⟨o27, ho27, hF⟩ := bnd hF
  refine C_cut (fun a w' => ∃ (x26 : Bool), x26 = o27 ∧ Fr 19 a [(1, .int .i64 x10), (2, .pointer (some ⟨b24, 0, none⟩)), (13, .bool x26)] ∧ Hp C w' ρ (Box b24 [v1, v4, v7] :: hs)) ?_ ?_
  · refine R_nd <| nq (Q_move rfl) rfl rfl <| nq (Q_lss rfl rfl) rfl rfl <| nq (Q_move rfl) rfl rfl ?_
    rcases Bool.eq_false_or_eq_true (decide (x10 < 0)) with hb | hb
    · rw [hb]
      replace ho27 := itT hb ho27
      refine gs rfl rfl rfl rfl <| gs rfl rfl rfl rfl <| gs rfl rfl rfl rfl <| gs rfl rfl rfl rfl <| gs rfl rfl rfl rfl <| nq (Q_pickT rfl rfl) rfl rfl <| WL_nil ?_
      obtain rfl := Option.some.inj ho27
      refine x_A fun a hf => ⟨true, rfl, hf.sub ⟨rfl, rfl, rfl, trivial⟩, H⟩
    · rw [hb]
      replace ho27 := itF hb ho27
      refine gq (Q_move rfl) rfl rfl rfl <| gq (v := .pointer (some ⟨b24, 2, none⟩)) (Q_fld Tryd.underlying25 rfl ty23 (by decide) rfl rfl) rfl rfl rfl <| gq (v := v7) (Q_ldB (k := 0) (cs := [v7]) H.ok rfl ty23 rfl rfl rfl (fun _ => rfl) rfl) rfl rfl rfl <| gq (Q_len Tryd.underlying23 rfl r9) rfl rfl rfl <| gq (Q_geq rfl rfl) rfl rfl rfl <| nq (Q_pickF rfl rfl) rfl rfl <| WL_nil ?_
      obtain rfl := Option.some.inj ho27
      refine x_A fun a hf => ⟨decide (x10 ≥ (x8.length : Int)), rfl, hf.sub ⟨rfl, rfl, rfl, trivial⟩, H⟩
  · rintro a wd28 ⟨x26, rfl, hf, H⟩
    try dsimp only at hF
    refine CW.at hf ?_
    refine C_cond rfl (fun hb => ?_) (fun hb => ?_)
    · replace hF := itT hb hF
      refine C_seq <| R_nd <| nq (Q_assign rfl) rfl rfl <| WL_nil <| x_then <| C_ret <| x_then_ret ?_
      replace H := H.drop 0 rfl
      dsimp only [List.eraseIdx] at H
      obtain rfl := Option.some.inj hF
      exact fn_ret (l := [.tmp 4]) (vs := [.int .i64 0]) rfl rfl rfl ⟨0, rfl, rfl, H⟩
    · replace hF := itF hb hF
      refine C_skip <| x_then <| C_seq <| R_nd <| nq (v := .pointer (some ⟨b24, 2, none⟩)) (Q_fld Tryd.underlying25 rfl ty23 (by decide) rfl rfl) rfl rfl <| nq (v := v7) (Q_ldB (k := 0) (cs := [v7]) H.ok rfl ty23 rfl rfl rfl (fun _ => rfl) rfl) rfl rfl <| nq (Q_move rfl) rfl rfl ?_
      obtain ⟨x29, hx29, hF⟩ := bnd hF
      obtain ⟨b30, o31, c32, hc33, ha34, hi35⟩ := idxR r9 hx29
      refine nq (Q_idx hi35 Tryd.underlying23 ty3 rfl rfl) rfl rfl <| nq (v := .int .i64 x29) (Q_ld (show cellsAt _ _ _ [.int .i64 x29] from (show _ = [_] from hc33) ▸ (ha34.up H.ok.view)) ty3 rfl (fun _ => rfl) rfl rfl) rfl rfl <| nq (Q_assign rfl) rfl rfl <| WL_nil <| x_then <| C_ret ?_
      replace H := H.drop 0 rfl
      dsimp only [List.eraseIdx] at H
      obtain rfl := Option.some.inj hF
      exact fn_ret (l := [.tmp 4]) (vs := [.int .i64 x29]) rfl rfl rfl ⟨x29, rfl, rfl, H⟩
theorem c_61 {N : Nat} {C : Cx} {w : World} {ρ : View} {hs : List Hl} {v1 : Value} {v4 : Value} {v7 : Value} {x2 : (List (List Int))} {x5 : (List Int)} {x8 : (List Int)} {x10 : Int} {x11 : Int} (H : Hp C w ρ (hs)) (r3 : RdSl ρ (eA 256 (eI .i64)) v1 x2) (_r6 : RdSl ρ (eI .i64) v4 x5) (_r9 : RdSl ρ (eI .i64) v7 x8) {r : Int} (hF : F_subset_DFA_next N x2 x5 x8 x10 x11 = some r) :
    Calls Tryd.prog 61 [.agg #[v1, v4, v7], .int .i64 x10, .int .u8 x11].toArray w (Rets (fun v w' => (∃ (x29 : Int), x29 = r ∧ .int .i64 x29 = v ∧ Hp C w' ρ (hs)))) := by
  unfold F_subset_DFA_next at hF
  have h0 : Tryd.f61.body = some _ := rfl
  refine fn_calls' Tryd.func61 h0 (n := 23) rfl (by simp) <| C_seq <| R_nd <| ne (E_box H (vs := [v1, v4, v7]) rfl rfl) rfl rfl ?_
  rintro _ wd31 ⟨b30, rfl, H⟩
  refine nq (Q_assign rfl) rfl rfl <| WL_nil <| x_then <| C_seq ?_
  obtain ⟨o33, ho33, hF⟩ := bnd hF
  refine C_cut (fun a w' => ∃ (x32 : Bool), x32 = o33 ∧ Fr 23 a [(1, .int .i64 x10), (2, .int .u8 x11), (3, .pointer (some ⟨b30, 0, none⟩)), (15, .bool x32)] ∧ Hp C w' ρ (Box b30 [v1, v4, v7] :: hs)) ?_ ?_
  · refine R_nd <| nq (Q_move rfl) rfl rfl <| nq (Q_lss rfl rfl) rfl rfl <| nq (Q_move rfl) rfl rfl ?_
    rcases Bool.eq_false_or_eq_true (decide (x10 < 0)) with hb | hb
    · rw [hb]
      replace ho33 := itT hb ho33
      refine gs rfl rfl rfl rfl <| gs rfl rfl rfl rfl <| gs rfl rfl rfl rfl <| gs rfl rfl rfl rfl <| gs rfl rfl rfl rfl <| nq (Q_pickT rfl rfl) rfl rfl <| WL_nil ?_
      obtain rfl := Option.some.inj ho33
      refine x_A fun a hf => ⟨true, rfl, hf.sub ⟨rfl, rfl, rfl, rfl, trivial⟩, H⟩
    · rw [hb]
      replace ho33 := itF hb ho33
      refine gq (Q_move rfl) rfl rfl rfl <| gq (v := .pointer (some ⟨b30, 0, none⟩)) (Q_fld Tryd.underlying25 rfl ty22 (by decide) rfl rfl) rfl rfl rfl <| gq (v := v1) (Q_ldB (k := 0) (cs := [v1]) H.ok rfl ty22 rfl rfl rfl (fun _ => rfl) rfl) rfl rfl rfl <| gq (Q_len Tryd.underlying22 rfl r3) rfl rfl rfl <| gq (Q_geq rfl rfl) rfl rfl rfl <| nq (Q_pickF rfl rfl) rfl rfl <| WL_nil ?_
      obtain rfl := Option.some.inj ho33
      refine x_A fun a hf => ⟨decide (x10 ≥ (x2.length : Int)), rfl, hf.sub ⟨rfl, rfl, rfl, rfl, trivial⟩, H⟩
  · rintro a wd34 ⟨x32, rfl, hf, H⟩
    try dsimp only at hF
    refine CW.at hf ?_
    refine C_cond rfl (fun hb => ?_) (fun hb => ?_)
    · replace hF := itT hb hF
      refine C_seq <| R_nd <| nq (Q_assign rfl) rfl rfl <| WL_nil <| x_then <| C_ret <| x_then_ret ?_
      replace H := H.drop 0 rfl
      dsimp only [List.eraseIdx] at H
      obtain rfl := Option.some.inj hF
      exact fn_ret (l := [.tmp 6]) (vs := [.int .i64 0]) rfl rfl rfl ⟨0, rfl, rfl, H⟩
    · replace hF := itF hb hF
      refine C_skip <| x_then <| C_seq <| R_nd <| nq (v := .pointer (some ⟨b30, 0, none⟩)) (Q_fld Tryd.underlying25 rfl ty22 (by decide) rfl rfl) rfl rfl <| nq (v := v1) (Q_ldB (k := 0) (cs := [v1]) H.ok rfl ty22 rfl rfl rfl (fun _ => rfl) rfl) rfl rfl <| nq (Q_move rfl) rfl rfl <| nq (Q_move rfl) rfl rfl ?_
      obtain ⟨x35, hx35, hF⟩ := bnd hF
      obtain ⟨b36, o37, c38, hc39, ha40, hi41⟩ := idxR r3 hx35
      refine nq (Q_idx hi41 Tryd.underlying22 ty58 rfl rfl) rfl rfl ?_
      obtain ⟨x42, hx42, hF⟩ := bnd hF
      have hn43 := idx_lt hc39.1 hx42
      refine nq (Q_idxA hn43.1 hn43.2 Tryd.underlying58 ty3 rfl rfl) rfl rfl ?_
      obtain ⟨c44, hc45, ha46, _⟩ := arrR hc39 ha40 hx42
      refine nq (v := .int .i64 x42) (Q_ld (show cellsAt _ _ _ [.int .i64 x42] from (show _ = [_] from hc45) ▸ (ha46.up H.ok.view)) ty3 rfl (fun _ => rfl) rfl rfl) rfl rfl <| nq (Q_assign rfl) rfl rfl <| WL_nil <| x_then <| C_ret ?_
      replace H := H.drop 0 rfl
      dsimp only [List.eraseIdx] at H
      obtain rfl := Option.some.inj hF
      exact fn_ret (l := [.tmp 6]) (vs := [.int .i64 x42]) rfl rfl rfl ⟨x42, rfl, rfl, H⟩
theorem c_27 {N : Nat} {C : Cx} {w : World} {ρ : View} {hs : List Hl} {v1 : Value} {v4 : Value} {v7 : Value} {v11 : Value} {x2 : (List (List Int))} {x5 : (List Int)} {x8 : (List Int)} {x10 : Int} {x12 : (List Int)} (H : Hp C w ρ (hs)) (r3 : RdSl ρ (eA 256 (eI .i64)) v1 x2) (r6 : RdSl ρ (eI .i64) v4 x5) (r9 : RdSl ρ (eI .i64) v7 x8) (r13 : RdSl ρ (eI .u8) v11 x12) {r : Int} (hF : F_subset_DFA_Run N x2 x5 x8 x10 x12 = some r) :
    Calls Tryd.prog 27 [.agg #[v1, v4, v7], .int .i64 x10, v11].toArray w (Rets (fun v w' => (∃ (x120 : Int), x120 = r ∧ .int .i64 x120 = v ∧ Hp C w' ρ (hs)))) := by
  unfold F_subset_DFA_Run at hF
  have h0 : Tryd.f27.body = some _ := rfl
  refine fn_calls' Tryd.func27 h0 (n := 32) rfl (by simp) <| C_seq <| R_nd <| ne (E_box H (vs := [v1, v4, v7]) rfl rfl) rfl rfl ?_
  rintro _ wd122 ⟨b121, rfl, H⟩
  refine nq (Q_assign rfl) rfl rfl <| WL_nil <| x_then <| C_seq <| C_seq <| R_nd <| nq (v := .agg #[v1, v4, v7]) (Q_ldB (k := 0) (cs := [v1, v4, v7]) H.ok rfl ty25 rfl rfl rfl (fun h => nomatch h) rfl) rfl rfl ?_
  obtain ⟨q123, hq123, hF⟩ := bnd hF
  refine ne (E_call fn26 rfl (c_26 H  r3 r6 r9 hq123)) rfl rfl ?_
  rintro _ wd126 ⟨x125, rfl, rfl, H⟩
  try dsimp only at hF
  refine nq (Q_not rfl) rfl rfl <| WL_nil <| x_then ?_
  refine C_cond rfl (fun hb => ?_) (fun hb => ?_)
  · replace hF := itT hb hF
    refine C_seq <| R_nd <| nq (Q_assign rfl) rfl rfl <| WL_nil <| x_then <| C_ret <| x_then_ret ?_
    replace H := H.drop 0 rfl
    dsimp only [List.eraseIdx] at H
    obtain rfl := Option.some.inj hF
    exact fn_ret (l := [.tmp 6]) (vs := [.int .i64 (-1)]) rfl rfl rfl ⟨(-1), rfl, rfl, H⟩
  · replace hF := itF hb hF
    refine C_skip <| x_then <| C_seq <| R_nd <| nq (v := .agg #[v1, v4, v7]) (Q_ldB (k := 0) (cs := [v1, v4, v7]) H.ok rfl ty25 rfl rfl rfl (fun h => nomatch h) rfl) rfl rfl <| nq (Q_move rfl) rfl rfl ?_
    obtain ⟨q127, hq127, hF⟩ := bnd hF
    refine ne (E_call fn60 rfl (c_60 H  r3 r6 r9 hq127)) rfl rfl ?_
    rintro _ wd130 ⟨x129, rfl, rfl, H⟩
    try dsimp only at hF
    refine nq (Q_assign rfl) rfl rfl <| WL_nil <| x_then <| C_seq <| C_seq <| R_nd <| nq (Q_move rfl) rfl rfl <| nq (Q_len Tryd.underlying42 rfl r13) rfl rfl <| nq (Q_move rfl) rfl rfl <| WL_nil <| x_then ?_
    obtain ⟨o175, ho175, hF⟩ := bnd hF
    refine C_cutQ (fun a w' => ∃ (x174 : Int), x174 = o175 ∧ Fr 32 a [(3, .pointer (some ⟨b121, 0, none⟩)), (7, .int .i64 x174)] ∧ Hp C w' ρ (Box b121 [v1, v4, v7] :: hs)) ?_ ?_
    · refine C_block ?_
      refine C_iter (f := fun s => F_subset_DFA_Run_l0 N x2 x5 x8 x12 s.1 s.2) ho175 (fun s a w' => ∃ (x189 : Int) (x190 : Int), (x189, x190) = s ∧ Fr 32 a [(3, .pointer (some ⟨b121, 0, none⟩)), (7, .int .i64 x190), (16, v11), (17, .int .i64 (x12.length : Int)), (18, .int .i64 x189)] ∧ Hp C w' ρ (Box b121 [v1, v4, v7] :: hs)) ?_ ?_
      · exact fun a hf => ⟨0, x129, rfl, hf.sub ⟨rfl, rfl, rfl, rfl, rfl, trivial⟩, H⟩
      · rintro s o204 a wd207 ⟨x189, x190, rfl, hf, H⟩ hB205 hO206
        replace hB205 : F_subset_DFA_Run_l0 N x2 x5 x8 x12 x189 x190 = some o204 := hB205
        unfold F_subset_DFA_Run_l0 at hB205
        refine CW.at hf <| C_seq <| R_nd <| nq (Q_lss rfl rfl) rfl rfl <| WL_nil <| x_then <| C_seq ?_
        refine C_cond rfl (fun hb => ?_) (fun hb => ?_)
        · replace hB205 := itT hb hB205
          refine C_skip <| x_then <| C_seq <| C_block <| C_seq <| R_nd ?_
          obtain ⟨x208, hx208, hB205⟩ := bnd hB205
          obtain ⟨b209, o210, c211, hc212, ha213, hi214⟩ := idxR r13 hx208
          refine nq (Q_idx hi214 Tryd.underlying42 ty5 rfl rfl) rfl rfl <| nq (v := .int .u8 x208) (Q_ld (show cellsAt _ _ _ [.int .u8 x208] from (show _ = [_] from hc212) ▸ (ha213.up H.ok.view)) ty5 rfl (fun _ => rfl) rfl rfl) rfl rfl <| nq (Q_assign rfl) rfl rfl <| WL_nil <| x_then <| R_nd <| nq (v := .agg #[v1, v4, v7]) (Q_ldB (k := 0) (cs := [v1, v4, v7]) H.ok rfl ty25 rfl rfl rfl (fun h => nomatch h) rfl) rfl rfl <| nq (Q_move rfl) rfl rfl <| nq (Q_move rfl) rfl rfl ?_
          obtain ⟨q215, hq215, hB205⟩ := bnd hB205
          refine ne (E_call fn61 rfl (c_61 H  r3 r6 r9 hq215)) rfl rfl ?_
          rintro _ wd218 ⟨x217, rfl, rfl, H⟩
          try dsimp only at hB205
          refine nq (Q_assign rfl) rfl rfl <| WL_nil <| x_block <| x_then <| R_nd <| nq (Q_add rfl rfl) rfl rfl <| nq (Q_move rfl) rfl rfl <| WL_nil ?_
          obtain rfl := Option.some.inj hB205
          refine x_A fun a hf => ⟨_, rfl, w64 (x189 + 1), x217, rfl, hf.sub ⟨rfl, rfl, rfl, rfl, rfl, trivial⟩, H⟩
        · replace hB205 := itF hb hB205
          refine C_exit <| x_then_exit <| x_then_exit <| x_block_exit ?_
          obtain rfl := Option.some.inj hB205
          obtain rfl := hO206 _ rfl
          refine x_A fun a hf => ⟨x190, rfl, hf.sub ⟨rfl, rfl, trivial⟩, H⟩
    · rintro a wd219 ⟨x174, rfl, hf, H⟩
      try dsimp only at hF
      refine XX.at hf <| x_then <| C_seq <| R_nd <| nq (v := .pointer (some ⟨b121, 1, none⟩)) (Q_fld Tryd.underlying25 rfl ty23 (by decide) rfl rfl) rfl rfl <| nq (v := v4) (Q_ldB (k := 0) (cs := [v4]) H.ok rfl ty23 rfl rfl rfl (fun _ => rfl) rfl) rfl rfl <| nq (Q_move rfl) rfl rfl ?_
      obtain ⟨x220, hx220, hF⟩ := bnd hF
      obtain ⟨b221, o222, c223, hc224, ha225, hi226⟩ := idxR r6 hx220
      refine nq (Q_idx hi226 Tryd.underlying23 ty3 rfl rfl) rfl rfl <| nq (v := .int .i64 x220) (Q_ld (show cellsAt _ _ _ [.int .i64 x220] from (show _ = [_] from hc224) ▸ (ha225.up H.ok.view)) ty3 rfl (fun _ => rfl) rfl rfl) rfl rfl <| nq (Q_assign rfl) rfl rfl <| WL_nil <| x_then <| C_ret ?_
      replace H := H.drop 0 rfl
      dsimp only [List.eraseIdx] at H
      obtain rfl := Option.some.inj hF
      exact fn_ret (l := [.tmp 6]) (vs := [.int .i64 x220]) rfl rfl rfl ⟨x220, rfl, rfl, H⟩
theorem c_4 {N : Nat} {C : Cx} {w : World} {ρ : View} {hs : List Hl} {v1 : Value} {v4 : Value} {v7 : Value} {v10 : Value} {x2 : (List (List Int))} {x5 : (List Int)} {x8 : (List Int)} {x11 : (List Int)} {x13 : Int} (H : Hp C w ρ (hs)) {ge0 : Value} (gl0 : GErr ρ 0 ge0) (r3 : RdSl ρ (eA 256 (eI .i64)) v1 x2) (r6 : RdSl ρ (eI .i64) v4 x5) (r9 : RdSl ρ (eI .i64) v7 x8) (r12 : RdSl ρ (eI .u8) v10 x11) {r : Bool} (hF : F_dofferlaw20_CanonFinds N x2 x5 x8 x11 x13 = some r) :
    Calls Tryd.prog 4 [.agg #[v1, v4, v7], v10, .int .i64 x13].toArray w (Rets (fun v w' => (∃ (x208 : Bool), x208 = r ∧ .bool x208 = v ∧ Hp C w' ρ (hs)))) := by
  unfold F_dofferlaw20_CanonFinds at hF
  have h0 : Tryd.f4.body = some _ := rfl
  refine fn_calls' Tryd.func4 h0 (n := 74) rfl (by simp) <| C_seq <| R_nd <| ne (E_box H (vs := [v1, v4, v7]) rfl rfl) rfl rfl ?_
  rintro _ wd210 ⟨b209, rfl, H⟩
  refine nq (Q_assign rfl) rfl rfl <| WL_nil <| x_then <| C_seq <| C_seq <| R_nd ?_
  obtain ⟨q211, hq211, hF⟩ := bnd hF
  refine ne (E_call fn14 rfl (c_14 H gl0  hq211)) rfl rfl ?_
  rintro _ wd214 ⟨x213, rfl, rfl, H⟩
  try dsimp only at hF
  refine nq (Q_not rfl) rfl rfl <| WL_nil <| x_then ?_
  refine C_cond rfl (fun hb => ?_) (fun hb => ?_)
  · replace hF := itT hb hF
    refine C_seq <| R_nd <| nq (Q_assign rfl) rfl rfl <| WL_nil <| x_then <| C_ret <| x_then_ret ?_
    replace H := H.drop 0 rfl
    dsimp only [List.eraseIdx] at H
    obtain rfl := Option.some.inj hF
    exact fn_ret (l := [.tmp 6]) (vs := [.bool false]) rfl rfl rfl ⟨false, rfl, rfl, H⟩
  · replace hF := itF hb hF
    refine C_skip <| x_then <| C_seq ?_
    obtain ⟨o220, ho220, hF⟩ := bnd hF
    refine C_cut (fun a w' => ∃ (x219 : Bool), x219 = o220 ∧ Fr 74 a [(1, v10), (2, .int .i64 x13), (3, .pointer (some ⟨b209, 0, none⟩)), (24, .bool x219)] ∧ Hp C w' ρ (Box b209 [v1, v4, v7] :: hs)) ?_ ?_
    · refine R_nd <| nq (v := .pointer (some ⟨b209, 0, none⟩)) (Q_fld Tryd.underlying25 rfl ty22 (by decide) rfl rfl) rfl rfl <| nq (v := v1) (Q_ldB (k := 0) (cs := [v1]) H.ok rfl ty22 rfl rfl rfl (fun _ => rfl) rfl) rfl rfl <| nq (Q_len Tryd.underlying22 rfl r3) rfl rfl <| nq (Q_gtr rfl rfl) rfl rfl <| nq (Q_move rfl) rfl rfl ?_
      rcases Bool.eq_false_or_eq_true (decide ((x2.length : Int) > 30)) with hb | hb
      · rw [hb]
        replace ho220 := itT hb ho220
        refine gs rfl rfl rfl rfl <| gs rfl rfl rfl rfl <| gs rfl rfl rfl rfl <| nq (Q_pickT rfl rfl) rfl rfl <| nq (Q_move rfl) rfl rfl <| gs rfl rfl rfl rfl <| gs rfl rfl rfl rfl <| gs rfl rfl rfl rfl <| nq (Q_pickT rfl rfl) rfl rfl <| WL_nil ?_
        obtain rfl := Option.some.inj ho220
        refine x_A fun a hf => ⟨true, rfl, hf.sub ⟨rfl, rfl, rfl, rfl, trivial⟩, H⟩
      · rw [hb]
        replace ho220 := itF hb ho220
        refine gq (Q_move rfl) rfl rfl rfl <| gq (Q_len Tryd.underlying42 rfl r12) rfl rfl rfl <| gq (Q_gtr rfl rfl) rfl rfl rfl <| nq (Q_pickF rfl rfl) rfl rfl <| nq (Q_move rfl) rfl rfl ?_
        rcases Bool.eq_false_or_eq_true (decide ((x11.length : Int) > 50)) with hb | hb
        · rw [hb]
          replace ho220 := itT hb ho220
          refine gs rfl rfl rfl rfl <| gs rfl rfl rfl rfl <| gs rfl rfl rfl rfl <| nq (Q_pickT rfl rfl) rfl rfl <| WL_nil ?_
          obtain rfl := Option.some.inj ho220
          refine x_A fun a hf => ⟨true, rfl, hf.sub ⟨rfl, rfl, rfl, rfl, trivial⟩, H⟩
        · rw [hb]
          replace ho220 := itF hb ho220
          refine gq (v := .agg #[v1, v4, v7]) (Q_ldB (k := 0) (cs := [v1, v4, v7]) H.ok rfl ty25 rfl rfl rfl (fun h => nomatch h) rfl) rfl rfl rfl ?_
          obtain ⟨q221, hq221, ho220⟩ := bnd ho220
          refine ge (E_call fn26 rfl (c_26 H  r3 r6 r9 hq221)) rfl rfl rfl ?_
          rintro _ wd224 ⟨x223, rfl, rfl, H⟩
          try dsimp only at ho220
          refine gq (Q_not rfl) rfl rfl rfl <| nq (Q_pickF rfl rfl) rfl rfl <| WL_nil ?_
          obtain rfl := Option.some.inj ho220
          refine x_A fun a hf => ⟨!x223, rfl, hf.sub ⟨rfl, rfl, rfl, rfl, trivial⟩, H⟩
    · rintro a wd225 ⟨x219, rfl, hf, H⟩
      try dsimp only at hF
      refine CW.at hf ?_
      refine C_cond rfl (fun hb => ?_) (fun hb => ?_)
      · replace hF := itT hb hF
        refine C_seq <| R_nd <| nq (Q_assign rfl) rfl rfl <| WL_nil <| x_then <| C_ret <| x_then_ret ?_
        replace H := H.drop 0 rfl
        dsimp only [List.eraseIdx] at H
        obtain rfl := Option.some.inj hF
        exact fn_ret (l := [.tmp 6]) (vs := [.bool true]) rfl rfl rfl ⟨true, rfl, rfl, H⟩
      · replace hF := itF hb hF
        refine C_skip <| x_then <| C_seq <| R_nd <| nq (v := .agg #[v1, v4, v7]) (Q_ldB (k := 0) (cs := [v1, v4, v7]) H.ok rfl ty25 rfl rfl rfl (fun h => nomatch h) rfl) rfl rfl ?_
        obtain ⟨q226, hq226, hF⟩ := bnd hF
        refine ne (E_call fn16 rfl (c_16 H gl0 r3 r6 r9 hq226)) rfl rfl ?_
        rintro _ wd240 ⟨v228, c229, v230, c231, v232, c233, x234, x235, x236, rfl, rfl, r237, r238, r239, H⟩
        try dsimp only at hF
        refine ne (E_alloc H ty25 (zs := [.slice none 0 0, .slice none 0 0, .slice none 0 0]) rfl) rfl rfl ?_
        rintro _ wd242 ⟨b241, rfl, H⟩
        refine ne (E_stB (k := 0) (cs := [v228, v230, v232]) (vs' := [v228, v230, v232]) H rfl ty25 rfl rfl rfl rfl (one_cons (arr_cells (H.ok.get (k := 1) rfl)).2 (one_cons (arr_cells (H.ok.get (k := 2) rfl)).2 (one_cons (arr_cells (H.ok.get (k := 3) rfl)).2 one_nil))) (by simp) rfl) rfl rfl ?_
        rintro _ wd243 H
        dsimp only [List.set] at H
        refine WL_nil <| x_then <| C_seq ?_
        obtain ⟨o261, ho261, hF⟩ := bnd hF
        refine C_cut (fun a w' => ∃ (x260 : Bool), x260 = o261 ∧ Fr 74 a [(1, v10), (2, .int .i64 x13), (3, .pointer (some ⟨b209, 0, none⟩)), (7, .pointer (some ⟨b241, 0, none⟩)), (53, .bool x260)] ∧ Hp C w' ρ (Box b209 [v1, v4, v7] :: Box b241 [v228, v230, v232] :: Arr v228 256 c229 :: Arr v230 1 c231 :: Arr v232 1 c233 :: hs)) ?_ ?_
        · refine R_dr (.take 0 (.one 1 (.take 2 (.take 3 (.take 4 (.take 5 (.take 6 (.take 7 (.take 8 (.take 9 (.take 10 (.take 11 (.take 12 (.take 13 (.take 15 (.one 14 (.one 16 (.take 17 (.take 18 (.take 19 (.take 20 (.take 22 (.take 23 (.take 24 (.one 21 (.take 25 (.take 26 .done))))))))))))))))))))))))))) (fun w' => Ok w' ρ [Box b241 [v228, v230, v232], Arr v228 256 c229, Arr v230 1 c231, Arr v232 1 c233, Box b209 [v1, v4, v7]]) (by kernel_rfl) (by kernel_rfl) (by kernel_rfl) (H.drew.okS (by simp)) ?_
          replace H := H.drew
          refine dq (v := .agg #[v228, v230, v232]) rfl (fun _ hw => Q_ldB (k := 0) (cs := [v228, v230, v232]) hw rfl ty25 rfl rfl rfl (fun h => nomatch h) rfl) rfl rfl ?_
          replace H := H.front 3 rfl
          dsimp only [List.eraseIdx] at H
          replace H := H.front 3 rfl
          dsimp only [List.eraseIdx] at H
          replace H := H.front 3 rfl
          dsimp only [List.eraseIdx] at H
          obtain ⟨q262, hq262, ho261⟩ := bnd ho261
          obtain ⟨C', ρ', hl263, HA, hL, hback⟩ := Hp.lend (A := []) (L := [Arr v228 256 c229, Arr v230 1 c231, Arr v232 1 c233]) (F := Box b241 [v228, v230, v232] :: Box b209 [v1, v4, v7] :: hs) H
          refine d1 (de rfl (E_call fn26 rfl (c_26 HA  (arr_rd (by decide) hl263 (hL (Arr v228 256 c229) (by simp)) r237) (arr_rd (by decide) hl263 (hL (Arr v230 1 c231) (by simp)) r238) (arr_rd (by decide) hl263 (hL (Arr v232 1 c233) (by simp)) r239) hq262)) rfl rfl ?_)
          rintro _ wd265 ⟨x264, rfl, rfl, H⟩
          try dsimp only at ho261
          replace H := hback H
          dsimp only [List.cons_append, List.nil_append] at H
          refine ⟨H.okS (by simp), ?_⟩
          refine dq rfl (fun _ _ => Q_not rfl) rfl rfl <| dq rfl (fun _ _ => Q_move rfl) rfl rfl ?_
          rcases Bool.eq_false_or_eq_true (!x264) with hb | hb
          · rw [hb]
            replace ho261 := itT hb ho261
            refine dgs rfl rfl rfl rfl rfl <| dgs rfl rfl rfl rfl rfl <| dgs rfl rfl rfl rfl rfl <| dgs rfl rfl rfl rfl rfl <| dgs rfl rfl rfl rfl rfl <| dgs rfl rfl rfl rfl rfl <| dgs rfl rfl rfl rfl rfl <| dq rfl (fun _ _ => Q_pickT rfl rfl) rfl rfl <| dq rfl (fun _ _ => Q_move rfl) rfl rfl <| dgs rfl rfl rfl rfl rfl <| dgs rfl rfl rfl rfl rfl ?_
            refine d1 (dges rfl rfl rfl rfl rfl ?_)
            refine d1 (dges rfl rfl rfl rfl rfl ?_)
            refine dgs rfl rfl rfl rfl rfl <| dq rfl (fun _ _ => Q_pickT rfl rfl) rfl rfl <| dq rfl (fun _ _ => Q_move rfl) rfl rfl <| dgs rfl rfl rfl rfl rfl <| dgs rfl rfl rfl rfl rfl <| dgs rfl rfl rfl rfl rfl <| dgs rfl rfl rfl rfl rfl ?_
            refine d1 (dges rfl rfl rfl rfl rfl ?_)
            refine dgs rfl rfl rfl rfl rfl <| dq rfl (fun _ _ => Q_pickT rfl rfl) rfl rfl <| DL_nil ?_
            replace H := H.front 2 rfl
            dsimp only [List.eraseIdx] at H
            replace H := H.front 2 rfl
            dsimp only [List.eraseIdx] at H
            replace H := H.front 2 rfl
            dsimp only [List.eraseIdx] at H
            replace H := H.front 3 rfl
            dsimp only [List.eraseIdx] at H
            replace H := H.front 4 rfl
            dsimp only [List.eraseIdx] at H
            obtain rfl := Option.some.inj ho261
            refine x_A fun a hf => ⟨true, rfl, hf.sub ⟨rfl, rfl, rfl, rfl, rfl, trivial⟩, H⟩
          · rw [hb]
            replace ho261 := itF hb ho261
            refine dgq (v := .pointer (some ⟨b241, 0, none⟩)) rfl (fun _ _ => Q_fld Tryd.underlying25 rfl ty22 (by decide) rfl rfl) rfl rfl rfl <| dgq (v := v228) rfl (fun _ hw => Q_ldB (k := 0) (cs := [v228]) hw rfl ty22 rfl rfl rfl (fun _ => rfl) rfl) rfl rfl rfl <| dgq rfl (fun _ hw => Q_lenA (k := 1) hw rfl r237 (by decide) Tryd.underlying22 rfl) rfl rfl rfl <| dgq (v := .pointer (some ⟨b209, 0, none⟩)) rfl (fun _ _ => Q_fld Tryd.underlying25 rfl ty22 (by decide) rfl rfl) rfl rfl rfl <| dgq (v := v1) rfl (fun _ hw => Q_ldB (k := 4) (cs := [v1]) hw rfl ty22 rfl rfl rfl (fun _ => rfl) rfl) rfl rfl rfl <| dgq rfl (fun _ _ => Q_len Tryd.underlying22 rfl r3) rfl rfl rfl <| dgq rfl (fun _ _ => Q_gtr rfl rfl) rfl rfl rfl <| dq rfl (fun _ _ => Q_pickF rfl rfl) rfl rfl <| dq rfl (fun _ _ => Q_move rfl) rfl rfl ?_
            rcases Bool.eq_false_or_eq_true (decide ((x234.length : Int) > (x2.length : Int))) with hb | hb
            · rw [hb]
              replace ho261 := itT hb ho261
              refine dgs rfl rfl rfl rfl rfl <| dgs rfl rfl rfl rfl rfl ?_
              refine d1 (dges rfl rfl rfl rfl rfl ?_)
              refine d1 (dges rfl rfl rfl rfl rfl ?_)
              refine dgs rfl rfl rfl rfl rfl <| dq rfl (fun _ _ => Q_pickT rfl rfl) rfl rfl <| dq rfl (fun _ _ => Q_move rfl) rfl rfl <| dgs rfl rfl rfl rfl rfl <| dgs rfl rfl rfl rfl rfl <| dgs rfl rfl rfl rfl rfl <| dgs rfl rfl rfl rfl rfl ?_
              refine d1 (dges rfl rfl rfl rfl rfl ?_)
              refine dgs rfl rfl rfl rfl rfl <| dq rfl (fun _ _ => Q_pickT rfl rfl) rfl rfl <| DL_nil ?_
              replace H := H.front 2 rfl
              dsimp only [List.eraseIdx] at H
              replace H := H.front 2 rfl
              dsimp only [List.eraseIdx] at H
              replace H := H.front 2 rfl
              dsimp only [List.eraseIdx] at H
              replace H := H.front 3 rfl
              dsimp only [List.eraseIdx] at H
              replace H := H.front 4 rfl
              dsimp only [List.eraseIdx] at H
              obtain rfl := Option.some.inj ho261
              refine x_A fun a hf => ⟨true, rfl, hf.sub ⟨rfl, rfl, rfl, rfl, rfl, trivial⟩, H⟩
            · rw [hb]
              replace ho261 := itF hb ho261
              refine dgq (v := .agg #[v228, v230, v232]) rfl (fun _ hw => Q_ldB (k := 0) (cs := [v228, v230, v232]) hw rfl ty25 rfl rfl rfl (fun h => nomatch h) rfl) rfl rfl rfl <| dgq (v := .agg #[v1, v4, v7]) rfl (fun _ hw => Q_ldB (k := 4) (cs := [v1, v4, v7]) hw rfl ty25 rfl rfl rfl (fun h => nomatch h) rfl) rfl rfl rfl ?_
              replace H := H.front 2 rfl
              dsimp only [List.eraseIdx] at H
              replace H := H.front 2 rfl
              dsimp only [List.eraseIdx] at H
              replace H := H.front 2 rfl
              dsimp only [List.eraseIdx] at H
              obtain ⟨q266, hq266, ho261⟩ := bnd ho261
              obtain ⟨C', ρ', hl267, HA, hL, hback⟩ := Hp.lend (A := []) (L := [Arr v228 256 c229, Arr v230 1 c231, Arr v232 1 c233]) (F := Box b241 [v228, v230, v232] :: Box b209 [v1, v4, v7] :: hs) H
              refine d1 (dge rfl (E_call fn19 rfl (c_19 HA (gl0.up hl267) (arr_rd (by decide) hl267 (hL (Arr v228 256 c229) (by simp)) r237) (arr_rd (by decide) hl267 (hL (Arr v230 1 c231) (by simp)) r238) (arr_rd (by decide) hl267 (hL (Arr v232 1 c233) (by simp)) r239) hq266)) rfl rfl rfl ?_)
              rintro _ wd269 ⟨x268, rfl, rfl, H⟩
              try dsimp only at ho261
              replace H := hback H
              dsimp only [List.cons_append, List.nil_append] at H
              refine ⟨H.okS (by simp), ?_⟩
              obtain ⟨q270, hq270, ho261⟩ := bnd ho261
              refine d1 (dge rfl (E_call fn19 rfl (c_19 H gl0 r3 r6 r9 hq270)) rfl rfl rfl ?_)
              rintro _ wd273 ⟨x272, rfl, rfl, H⟩
              try dsimp only at ho261
              refine ⟨H.okS (by simp), ?_⟩
              refine dgq rfl (fun _ _ => Q_gtr rfl rfl) rfl rfl rfl <| dq rfl (fun _ _ => Q_pickF rfl rfl) rfl rfl <| dq rfl (fun _ _ => Q_move rfl) rfl rfl ?_
              rcases Bool.eq_false_or_eq_true (decide (x268 > x272)) with hb | hb
              · rw [hb]
                replace ho261 := itT hb ho261
                refine dgs rfl rfl rfl rfl rfl <| dgs rfl rfl rfl rfl rfl <| dgs rfl rfl rfl rfl rfl <| dgs rfl rfl rfl rfl rfl ?_
                refine d1 (dges rfl rfl rfl rfl rfl ?_)
                refine dgs rfl rfl rfl rfl rfl <| dq rfl (fun _ _ => Q_pickT rfl rfl) rfl rfl <| DL_nil ?_
                replace H := H.front 2 rfl
                dsimp only [List.eraseIdx] at H
                replace H := H.front 2 rfl
                dsimp only [List.eraseIdx] at H
                replace H := H.front 2 rfl
                dsimp only [List.eraseIdx] at H
                replace H := H.front 3 rfl
                dsimp only [List.eraseIdx] at H
                replace H := H.front 4 rfl
                dsimp only [List.eraseIdx] at H
                obtain rfl := Option.some.inj ho261
                refine x_A fun a hf => ⟨true, rfl, hf.sub ⟨rfl, rfl, rfl, rfl, rfl, trivial⟩, H⟩
              · rw [hb]
                replace ho261 := itF hb ho261
                refine dgq (v := .agg #[v228, v230, v232]) rfl (fun _ hw => Q_ldB (k := 0) (cs := [v228, v230, v232]) hw rfl ty25 rfl rfl rfl (fun h => nomatch h) rfl) rfl rfl rfl <| dgq (v := .pointer (some ⟨b241, 0, none⟩)) rfl (fun _ _ => Q_fld Tryd.underlying25 rfl ty22 (by decide) rfl rfl) rfl rfl rfl <| dgq (v := v228) rfl (fun _ hw => Q_ldB (k := 0) (cs := [v228]) hw rfl ty22 rfl rfl rfl (fun _ => rfl) rfl) rfl rfl rfl <| dgq rfl (fun _ hw => Q_lenA (k := 1) hw rfl r237 (by decide) Tryd.underlying22 rfl) rfl rfl rfl ?_
                replace H := H.front 2 rfl
                dsimp only [List.eraseIdx] at H
                replace H := H.front 2 rfl
                dsimp only [List.eraseIdx] at H
                replace H := H.front 2 rfl
                dsimp only [List.eraseIdx] at H
                obtain ⟨q274, hq274, ho261⟩ := bnd ho261
                obtain ⟨C', ρ', hl275, HA, hL, hback⟩ := Hp.lend (A := []) (L := [Arr v228 256 c229, Arr v230 1 c231, Arr v232 1 c233]) (F := Box b241 [v228, v230, v232] :: Box b209 [v1, v4, v7] :: hs) H
                refine d1 (dge rfl (E_call fn19 rfl (c_19 HA (gl0.up hl275) (arr_rd (by decide) hl275 (hL (Arr v228 256 c229) (by simp)) r237) (arr_rd (by decide) hl275 (hL (Arr v230 1 c231) (by simp)) r238) (arr_rd (by decide) hl275 (hL (Arr v232 1 c233) (by simp)) r239) hq274)) rfl rfl rfl ?_)
                rintro _ wd277 ⟨x276, rfl, rfl, H⟩
                try dsimp only at ho261
                replace H := hback H
                dsimp only [List.cons_append, List.nil_append] at H
                refine ⟨H.okS (by simp), ?_⟩
                refine dgq rfl (fun _ _ => Q_lss rfl rfl) rfl rfl rfl <| dq rfl (fun _ _ => Q_pickF rfl rfl) rfl rfl <| DL_nil ?_
                replace H := H.front 2 rfl
                dsimp only [List.eraseIdx] at H
                replace H := H.front 2 rfl
                dsimp only [List.eraseIdx] at H
                replace H := H.front 2 rfl
                dsimp only [List.eraseIdx] at H
                replace H := H.front 3 rfl
                dsimp only [List.eraseIdx] at H
                replace H := H.front 4 rfl
                dsimp only [List.eraseIdx] at H
                obtain rfl := Option.some.inj ho261
                refine x_A fun a hf => ⟨decide (x276 < (x234.length : Int)), rfl, hf.sub ⟨rfl, rfl, rfl, rfl, rfl, trivial⟩, H⟩
        · rintro a wd278 ⟨x260, rfl, hf, H⟩
          try dsimp only at hF
          refine CW.at hf ?_
          refine C_cond rfl (fun hb => ?_) (fun hb => ?_)
          · replace hF := itT hb hF
            refine C_seq <| R_nd <| nq (Q_assign rfl) rfl rfl <| WL_nil <| x_then <| C_ret <| x_then_ret ?_
            replace H := H.drop 0 rfl
            dsimp only [List.eraseIdx] at H
            replace H := H.drop 0 rfl
            dsimp only [List.eraseIdx] at H
            replace H := H.drop 0 rfl
            dsimp only [List.eraseIdx] at H
            replace H := H.drop 0 rfl
            dsimp only [List.eraseIdx] at H
            replace H := H.drop 0 rfl
            dsimp only [List.eraseIdx] at H
            obtain rfl := Option.some.inj hF
            exact fn_ret (l := [.tmp 6]) (vs := [.bool false]) rfl rfl rfl ⟨false, rfl, rfl, H⟩
          · replace hF := itF hb hF
            refine C_skip <| x_then <| C_seq <| C_seq <| R_nd <| nq (Q_move rfl) rfl rfl <| nq (Q_len Tryd.underlying42 rfl r12) rfl rfl <| nq (Q_add rfl rfl) rfl rfl <| nq (Q_move rfl) rfl rfl <| WL_nil <| x_then ?_
            obtain ⟨o340, ho340, hF⟩ := bnd hF
            refine C_cutQ (fun a w' => .inl () = o340 ∧ Fr 74 a [] ∧ Hp C w' ρ (hs)) ?_ ?_
            · refine C_block ?_
              replace H := H.front 4 rfl
              dsimp only [List.eraseIdx] at H
              replace H := H.front 4 rfl
              dsimp only [List.eraseIdx] at H
              replace H := H.front 4 rfl
              dsimp only [List.eraseIdx] at H
              replace H := H.front 4 rfl
              dsimp only [List.eraseIdx] at H
              replace H := H.front 4 rfl
              dsimp only [List.eraseIdx] at H
              refine C_iter (f := fun s => F_dofferlaw20_CanonFinds_l0 N x2 x5 x8 x11 x13 x234 x235 x236 s) ho340 (fun s a w' => ∃ (x360 : Int), x360 = s ∧ Fr 74 a [(1, v10), (2, .int .i64 x13), (3, .pointer (some ⟨b209, 0, none⟩)), (7, .pointer (some ⟨b241, 0, none⟩)), (56, .int .i64 (w64 ((x11.length : Int) + 1))), (57, .int .i64 x360)] ∧ Hp C w' ρ (Box b209 [v1, v4, v7] :: Box b241 [v228, v230, v232] :: Arr v228 256 c229 :: Arr v230 1 c231 :: Arr v232 1 c233 :: hs)) ?_ ?_
              · exact fun a hf => ⟨0, rfl, hf.sub ⟨rfl, rfl, rfl, rfl, rfl, rfl, trivial⟩, H⟩
              · rintro s o380 a wd383 ⟨x360, rfl, hf, H⟩ hB381 hO382
                replace hB381 : F_dofferlaw20_CanonFinds_l0 N x2 x5 x8 x11 x13 x234 x235 x236 x360 = some o380 := hB381
                unfold F_dofferlaw20_CanonFinds_l0 at hB381
                refine CW.at hf <| C_seq <| R_nd <| nq (Q_lss rfl rfl) rfl rfl <| WL_nil <| x_then <| C_seq ?_
                refine C_cond rfl (fun hb => ?_) (fun hb => ?_)
                · replace hB381 := itT hb hB381
                  refine C_skip <| x_then <| C_seq <| C_block <| C_seq <| R_nd <| nq (Q_move rfl) rfl rfl <| nq (Q_assign rfl) rfl rfl <| WL_nil <| x_then <| C_seq <| R_dr (.take 0 (.take 1 (.take 2 (.take 3 (.take 4 (.take 6 (.take 7 (.take 8 (.take 9 (.take 10 (.one 5 (.one 11 (.take 12 .done))))))))))))) (fun w' => Ok w' ρ [Box b209 [v1, v4, v7], Box b241 [v228, v230, v232], Arr v228 256 c229, Arr v230 1 c231, Arr v232 1 c233]) (by kernel_rfl) (by kernel_rfl) (by kernel_rfl) (H.drew.okS (by simp)) ?_
                  replace H := H.drew
                  refine dq (v := .agg #[v228, v230, v232]) rfl (fun _ hw => Q_ldB (k := 1) (cs := [v228, v230, v232]) hw rfl ty25 rfl rfl rfl (fun h => nomatch h) rfl) rfl rfl <| dq rfl (fun _ _ => Q_move rfl) rfl rfl <| dq rfl (fun _ _ => Q_move rfl) rfl rfl <| dq rfl (fun _ _ => Q_move rfl) rfl rfl ?_
                  obtain ⟨x384, hx384, hB381⟩ := bnd hB381
                  obtain ⟨hs385a, hs385b, hs385c, hs385d⟩ := slc_some hx384
                  obtain ⟨v386, r387, hq388⟩ := sliceR r12 hs385a hs385b hs385c
                  rw [← hs385d] at r387
                  refine dq (v := v386) rfl (fun _ _ => hq388 _ _ _ _ _ _ _ _ _ _ _ _ _ _ _ Tryd.underlying42 ty5 rfl rfl ⟨_, rfl⟩) rfl rfl <| dq (v := .agg #[v1, v4, v7]) rfl (fun _ hw => Q_ldB (k := 0) (cs := [v1, v4, v7]) hw rfl ty25 rfl rfl rfl (fun h => nomatch h) rfl) rfl rfl <| dq rfl (fun _ _ => Q_move rfl) rfl rfl <| dq rfl (fun _ _ => Q_move rfl) rfl rfl <| dq rfl (fun _ _ => Q_move rfl) rfl rfl ?_
                  obtain ⟨x389, hx389, hB381⟩ := bnd hB381
                  obtain ⟨hs390a, hs390b, hs390c, hs390d⟩ := slc_some hx389
                  obtain ⟨v391, r392, hq393⟩ := sliceR r12 hs390a hs390b hs390c
                  rw [← hs390d] at r392
                  refine dq (v := v391) rfl (fun _ _ => hq393 _ _ _ _ _ _ _ _ _ _ _ _ _ _ _ Tryd.underlying42 ty5 rfl rfl ⟨_, rfl⟩) rfl rfl ?_
                  replace H := H.front 4 rfl
                  dsimp only [List.eraseIdx] at H
                  replace H := H.front 4 rfl
                  dsimp only [List.eraseIdx] at H
                  replace H := H.front 4 rfl
                  dsimp only [List.eraseIdx] at H
                  obtain ⟨q394, hq394, hB381⟩ := bnd hB381
                  obtain ⟨C', ρ', hl395, HA, hL, hback⟩ := Hp.lend (A := []) (L := [Arr v228 256 c229, Arr v230 1 c231, Arr v232 1 c233]) (F := Box b209 [v1, v4, v7] :: Box b241 [v228, v230, v232] :: hs) H
                  refine d1 (de rfl (E_call fn27 rfl (c_27 HA  (arr_rd (by decide) hl395 (hL (Arr v228 256 c229) (by simp)) r237) (arr_rd (by decide) hl395 (hL (Arr v230 1 c231) (by simp)) r238) (arr_rd (by decide) hl395 (hL (Arr v232 1 c233) (by simp)) r239) (r387.up hl395) hq394)) rfl rfl ?_)
                  rintro _ wd397 ⟨x396, rfl, rfl, H⟩
                  try dsimp only at hB381
                  replace H := hback H
                  dsimp only [List.cons_append, List.nil_append] at H
                  refine ⟨H.okS (by simp), ?_⟩
                  obtain ⟨q398, hq398, hB381⟩ := bnd hB381
                  refine d1 (de rfl (E_call fn27 rfl (c_27 H  r3 r6 r9 r392 hq398)) rfl rfl ?_)
                  rintro _ wd401 ⟨x400, rfl, rfl, H⟩
                  try dsimp only at hB381
                  refine ⟨H.okS (by simp), ?_⟩
                  refine dq rfl (fun _ _ => Q_neq rfl rfl) rfl rfl <| DL_nil <| x_then ?_
                  refine C_cond rfl (fun hb => ?_) (fun hb => ?_)
                  · replace hB381 := itT hb hB381
                    refine C_seq <| R_nd <| nq (Q_assign rfl) rfl rfl <| WL_nil <| x_then <| C_ret <| x_block_ret <| x_then_ret <| x_then_ret <| x_block_ret <| x_then_ret <| x_then_ret ?_
                    replace H := H.drop 0 rfl
                    dsimp only [List.eraseIdx] at H
                    replace H := H.drop 0 rfl
                    dsimp only [List.eraseIdx] at H
                    replace H := H.drop 0 rfl
                    dsimp only [List.eraseIdx] at H
                    replace H := H.drop 0 rfl
                    dsimp only [List.eraseIdx] at H
                    replace H := H.drop 0 rfl
                    dsimp only [List.eraseIdx] at H
                    obtain rfl := Option.some.inj hB381
                    obtain rfl := hO382 _ rfl
                    obtain rfl := Option.some.inj (show some _ = some _ from hF)
                    exact fn_ret (l := [.tmp 6]) (vs := [.bool false]) rfl rfl rfl ⟨false, rfl, rfl, H⟩
                  · replace hB381 := itF hb hB381
                    refine C_skip <| x_block <| x_then <| R_nd <| nq (Q_add rfl rfl) rfl rfl <| nq (Q_move rfl) rfl rfl <| WL_nil ?_
                    replace H := H.front 2 rfl
                    dsimp only [List.eraseIdx] at H
                    replace H := H.front 2 rfl
                    dsimp only [List.eraseIdx] at H
                    replace H := H.front 2 rfl
                    dsimp only [List.eraseIdx] at H
                    replace H := H.front 4 rfl
                    dsimp only [List.eraseIdx] at H
                    replace H := H.front 4 rfl
                    dsimp only [List.eraseIdx] at H
                    obtain rfl := Option.some.inj hB381
                    refine x_A fun a hf => ⟨_, rfl, w64 (x360 + 1), rfl, hf.sub ⟨rfl, rfl, rfl, rfl, rfl, rfl, trivial⟩, H⟩
                · replace hB381 := itF hb hB381
                  refine C_exit <| x_then_exit <| x_then_exit <| x_block_exit ?_
                  replace H := H.drop 0 rfl
                  dsimp only [List.eraseIdx] at H
                  replace H := H.drop 0 rfl
                  dsimp only [List.eraseIdx] at H
                  replace H := H.drop 0 rfl
                  dsimp only [List.eraseIdx] at H
                  replace H := H.drop 0 rfl
                  dsimp only [List.eraseIdx] at H
                  replace H := H.drop 0 rfl
                  dsimp only [List.eraseIdx] at H
                  obtain rfl := Option.some.inj hB381
                  obtain rfl := hO382 _ rfl
                  refine x_A fun a hf => ⟨rfl, hf.sub trivial, H⟩
            · rintro a wd402 ⟨rfl, hf, H⟩
              try dsimp only at hF
              refine XX.at hf <| x_then <| C_seq <| R_nd <| nq (Q_assign rfl) rfl rfl <| WL_nil <| x_then <| C_ret ?_
              obtain rfl := Option.some.inj hF
              exact fn_ret (l := [.tmp 6]) (vs := [.bool true]) rfl rfl rfl ⟨true, rfl, rfl, H⟩
end Go.Proofs.YteiaphkejkgfkaaDoor
