/-
  The walks, printed by my program, part 1: each function of the code computes its pure function.
-/
import Derived.Test.YteiaphkejkgfkaaDoorCtD
import Derived.Test.YteiaphkejkgfkaaDoorProg
namespace Go.Proofs.YteiaphkejkgfkaaDoor
open Go Go.Eng
set_option maxRecDepth 100000
theorem ty3 : Ty Tryd.prog 3 1 8 (.int .i64 0) false := ⟨by kernel_rfl, by kernel_rfl⟩
theorem ty22 : Ty Tryd.prog 22 1 24 (.slice none 0 0) false := ⟨by kernel_rfl, by kernel_rfl⟩
theorem ty23 : Ty Tryd.prog 23 1 24 (.slice none 0 0) false := ⟨by kernel_rfl, by kernel_rfl⟩
theorem ty25 : Ty Tryd.prog 25 3 72 (.agg ([.slice none 0 0, .slice none 0 0, .slice none 0 0]).toArray) true := ⟨by kernel_rfl, by kernel_rfl⟩
theorem ty27 : Ty Tryd.prog 27 1 24 (.slice none 0 0) false := ⟨by kernel_rfl, by kernel_rfl⟩
theorem ty29 : Ty Tryd.prog 29 3 72 (.agg ([.slice none 0 0, .slice none 0 0, .slice none 0 0]).toArray) true := ⟨by kernel_rfl, by kernel_rfl⟩
theorem ty57 : Ty Tryd.prog 57 256 2048 (.agg (repC 256 [.int .i64 0]).toArray) true := ⟨by kernel_rfl, by kernel_rfl⟩
theorem ty58 : Ty Tryd.prog 58 256 2048 (.agg (repC 256 [.int .i64 0]).toArray) true := ⟨by kernel_rfl, by kernel_rfl⟩
theorem ty61 : Ty Tryd.prog 61 1 8 (.pointer none) false := ⟨by kernel_rfl, by kernel_rfl⟩
theorem ty63 : Ty Tryd.prog 63 1 16 .nilIface false := ⟨by kernel_rfl, by kernel_rfl⟩
theorem ty92 : Ty Tryd.prog 92 1 24 (.slice none 0 0) false := ⟨by kernel_rfl, by kernel_rfl⟩
theorem ty94 : Ty Tryd.prog 94 2 32 (.agg ([.slice none 0 0, .int .i64 0]).toArray) true := ⟨by kernel_rfl, by kernel_rfl⟩
theorem ty95 : Ty Tryd.prog 95 1 8 (.int .u64 0) false := ⟨by kernel_rfl, by kernel_rfl⟩
theorem st25 : ∃ fs, St Tryd.prog 25 fs [(0, 1), (1, 1), (2, 1)] [.slice none 0 0, .slice none 0 0, .slice none 0 0] := ⟨_, Tryd.underlying25, by kernel_rfl, _, _, _, _, ty25, rfl⟩
theorem st29 : ∃ fs, St Tryd.prog 29 fs [(0, 1), (1, 1), (2, 1)] [.slice none 0 0, .slice none 0 0, .slice none 0 0] := ⟨_, Tryd.underlying29, by kernel_rfl, _, _, _, _, ty29, rfl⟩
theorem st94 : ∃ fs, St Tryd.prog 94 fs [(0, 1), (1, 1)] [.slice none 0 0, .int .i64 0] := ⟨_, Tryd.underlying94, by kernel_rfl, _, _, _, _, ty94, rfl⟩
theorem fn3 : HasFn Tryd.prog 3 := ⟨_, _, Tryd.func3, by kernel_rfl, rfl⟩
theorem fn14 : HasFn Tryd.prog 14 := ⟨_, _, Tryd.func14, by kernel_rfl, rfl⟩
theorem fn15 : HasFn Tryd.prog 15 := ⟨_, _, Tryd.func15, by kernel_rfl, rfl⟩
theorem fn16 : HasFn Tryd.prog 16 := ⟨_, _, Tryd.func16, by kernel_rfl, rfl⟩
theorem fn17 : HasFn Tryd.prog 17 := ⟨_, _, Tryd.func17, by kernel_rfl, rfl⟩
theorem fn18 : HasFn Tryd.prog 18 := ⟨_, _, Tryd.func18, by kernel_rfl, rfl⟩
theorem fn19 : HasFn Tryd.prog 19 := ⟨_, _, Tryd.func19, by kernel_rfl, rfl⟩
theorem fn20 : HasFn Tryd.prog 20 := ⟨_, _, Tryd.func20, by kernel_rfl, rfl⟩
theorem fn21 : HasFn Tryd.prog 21 := ⟨_, _, Tryd.func21, by kernel_rfl, rfl⟩
theorem fn22 : HasFn Tryd.prog 22 := ⟨_, _, Tryd.func22, by kernel_rfl, rfl⟩
theorem fn23 : HasFn Tryd.prog 23 := ⟨_, _, Tryd.func23, by kernel_rfl, rfl⟩
theorem fn24 : HasFn Tryd.prog 24 := ⟨_, _, Tryd.func24, by kernel_rfl, rfl⟩
theorem fn25 : HasFn Tryd.prog 25 := ⟨_, _, Tryd.func25, by kernel_rfl, rfl⟩
theorem fn26 : HasFn Tryd.prog 26 := ⟨_, _, Tryd.func26, by kernel_rfl, rfl⟩
theorem fn50 : HasFn Tryd.prog 50 := ⟨_, _, Tryd.func50, by kernel_rfl, rfl⟩
theorem fn51 : HasFn Tryd.prog 51 := ⟨_, _, Tryd.func51, by kernel_rfl, rfl⟩
theorem fn52 : HasFn Tryd.prog 52 := ⟨_, _, Tryd.func52, by kernel_rfl, rfl⟩
theorem fn53 : HasFn Tryd.prog 53 := ⟨_, _, Tryd.func53, by kernel_rfl, rfl⟩
theorem fn54 : HasFn Tryd.prog 54 := ⟨_, _, Tryd.func54, by kernel_rfl, rfl⟩
theorem fn55 : HasFn Tryd.prog 55 := ⟨_, _, Tryd.func55, by kernel_rfl, rfl⟩
theorem fn56 : HasFn Tryd.prog 56 := ⟨_, _, Tryd.func56, by kernel_rfl, rfl⟩
theorem fn57 : HasFn Tryd.prog 57 := ⟨_, _, Tryd.func57, by kernel_rfl, rfl⟩
theorem fn58 : HasFn Tryd.prog 58 := ⟨_, _, Tryd.func58, by kernel_rfl, rfl⟩
theorem fn59 : HasFn Tryd.prog 59 := ⟨_, _, Tryd.func59, by kernel_rfl, rfl⟩
theorem fn75 : HasFn Tryd.prog 75 := ⟨_, _, Tryd.func75, by kernel_rfl, rfl⟩
theorem fn76 : HasFn Tryd.prog 76 := ⟨_, _, Tryd.func76, by kernel_rfl, rfl⟩
theorem fn77 : HasFn Tryd.prog 77 := ⟨_, _, Tryd.func77, by kernel_rfl, rfl⟩
theorem fn78 : HasFn Tryd.prog 78 := ⟨_, _, Tryd.func78, by kernel_rfl, rfl⟩
theorem fn79 : HasFn Tryd.prog 79 := ⟨_, _, Tryd.func79, by kernel_rfl, rfl⟩
theorem fn80 : HasFn Tryd.prog 80 := ⟨_, _, Tryd.func80, by kernel_rfl, rfl⟩
theorem fn87 : HasFn Tryd.prog 87 := ⟨_, _, Tryd.func87, by kernel_rfl, rfl⟩
theorem fn88 : HasFn Tryd.prog 88 := ⟨_, _, Tryd.func88, by kernel_rfl, rfl⟩
theorem c_57 {N : Nat} {C : Cx} {w : World} {ρ : View} {hs : List Hl} {b2 : Nat} {x1 : Int} {x3 : Int} (H : Hp C w ρ (Box b2 [.int .i64 x3] :: hs)) {r : Bool} (hF : F_subset_Right_1 N x1 x3 = some r) :
    Calls Tryd.prog 57 [.int .i64 x1, .pointer (some ⟨b2, 0, none⟩)].toArray w (Rets (fun v w' => (∃ (x7 : Bool), x7 = r ∧ .bool x7 = v ∧ Hp C w' ρ (Box b2 [.int .i64 x3] :: hs)))) := by
  unfold F_subset_Right_1 at hF
  have h0 : Tryd.f57.body = some _ := rfl
  refine fn_calls' Tryd.func57 h0 (n := 11) rfl (by simp) ?_
  refine C_seq ?_
  refine R_nd ?_
  refine nq (v := .bool false) (Q_assign rfl) rfl rfl ?_
  refine WL_nil ?_
  refine x_then ?_
  refine CW.sub (E' := [(0, .int .i64 x1), (1, .pointer (some ⟨b2, 0, none⟩))]) ⟨rfl, rfl, trivial⟩ ?_
  obtain ⟨o9, ho9, hF⟩ := bnd hF
  refine C_cut (fun a w' => ∃ (x8 : Bool), x8 = o9 ∧ Fr 11 a [(3, .bool x8)] ∧ Hp C w' ρ (Box b2 [.int .i64 x3] :: hs)) ?_ ?_
  · refine R_nd ?_
    refine nq (v := .int .i64 x1) (Q_move rfl) rfl rfl ?_
    refine nq (v := .bool (decide (x1 < 0))) (Q_lss rfl rfl) rfl rfl ?_
    refine nq (v := .bool (decide (x1 < 0))) (Q_move rfl) rfl rfl ?_
    rcases Bool.eq_false_or_eq_true (decide (x1 < 0)) with hb | hb
    · rw [hb]
      replace ho9 := itT hb ho9
      refine gs rfl rfl rfl rfl ?_
      refine gs rfl rfl rfl rfl ?_
      refine gs rfl rfl rfl rfl ?_
      refine nq (v := .bool true) (Q_pickT rfl rfl) rfl rfl ?_
      refine nq (v := .bool true) (Q_assign rfl) rfl rfl ?_
      refine WL_nil ?_
      obtain rfl := Option.some.inj ho9
      refine x_A fun a hf => ⟨true, rfl, hf.sub ⟨rfl, trivial⟩, H⟩
    · rw [hb]
      replace ho9 := itF hb ho9
      refine gq (v := .int .i64 x1) (Q_move rfl) rfl rfl rfl ?_
      refine gq (v := .int .i64 x3) (Q_ldB (k := 0) (cs := [.int .i64 x3]) H.ok rfl ty3 rfl rfl rfl (fun _ => rfl) rfl) rfl rfl rfl ?_
      refine gq (v := .bool (decide (x1 ≥ x3))) (Q_geq rfl rfl) rfl rfl rfl ?_
      refine nq (v := .bool (decide (x1 ≥ x3))) (Q_pickF rfl rfl) rfl rfl ?_
      refine nq (v := .bool (decide (x1 ≥ x3))) (Q_assign rfl) rfl rfl ?_
      refine WL_nil ?_
      obtain rfl := Option.some.inj ho9
      refine x_A fun a hf => ⟨decide (x1 ≥ x3), rfl, hf.sub ⟨rfl, trivial⟩, H⟩
  · rintro a wd10 ⟨x8, rfl, hf, H⟩
    try dsimp only at hF
    refine CW.at hf ?_
    refine C_ret ?_
    obtain rfl := Option.some.inj hF
    exact fn_ret (l := [.tmp 3]) (vs := [.bool x8]) rfl rfl rfl ⟨x8, rfl, rfl, H⟩
theorem c_80 {N : Nat} {C : Cx} {w : World} {ρ : View} {hs : List Hl} {v1 : Value} {b4 : Nat} {x2 : (List Int)} {x5 : Int} (H : Hp C w ρ (Box b4 [.int .i64 x5] :: hs)) (r3 : RdSl ρ (eI .i64) v1 x2) {r : Int} (hF : F_slices_IndexFunc_int_int N x2 x5 = some r) :
    Calls Tryd.prog 80 [v1, .func (.func 57) #[] [.pointer (some ⟨b4, 0, none⟩)].toArray].toArray w (Rets (fun v w' => (∃ (x88 : Int), x88 = r ∧ .int .i64 x88 = v ∧ Hp C w' ρ (Box b4 [.int .i64 x5] :: hs)))) := by
  unfold F_slices_IndexFunc_int_int at hF
  have h0 : Tryd.f80.body = some _ := rfl
  refine fn_calls' Tryd.func80 h0 (n := 19) rfl (by simp) ?_
  refine C_seq ?_
  refine R_nd ?_
  refine nq (v := .int .i64 0) (Q_assign rfl) rfl rfl ?_
  refine WL_nil ?_
  refine x_then ?_
  refine CW.sub (E' := [(0, v1), (1, .func (.func 57) #[] [.pointer (some ⟨b4, 0, none⟩)].toArray)]) ⟨rfl, rfl, trivial⟩ ?_
  refine C_seq ?_
  refine C_seq ?_
  refine R_nd ?_
  refine nq (v := v1) (Q_move rfl) rfl rfl ?_
  refine nq (v := .int .i64 (x2.length : Int)) (Q_len Tryd.underlying23 rfl r3) rfl rfl ?_
  refine nq (v := .int .i64 0) (Q_move rfl) rfl rfl ?_
  refine WL_nil ?_
  refine x_then ?_
  refine CW.sub (E' := [(0, v1), (1, .func (.func 57) #[] [.pointer (some ⟨b4, 0, none⟩)].toArray), (7, .int .i64 (x2.length : Int)), (8, .int .i64 0)]) ⟨rfl, rfl, rfl, rfl, trivial⟩ ?_
  obtain ⟨o129, ho129, hF⟩ := bnd hF
  refine C_cutQ (fun a w' => .inl () = o129 ∧ Fr 19 a [] ∧ Hp C w' ρ (Box b4 [.int .i64 x5] :: hs)) ?_ ?_
  · refine C_block ?_
    refine C_iter (f := fun s => F_slices_IndexFunc_int_int_l0 N x2 x5 s) ho129 (fun s a w' => ∃ (x142 : Int), x142 = s ∧ Fr 19 a [(0, v1), (1, .func (.func 57) #[] [.pointer (some ⟨b4, 0, none⟩)].toArray), (7, .int .i64 (x2.length : Int)), (8, .int .i64 x142)] ∧ Hp C w' ρ (Box b4 [.int .i64 x5] :: hs)) ?_ ?_
    · exact fun a hf => ⟨0, rfl, hf.sub ⟨rfl, rfl, rfl, rfl, trivial⟩, H⟩
    · rintro s o155 a wd158 ⟨x142, rfl, hf, H⟩ hB156 hO157
      replace hB156 : F_slices_IndexFunc_int_int_l0 N x2 x5 x142 = some o155 := hB156
      unfold F_slices_IndexFunc_int_int_l0 at hB156
      refine CW.at hf ?_
      refine C_seq ?_
      refine R_nd ?_
      refine nq (v := .bool (decide (x142 < (x2.length : Int)))) (Q_lss rfl rfl) rfl rfl ?_
      refine WL_nil ?_
      refine x_then ?_
      refine CW.sub (E' := [(0, v1), (1, .func (.func 57) #[] [.pointer (some ⟨b4, 0, none⟩)].toArray), (7, .int .i64 (x2.length : Int)), (8, .int .i64 x142), (9, .bool (decide (x142 < (x2.length : Int))))]) ⟨rfl, rfl, rfl, rfl, rfl, trivial⟩ ?_
      refine C_seq ?_
      refine C_cond rfl (fun hb => ?_) (fun hb => ?_)
      · replace hB156 := itT hb hB156
        refine C_skip ?_
        refine x_then ?_
        refine CW.sub (E' := [(0, v1), (1, .func (.func 57) #[] [.pointer (some ⟨b4, 0, none⟩)].toArray), (7, .int .i64 (x2.length : Int)), (8, .int .i64 x142)]) ⟨rfl, rfl, rfl, rfl, trivial⟩ ?_
        refine C_seq ?_
        refine C_block ?_
        refine C_seq ?_
        refine R_nd ?_
        refine nq (v := .int .i64 x142) (Q_move rfl) rfl rfl ?_
        refine nq (v := .int .i64 x142) (Q_assign rfl) rfl rfl ?_
        refine WL_nil ?_
        refine x_then ?_
        refine CW.sub (E' := [(0, v1), (1, .func (.func 57) #[] [.pointer (some ⟨b4, 0, none⟩)].toArray), (5, .int .i64 x142), (7, .int .i64 (x2.length : Int)), (8, .int .i64 x142)]) ⟨rfl, rfl, rfl, rfl, rfl, trivial⟩ ?_
        refine C_seq ?_
        refine R_nd ?_
        refine nq (v := .func (.func 57) #[] [.pointer (some ⟨b4, 0, none⟩)].toArray) (Q_move rfl) rfl rfl ?_
        refine nq (v := v1) (Q_move rfl) rfl rfl ?_
        refine nq (v := .int .i64 x142) (Q_move rfl) rfl rfl ?_
        obtain ⟨x159, hx159, hB156⟩ := bnd hB156
        obtain ⟨b160, o161, c162, hc163, ha164, hi165⟩ := idxR r3 hx159
        refine nq (v := .pointer (some ⟨b160, o161, none⟩)) (Q_idx hi165 Tryd.underlying23 ty3 rfl rfl) rfl rfl ?_
        refine nq (v := .int .i64 x159) (Q_ld (show cellsAt _ _ _ [.int .i64 x159] from (show _ = [_] from hc163) ▸ (ha164.up H.ok.view)) ty3 rfl (fun _ => rfl) rfl rfl) rfl rfl ?_
        obtain ⟨q166, hq166, hB156⟩ := bnd hB156
        refine ne (E_callV fn57 rfl rfl (c_57 H   hq166)) rfl rfl ?_
        rintro _ wd169 ⟨x168, rfl, rfl, H⟩
        try dsimp only at hB156
        replace H : Hp C wd169 ρ (Box b4 [.int .i64 x5] :: hs) := H
        refine WL_nil ?_
        refine x_then ?_
        refine CW.sub (E' := [(0, v1), (1, .func (.func 57) #[] [.pointer (some ⟨b4, 0, none⟩)].toArray), (5, .int .i64 x142), (7, .int .i64 (x2.length : Int)), (8, .int .i64 x142), (16, .bool x168)]) ⟨rfl, rfl, rfl, rfl, rfl, rfl, trivial⟩ ?_
        refine C_cond rfl (fun hb => ?_) (fun hb => ?_)
        · replace hB156 := itT hb hB156
          refine C_seq ?_
          refine R_nd ?_
          refine nq (v := .int .i64 x142) (Q_move rfl) rfl rfl ?_
          refine nq (v := .int .i64 x142) (Q_assign rfl) rfl rfl ?_
          refine WL_nil ?_
          refine x_then ?_
          refine CW.sub (E' := [(4, .int .i64 x142)]) ⟨rfl, trivial⟩ ?_
          refine C_ret ?_
          refine x_block_ret ?_
          refine x_then_ret ?_
          refine x_then_ret ?_
          refine x_block_ret ?_
          refine x_then_ret ?_
          refine x_then_ret ?_
          obtain rfl := Option.some.inj hB156
          obtain rfl := hO157 _ rfl
          obtain rfl := Option.some.inj (show some _ = some _ from hF)
          exact fn_ret (l := [.tmp 4]) (vs := [.int .i64 x142]) rfl rfl rfl ⟨x142, rfl, rfl, H⟩
        · replace hB156 := itF hb hB156
          refine C_skip ?_
          refine x_block ?_
          refine x_then ?_
          refine CW.sub (E' := [(0, v1), (1, .func (.func 57) #[] [.pointer (some ⟨b4, 0, none⟩)].toArray), (7, .int .i64 (x2.length : Int)), (8, .int .i64 x142)]) ⟨rfl, rfl, rfl, rfl, trivial⟩ ?_
          refine R_nd ?_
          refine nq (v := .int .i64 (w64 (x142 + 1))) (Q_add rfl rfl) rfl rfl ?_
          refine nq (v := .int .i64 (w64 (x142 + 1))) (Q_move rfl) rfl rfl ?_
          refine WL_nil ?_
          obtain rfl := Option.some.inj hB156
          refine x_A fun a hf => ⟨_, rfl, w64 (x142 + 1), rfl, hf.sub ⟨rfl, rfl, rfl, rfl, trivial⟩, H⟩
      · replace hB156 := itF hb hB156
        refine C_exit ?_
        refine x_then_exit ?_
        refine x_then_exit ?_
        refine x_block_exit ?_
        obtain rfl := Option.some.inj hB156
        obtain rfl := hO157 _ rfl
        refine x_A fun a hf => ⟨rfl, hf.sub trivial, H⟩
  · rintro a wd170 ⟨rfl, hf, H⟩
    try dsimp only at hF
    refine XX.at hf ?_
    refine x_then ?_
    refine CW.sub (E' := []) trivial ?_
    refine C_seq ?_
    refine R_nd ?_
    refine nq (v := .int .i64 (-1)) (Q_assign rfl) rfl rfl ?_
    refine WL_nil ?_
    refine x_then ?_
    refine CW.sub (E' := [(4, .int .i64 (-1))]) ⟨rfl, trivial⟩ ?_
    refine C_ret ?_
    obtain rfl := Option.some.inj hF
    exact fn_ret (l := [.tmp 4]) (vs := [.int .i64 (-1)]) rfl rfl rfl ⟨(-1), rfl, rfl, H⟩
theorem c_58 {N : Nat} {C : Cx} {w : World} {ρ : View} {hs : List Hl} {v1 : Value} {b4 : Nat} {x2 : (List Int)} {x5 : Int} (H : Hp C w ρ (Box b4 [.int .i64 x5] :: hs)) (r3 : RdSl ρ (eI .i64) v1 x2) {r : Bool} (hF : F_slices_ContainsFunc_int_int N x2 x5 = some r) :
    Calls Tryd.prog 58 [v1, .func (.func 57) #[] [.pointer (some ⟨b4, 0, none⟩)].toArray].toArray w (Rets (fun v w' => (∃ (x10 : Bool), x10 = r ∧ .bool x10 = v ∧ Hp C w' ρ (Box b4 [.int .i64 x5] :: hs)))) := by
  unfold F_slices_ContainsFunc_int_int at hF
  have h0 : Tryd.f58.body = some _ := rfl
  refine fn_calls' Tryd.func58 h0 (n := 9) rfl (by simp) ?_
  refine C_seq ?_
  refine R_nd ?_
  refine nq (v := .bool false) (Q_assign rfl) rfl rfl ?_
  refine WL_nil ?_
  refine x_then ?_
  refine CW.sub (E' := [(0, v1), (1, .func (.func 57) #[] [.pointer (some ⟨b4, 0, none⟩)].toArray)]) ⟨rfl, rfl, trivial⟩ ?_
  refine C_seq ?_
  refine R_nd ?_
  refine nq (v := v1) (Q_move rfl) rfl rfl ?_
  refine nq (v := .func (.func 57) #[] [.pointer (some ⟨b4, 0, none⟩)].toArray) (Q_move rfl) rfl rfl ?_
  obtain ⟨q11, hq11, hF⟩ := bnd hF
  refine ne (E_call fn80 rfl (c_80 H  r3 hq11)) rfl rfl ?_
  rintro _ wd14 ⟨x13, rfl, rfl, H⟩
  try dsimp only at hF
  replace H : Hp C wd14 ρ (Box b4 [.int .i64 x5] :: hs) := H
  refine nq (v := .bool (decide (x13 ≥ 0))) (Q_geq rfl rfl) rfl rfl ?_
  refine nq (v := .bool (decide (x13 ≥ 0))) (Q_assign rfl) rfl rfl ?_
  refine WL_nil ?_
  refine x_then ?_
  refine CW.sub (E' := [(4, .bool (decide (x13 ≥ 0)))]) ⟨rfl, trivial⟩ ?_
  refine C_ret ?_
  obtain rfl := Option.some.inj hF
  exact fn_ret (l := [.tmp 4]) (vs := [.bool (decide (x13 ≥ 0))]) rfl rfl rfl ⟨decide (x13 ≥ 0), rfl, rfl, H⟩
theorem c_59 {N : Nat} {C : Cx} {w : World} {ρ : View} {hs : List Hl} {x1 : Int} (H : Hp C w ρ (hs)) {r : Bool} (hF : F_subset_Right_2 N x1 = some r) :
    Calls Tryd.prog 59 [.int .i64 x1].toArray w (Rets (fun v w' => (∃ (x5 : Bool), x5 = r ∧ .bool x5 = v ∧ Hp C w' ρ (hs)))) := by
  unfold F_subset_Right_2 at hF
  have h0 : Tryd.f59.body = some _ := rfl
  refine fn_calls' Tryd.func59 h0 (n := 9) rfl (by simp) ?_
  refine C_seq ?_
  refine R_nd ?_
  refine nq (v := .bool false) (Q_assign rfl) rfl rfl ?_
  refine WL_nil ?_
  refine x_then ?_
  refine CW.sub (E' := [(0, .int .i64 x1)]) ⟨rfl, trivial⟩ ?_
  obtain ⟨o7, ho7, hF⟩ := bnd hF
  refine C_cut (fun a w' => ∃ (x6 : Bool), x6 = o7 ∧ Fr 9 a [(2, .bool x6)] ∧ Hp C w' ρ (hs)) ?_ ?_
  · refine R_nd ?_
    refine nq (v := .int .i64 x1) (Q_move rfl) rfl rfl ?_
    refine nq (v := .bool (decide (x1 < (-1)))) (Q_lss rfl rfl) rfl rfl ?_
    refine nq (v := .bool (decide (x1 < (-1)))) (Q_move rfl) rfl rfl ?_
    rcases Bool.eq_false_or_eq_true (decide (x1 < (-1))) with hb | hb
    · rw [hb]
      replace ho7 := itT hb ho7
      refine gs rfl rfl rfl rfl ?_
      refine gs rfl rfl rfl rfl ?_
      refine nq (v := .bool true) (Q_pickT rfl rfl) rfl rfl ?_
      refine nq (v := .bool true) (Q_assign rfl) rfl rfl ?_
      refine WL_nil ?_
      obtain rfl := Option.some.inj ho7
      refine x_A fun a hf => ⟨true, rfl, hf.sub ⟨rfl, trivial⟩, H⟩
    · rw [hb]
      replace ho7 := itF hb ho7
      refine gq (v := .int .i64 x1) (Q_move rfl) rfl rfl rfl ?_
      refine gq (v := .bool (decide (x1 ≥ 48))) (Q_geq rfl rfl) rfl rfl rfl ?_
      refine nq (v := .bool (decide (x1 ≥ 48))) (Q_pickF rfl rfl) rfl rfl ?_
      refine nq (v := .bool (decide (x1 ≥ 48))) (Q_assign rfl) rfl rfl ?_
      refine WL_nil ?_
      obtain rfl := Option.some.inj ho7
      refine x_A fun a hf => ⟨decide (x1 ≥ 48), rfl, hf.sub ⟨rfl, trivial⟩, H⟩
  · rintro a wd8 ⟨x6, rfl, hf, H⟩
    try dsimp only at hF
    refine CW.at hf ?_
    refine C_ret ?_
    obtain rfl := Option.some.inj hF
    exact fn_ret (l := [.tmp 2]) (vs := [.bool x6]) rfl rfl rfl ⟨x6, rfl, rfl, H⟩
theorem c_80_1 {N : Nat} {C : Cx} {w : World} {ρ : View} {hs : List Hl} {v1 : Value} {x2 : (List Int)} (H : Hp C w ρ (hs)) (r3 : RdSl ρ (eI .i64) v1 x2) {r : Int} (hF : F_slices_IndexFunc_int_int_1 N x2 = some r) :
    Calls Tryd.prog 80 [v1, .func (.func 59) #[] [].toArray].toArray w (Rets (fun v w' => (∃ (x86 : Int), x86 = r ∧ .int .i64 x86 = v ∧ Hp C w' ρ (hs)))) := by
  unfold F_slices_IndexFunc_int_int_1 at hF
  have h0 : Tryd.f80.body = some _ := rfl
  refine fn_calls' Tryd.func80 h0 (n := 19) rfl (by simp) ?_
  refine C_seq ?_
  refine R_nd ?_
  refine nq (v := .int .i64 0) (Q_assign rfl) rfl rfl ?_
  refine WL_nil ?_
  refine x_then ?_
  refine CW.sub (E' := [(0, v1), (1, .func (.func 59) #[] [].toArray)]) ⟨rfl, rfl, trivial⟩ ?_
  refine C_seq ?_
  refine C_seq ?_
  refine R_nd ?_
  refine nq (v := v1) (Q_move rfl) rfl rfl ?_
  refine nq (v := .int .i64 (x2.length : Int)) (Q_len Tryd.underlying23 rfl r3) rfl rfl ?_
  refine nq (v := .int .i64 0) (Q_move rfl) rfl rfl ?_
  refine WL_nil ?_
  refine x_then ?_
  refine CW.sub (E' := [(0, v1), (1, .func (.func 59) #[] [].toArray), (7, .int .i64 (x2.length : Int)), (8, .int .i64 0)]) ⟨rfl, rfl, rfl, rfl, trivial⟩ ?_
  obtain ⟨o127, ho127, hF⟩ := bnd hF
  refine C_cutQ (fun a w' => .inl () = o127 ∧ Fr 19 a [] ∧ Hp C w' ρ (hs)) ?_ ?_
  · refine C_block ?_
    refine C_iter (f := fun s => F_slices_IndexFunc_int_int_1_l0 N x2 s) ho127 (fun s a w' => ∃ (x140 : Int), x140 = s ∧ Fr 19 a [(0, v1), (1, .func (.func 59) #[] [].toArray), (7, .int .i64 (x2.length : Int)), (8, .int .i64 x140)] ∧ Hp C w' ρ (hs)) ?_ ?_
    · exact fun a hf => ⟨0, rfl, hf.sub ⟨rfl, rfl, rfl, rfl, trivial⟩, H⟩
    · rintro s o153 a wd156 ⟨x140, rfl, hf, H⟩ hB154 hO155
      replace hB154 : F_slices_IndexFunc_int_int_1_l0 N x2 x140 = some o153 := hB154
      unfold F_slices_IndexFunc_int_int_1_l0 at hB154
      refine CW.at hf ?_
      refine C_seq ?_
      refine R_nd ?_
      refine nq (v := .bool (decide (x140 < (x2.length : Int)))) (Q_lss rfl rfl) rfl rfl ?_
      refine WL_nil ?_
      refine x_then ?_
      refine CW.sub (E' := [(0, v1), (1, .func (.func 59) #[] [].toArray), (7, .int .i64 (x2.length : Int)), (8, .int .i64 x140), (9, .bool (decide (x140 < (x2.length : Int))))]) ⟨rfl, rfl, rfl, rfl, rfl, trivial⟩ ?_
      refine C_seq ?_
      refine C_cond rfl (fun hb => ?_) (fun hb => ?_)
      · replace hB154 := itT hb hB154
        refine C_skip ?_
        refine x_then ?_
        refine CW.sub (E' := [(0, v1), (1, .func (.func 59) #[] [].toArray), (7, .int .i64 (x2.length : Int)), (8, .int .i64 x140)]) ⟨rfl, rfl, rfl, rfl, trivial⟩ ?_
        refine C_seq ?_
        refine C_block ?_
        refine C_seq ?_
        refine R_nd ?_
        refine nq (v := .int .i64 x140) (Q_move rfl) rfl rfl ?_
        refine nq (v := .int .i64 x140) (Q_assign rfl) rfl rfl ?_
        refine WL_nil ?_
        refine x_then ?_
        refine CW.sub (E' := [(0, v1), (1, .func (.func 59) #[] [].toArray), (5, .int .i64 x140), (7, .int .i64 (x2.length : Int)), (8, .int .i64 x140)]) ⟨rfl, rfl, rfl, rfl, rfl, trivial⟩ ?_
        refine C_seq ?_
        refine R_nd ?_
        refine nq (v := .func (.func 59) #[] [].toArray) (Q_move rfl) rfl rfl ?_
        refine nq (v := v1) (Q_move rfl) rfl rfl ?_
        refine nq (v := .int .i64 x140) (Q_move rfl) rfl rfl ?_
        obtain ⟨x157, hx157, hB154⟩ := bnd hB154
        obtain ⟨b158, o159, c160, hc161, ha162, hi163⟩ := idxR r3 hx157
        refine nq (v := .pointer (some ⟨b158, o159, none⟩)) (Q_idx hi163 Tryd.underlying23 ty3 rfl rfl) rfl rfl ?_
        refine nq (v := .int .i64 x157) (Q_ld (show cellsAt _ _ _ [.int .i64 x157] from (show _ = [_] from hc161) ▸ (ha162.up H.ok.view)) ty3 rfl (fun _ => rfl) rfl rfl) rfl rfl ?_
        obtain ⟨q164, hq164, hB154⟩ := bnd hB154
        refine ne (E_callV fn59 rfl rfl (c_59 H   hq164)) rfl rfl ?_
        rintro _ wd167 ⟨x166, rfl, rfl, H⟩
        try dsimp only at hB154
        replace H : Hp C wd167 ρ (hs) := H
        refine WL_nil ?_
        refine x_then ?_
        refine CW.sub (E' := [(0, v1), (1, .func (.func 59) #[] [].toArray), (5, .int .i64 x140), (7, .int .i64 (x2.length : Int)), (8, .int .i64 x140), (16, .bool x166)]) ⟨rfl, rfl, rfl, rfl, rfl, rfl, trivial⟩ ?_
        refine C_cond rfl (fun hb => ?_) (fun hb => ?_)
        · replace hB154 := itT hb hB154
          refine C_seq ?_
          refine R_nd ?_
          refine nq (v := .int .i64 x140) (Q_move rfl) rfl rfl ?_
          refine nq (v := .int .i64 x140) (Q_assign rfl) rfl rfl ?_
          refine WL_nil ?_
          refine x_then ?_
          refine CW.sub (E' := [(4, .int .i64 x140)]) ⟨rfl, trivial⟩ ?_
          refine C_ret ?_
          refine x_block_ret ?_
          refine x_then_ret ?_
          refine x_then_ret ?_
          refine x_block_ret ?_
          refine x_then_ret ?_
          refine x_then_ret ?_
          obtain rfl := Option.some.inj hB154
          obtain rfl := hO155 _ rfl
          obtain rfl := Option.some.inj (show some _ = some _ from hF)
          exact fn_ret (l := [.tmp 4]) (vs := [.int .i64 x140]) rfl rfl rfl ⟨x140, rfl, rfl, H⟩
        · replace hB154 := itF hb hB154
          refine C_skip ?_
          refine x_block ?_
          refine x_then ?_
          refine CW.sub (E' := [(0, v1), (1, .func (.func 59) #[] [].toArray), (7, .int .i64 (x2.length : Int)), (8, .int .i64 x140)]) ⟨rfl, rfl, rfl, rfl, trivial⟩ ?_
          refine R_nd ?_
          refine nq (v := .int .i64 (w64 (x140 + 1))) (Q_add rfl rfl) rfl rfl ?_
          refine nq (v := .int .i64 (w64 (x140 + 1))) (Q_move rfl) rfl rfl ?_
          refine WL_nil ?_
          obtain rfl := Option.some.inj hB154
          refine x_A fun a hf => ⟨_, rfl, w64 (x140 + 1), rfl, hf.sub ⟨rfl, rfl, rfl, rfl, trivial⟩, H⟩
      · replace hB154 := itF hb hB154
        refine C_exit ?_
        refine x_then_exit ?_
        refine x_then_exit ?_
        refine x_block_exit ?_
        obtain rfl := Option.some.inj hB154
        obtain rfl := hO155 _ rfl
        refine x_A fun a hf => ⟨rfl, hf.sub trivial, H⟩
  · rintro a wd168 ⟨rfl, hf, H⟩
    try dsimp only at hF
    refine XX.at hf ?_
    refine x_then ?_
    refine CW.sub (E' := []) trivial ?_
    refine C_seq ?_
    refine R_nd ?_
    refine nq (v := .int .i64 (-1)) (Q_assign rfl) rfl rfl ?_
    refine WL_nil ?_
    refine x_then ?_
    refine CW.sub (E' := [(4, .int .i64 (-1))]) ⟨rfl, trivial⟩ ?_
    refine C_ret ?_
    obtain rfl := Option.some.inj hF
    exact fn_ret (l := [.tmp 4]) (vs := [.int .i64 (-1)]) rfl rfl rfl ⟨(-1), rfl, rfl, H⟩
theorem c_58_1 {N : Nat} {C : Cx} {w : World} {ρ : View} {hs : List Hl} {v1 : Value} {x2 : (List Int)} (H : Hp C w ρ (hs)) (r3 : RdSl ρ (eI .i64) v1 x2) {r : Bool} (hF : F_slices_ContainsFunc_int_int_1 N x2 = some r) :
    Calls Tryd.prog 58 [v1, .func (.func 59) #[] [].toArray].toArray w (Rets (fun v w' => (∃ (x8 : Bool), x8 = r ∧ .bool x8 = v ∧ Hp C w' ρ (hs)))) := by
  unfold F_slices_ContainsFunc_int_int_1 at hF
  have h0 : Tryd.f58.body = some _ := rfl
  refine fn_calls' Tryd.func58 h0 (n := 9) rfl (by simp) ?_
  refine C_seq ?_
  refine R_nd ?_
  refine nq (v := .bool false) (Q_assign rfl) rfl rfl ?_
  refine WL_nil ?_
  refine x_then ?_
  refine CW.sub (E' := [(0, v1), (1, .func (.func 59) #[] [].toArray)]) ⟨rfl, rfl, trivial⟩ ?_
  refine C_seq ?_
  refine R_nd ?_
  refine nq (v := v1) (Q_move rfl) rfl rfl ?_
  refine nq (v := .func (.func 59) #[] [].toArray) (Q_move rfl) rfl rfl ?_
  obtain ⟨q9, hq9, hF⟩ := bnd hF
  refine ne (E_call fn80 rfl (c_80_1 H  r3 hq9)) rfl rfl ?_
  rintro _ wd12 ⟨x11, rfl, rfl, H⟩
  try dsimp only at hF
  replace H : Hp C wd12 ρ (hs) := H
  refine nq (v := .bool (decide (x11 ≥ 0))) (Q_geq rfl rfl) rfl rfl ?_
  refine nq (v := .bool (decide (x11 ≥ 0))) (Q_assign rfl) rfl rfl ?_
  refine WL_nil ?_
  refine x_then ?_
  refine CW.sub (E' := [(4, .bool (decide (x11 ≥ 0)))]) ⟨rfl, trivial⟩ ?_
  refine C_ret ?_
  obtain rfl := Option.some.inj hF
  exact fn_ret (l := [.tmp 4]) (vs := [.bool (decide (x11 ≥ 0))]) rfl rfl rfl ⟨decide (x11 ≥ 0), rfl, rfl, H⟩
theorem c_26 {N : Nat} {C : Cx} {w : World} {ρ : View} {hs : List Hl} {v1 : Value} {v4 : Value} {v7 : Value} {x2 : (List (List Int))} {x5 : (List Int)} {x8 : (List Int)} (H : Hp C w ρ (hs)) (r3 : RdSl ρ (eA 256 (eI .i64)) v1 x2) (r6 : RdSl ρ (eI .i64) v4 x5) (r9 : RdSl ρ (eI .i64) v7 x8) {r : Bool} (hF : F_subset_Right N x2 x5 x8 = some r) :
    Calls Tryd.prog 26 [.agg #[v1, v4, v7]].toArray w (Rets (fun v w' => (∃ (x168 : Bool), x168 = r ∧ .bool x168 = v ∧ Hp C w' ρ (hs)))) := by
  unfold F_subset_Right at hF
  have h0 : Tryd.f26.body = some _ := rfl
  refine fn_calls' Tryd.func26 h0 (n := 71) rfl (by simp) ?_
  refine C_seq ?_
  refine R_nd ?_
  refine ne (E_box H (vs := [v1, v4, v7]) rfl rfl) rfl rfl ?_
  rintro _ wd170 ⟨b169, rfl, H⟩
  replace H : Hp C wd170 ρ (Box b169 [v1, v4, v7] :: hs) := H
  refine nq (v := .bool false) (Q_assign rfl) rfl rfl ?_
  refine WL_nil ?_
  refine x_then ?_
  refine CW.sub (E' := [(1, .pointer (some ⟨b169, 0, none⟩))]) ⟨rfl, trivial⟩ ?_
  refine C_seq ?_
  refine R_nd ?_
  refine nq (v := .pointer (some ⟨b169, 0, none⟩)) (Q_fld Tryd.underlying25 rfl ty22 (by decide) rfl rfl) rfl rfl ?_
  refine nq (v := v1) (Q_ldB (k := 0) (cs := [v1]) H.ok rfl ty22 rfl rfl rfl (fun _ => rfl) rfl) rfl rfl ?_
  refine nq (v := .int .i64 (x2.length : Int)) (Q_len Tryd.underlying22 rfl r3) rfl rfl ?_
  refine ne (E_alloc H ty3 (zs := [.int .i64 0]) rfl) rfl rfl ?_
  rintro _ wd172 ⟨b171, rfl, H⟩
  replace H : Hp C wd172 ρ (Box b171 [.int .i64 0] :: Box b169 [v1, v4, v7] :: hs) := H
  refine ne (E_stB (k := 0) (cs := [.int .i64 (x2.length : Int)]) (vs' := [.int .i64 (x2.length : Int)]) H rfl ty3 rfl rfl rfl rfl (one_cons rfl one_nil) (by simp) rfl) rfl rfl ?_
  rintro _ wd173 H
  replace H : Hp C wd173 ρ (Box b171 [.int .i64 (x2.length : Int)] :: Box b169 [v1, v4, v7] :: hs) := H
  refine WL_nil ?_
  refine x_then ?_
  refine CW.sub (E' := [(1, .pointer (some ⟨b169, 0, none⟩)), (3, .pointer (some ⟨b171, 0, none⟩))]) ⟨rfl, rfl, trivial⟩ ?_
  refine C_seq ?_
  obtain ⟨o175, ho175, hF⟩ := bnd hF
  refine C_cut (fun a w' => ∃ (x174 : Bool), x174 = o175 ∧ Fr 71 a [(1, .pointer (some ⟨b169, 0, none⟩)), (3, .pointer (some ⟨b171, 0, none⟩)), (35, .bool x174)] ∧ Hp C w' ρ (Box b169 [v1, v4, v7] :: Box b171 [.int .i64 (x2.length : Int)] :: hs)) ?_ ?_
  · refine R_nd ?_
    refine nq (v := .int .i64 (x2.length : Int)) (Q_ldB (k := 0) (cs := [.int .i64 (x2.length : Int)]) H.ok rfl ty3 rfl rfl rfl (fun _ => rfl) rfl) rfl rfl ?_
    refine nq (v := .bool (decide ((x2.length : Int) < 1))) (Q_lss rfl rfl) rfl rfl ?_
    refine nq (v := .bool (decide ((x2.length : Int) < 1))) (Q_move rfl) rfl rfl ?_
    rcases Bool.eq_false_or_eq_true (decide ((x2.length : Int) < 1)) with hb | hb
    · rw [hb]
      replace ho175 := itT hb ho175
      refine gs rfl rfl rfl rfl ?_
      refine gs rfl rfl rfl rfl ?_
      refine nq (v := .bool true) (Q_pickT rfl rfl) rfl rfl ?_
      refine nq (v := .bool true) (Q_move rfl) rfl rfl ?_
      refine gs rfl rfl rfl rfl ?_
      refine gs rfl rfl rfl rfl ?_
      refine gs rfl rfl rfl rfl ?_
      refine gs rfl rfl rfl rfl ?_
      refine gs rfl rfl rfl rfl ?_
      refine nq (v := .bool true) (Q_pickT rfl rfl) rfl rfl ?_
      refine nq (v := .bool true) (Q_move rfl) rfl rfl ?_
      refine gs rfl rfl rfl rfl ?_
      refine gs rfl rfl rfl rfl ?_
      refine gs rfl rfl rfl rfl ?_
      refine gs rfl rfl rfl rfl ?_
      refine nq (v := .bool true) (Q_pickT rfl rfl) rfl rfl ?_
      refine nq (v := .bool true) (Q_move rfl) rfl rfl ?_
      refine gs rfl rfl rfl rfl ?_
      refine gs rfl rfl rfl rfl ?_
      refine gs rfl rfl rfl rfl ?_
      refine gs rfl rfl rfl rfl ?_
      refine nq (v := .bool true) (Q_pickT rfl rfl) rfl rfl ?_
      refine WL_nil ?_
      replace H := H.front 1 rfl
      replace H : Hp C wd173 ρ (Box b169 [v1, v4, v7] :: Box b171 [.int .i64 (x2.length : Int)] :: hs) := H
      obtain rfl := Option.some.inj ho175
      refine x_A fun a hf => ⟨true, rfl, hf.sub ⟨rfl, rfl, rfl, trivial⟩, H⟩
    · rw [hb]
      replace ho175 := itF hb ho175
      refine gq (v := .int .i64 (x2.length : Int)) (Q_ldB (k := 0) (cs := [.int .i64 (x2.length : Int)]) H.ok rfl ty3 rfl rfl rfl (fun _ => rfl) rfl) rfl rfl rfl ?_
      refine gq (v := .bool (decide ((x2.length : Int) > 200))) (Q_gtr rfl rfl) rfl rfl rfl ?_
      refine nq (v := .bool (decide ((x2.length : Int) > 200))) (Q_pickF rfl rfl) rfl rfl ?_
      refine nq (v := .bool (decide ((x2.length : Int) > 200))) (Q_move rfl) rfl rfl ?_
      rcases Bool.eq_false_or_eq_true (decide ((x2.length : Int) > 200)) with hb | hb
      · rw [hb]
        replace ho175 := itT hb ho175
        refine gs rfl rfl rfl rfl ?_
        refine gs rfl rfl rfl rfl ?_
        refine gs rfl rfl rfl rfl ?_
        refine gs rfl rfl rfl rfl ?_
        refine gs rfl rfl rfl rfl ?_
        refine nq (v := .bool true) (Q_pickT rfl rfl) rfl rfl ?_
        refine nq (v := .bool true) (Q_move rfl) rfl rfl ?_
        refine gs rfl rfl rfl rfl ?_
        refine gs rfl rfl rfl rfl ?_
        refine gs rfl rfl rfl rfl ?_
        refine gs rfl rfl rfl rfl ?_
        refine nq (v := .bool true) (Q_pickT rfl rfl) rfl rfl ?_
        refine nq (v := .bool true) (Q_move rfl) rfl rfl ?_
        refine gs rfl rfl rfl rfl ?_
        refine gs rfl rfl rfl rfl ?_
        refine gs rfl rfl rfl rfl ?_
        refine gs rfl rfl rfl rfl ?_
        refine nq (v := .bool true) (Q_pickT rfl rfl) rfl rfl ?_
        refine WL_nil ?_
        replace H := H.front 1 rfl
        replace H : Hp C wd173 ρ (Box b169 [v1, v4, v7] :: Box b171 [.int .i64 (x2.length : Int)] :: hs) := H
        obtain rfl := Option.some.inj ho175
        refine x_A fun a hf => ⟨true, rfl, hf.sub ⟨rfl, rfl, rfl, trivial⟩, H⟩
      · rw [hb]
        replace ho175 := itF hb ho175
        refine gq (v := .pointer (some ⟨b169, 1, none⟩)) (Q_fld Tryd.underlying25 rfl ty23 (by decide) rfl rfl) rfl rfl rfl ?_
        refine gq (v := v4) (Q_ldB (k := 1) (cs := [v4]) H.ok rfl ty23 rfl rfl rfl (fun _ => rfl) rfl) rfl rfl rfl ?_
        refine gq (v := .int .i64 (x5.length : Int)) (Q_len Tryd.underlying23 rfl r6) rfl rfl rfl ?_
        refine gq (v := .int .i64 (x2.length : Int)) (Q_ldB (k := 0) (cs := [.int .i64 (x2.length : Int)]) H.ok rfl ty3 rfl rfl rfl (fun _ => rfl) rfl) rfl rfl rfl ?_
        refine gq (v := .bool ((x5.length : Int) != (x2.length : Int))) (Q_neq rfl rfl) rfl rfl rfl ?_
        refine nq (v := .bool ((x5.length : Int) != (x2.length : Int))) (Q_pickF rfl rfl) rfl rfl ?_
        refine nq (v := .bool ((x5.length : Int) != (x2.length : Int))) (Q_move rfl) rfl rfl ?_
        rcases Bool.eq_false_or_eq_true ((x5.length : Int) != (x2.length : Int)) with hb | hb
        · rw [hb]
          replace ho175 := itT hb ho175
          refine gs rfl rfl rfl rfl ?_
          refine gs rfl rfl rfl rfl ?_
          refine gs rfl rfl rfl rfl ?_
          refine gs rfl rfl rfl rfl ?_
          refine nq (v := .bool true) (Q_pickT rfl rfl) rfl rfl ?_
          refine nq (v := .bool true) (Q_move rfl) rfl rfl ?_
          refine gs rfl rfl rfl rfl ?_
          refine gs rfl rfl rfl rfl ?_
          refine gs rfl rfl rfl rfl ?_
          refine gs rfl rfl rfl rfl ?_
          refine nq (v := .bool true) (Q_pickT rfl rfl) rfl rfl ?_
          refine WL_nil ?_
          replace H := H.front 1 rfl
          replace H : Hp C wd173 ρ (Box b169 [v1, v4, v7] :: Box b171 [.int .i64 (x2.length : Int)] :: hs) := H
          obtain rfl := Option.some.inj ho175
          refine x_A fun a hf => ⟨true, rfl, hf.sub ⟨rfl, rfl, rfl, trivial⟩, H⟩
        · rw [hb]
          replace ho175 := itF hb ho175
          refine gq (v := .pointer (some ⟨b169, 2, none⟩)) (Q_fld Tryd.underlying25 rfl ty23 (by decide) rfl rfl) rfl rfl rfl ?_
          refine gq (v := v7) (Q_ldB (k := 1) (cs := [v7]) H.ok rfl ty23 rfl rfl rfl (fun _ => rfl) rfl) rfl rfl rfl ?_
          refine gq (v := .int .i64 (x8.length : Int)) (Q_len Tryd.underlying23 rfl r9) rfl rfl rfl ?_
          refine gq (v := .bool (decide ((x8.length : Int) < 1))) (Q_lss rfl rfl) rfl rfl rfl ?_
          refine nq (v := .bool (decide ((x8.length : Int) < 1))) (Q_pickF rfl rfl) rfl rfl ?_
          refine nq (v := .bool (decide ((x8.length : Int) < 1))) (Q_move rfl) rfl rfl ?_
          rcases Bool.eq_false_or_eq_true (decide ((x8.length : Int) < 1)) with hb | hb
          · rw [hb]
            replace ho175 := itT hb ho175
            refine gs rfl rfl rfl rfl ?_
            refine gs rfl rfl rfl rfl ?_
            refine gs rfl rfl rfl rfl ?_
            refine gs rfl rfl rfl rfl ?_
            refine nq (v := .bool true) (Q_pickT rfl rfl) rfl rfl ?_
            refine WL_nil ?_
            replace H := H.front 1 rfl
            replace H : Hp C wd173 ρ (Box b169 [v1, v4, v7] :: Box b171 [.int .i64 (x2.length : Int)] :: hs) := H
            obtain rfl := Option.some.inj ho175
            refine x_A fun a hf => ⟨true, rfl, hf.sub ⟨rfl, rfl, rfl, trivial⟩, H⟩
          · rw [hb]
            replace ho175 := itF hb ho175
            refine gq (v := .pointer (some ⟨b169, 2, none⟩)) (Q_fld Tryd.underlying25 rfl ty23 (by decide) rfl rfl) rfl rfl rfl ?_
            refine gq (v := v7) (Q_ldB (k := 1) (cs := [v7]) H.ok rfl ty23 rfl rfl rfl (fun _ => rfl) rfl) rfl rfl rfl ?_
            refine gq (v := .int .i64 (x8.length : Int)) (Q_len Tryd.underlying23 rfl r9) rfl rfl rfl ?_
            refine gq (v := .bool (decide ((x8.length : Int) > 8))) (Q_gtr rfl rfl) rfl rfl rfl ?_
            refine nq (v := .bool (decide ((x8.length : Int) > 8))) (Q_pickF rfl rfl) rfl rfl ?_
            refine WL_nil ?_
            replace H := H.front 1 rfl
            replace H : Hp C wd173 ρ (Box b169 [v1, v4, v7] :: Box b171 [.int .i64 (x2.length : Int)] :: hs) := H
            obtain rfl := Option.some.inj ho175
            refine x_A fun a hf => ⟨decide ((x8.length : Int) > 8), rfl, hf.sub ⟨rfl, rfl, rfl, trivial⟩, H⟩
  · rintro a wd176 ⟨x174, rfl, hf, H⟩
    try dsimp only at hF
    refine CW.at hf ?_
    refine C_cond rfl (fun hb => ?_) (fun hb => ?_)
    · replace hF := itT hb hF
      refine C_seq ?_
      refine R_nd ?_
      refine nq (v := .bool false) (Q_assign rfl) rfl rfl ?_
      refine WL_nil ?_
      refine x_then ?_
      refine CW.sub (E' := [(2, .bool false)]) ⟨rfl, trivial⟩ ?_
      refine C_ret ?_
      refine x_then_ret ?_
      replace H := H.drop 0 rfl
      replace H : Hp C wd176 ρ (Box b171 [.int .i64 (x2.length : Int)] :: hs) := H
      replace H := H.drop 0 rfl
      replace H : Hp C wd176 ρ (hs) := H
      obtain rfl := Option.some.inj hF
      exact fn_ret (l := [.tmp 2]) (vs := [.bool false]) rfl rfl rfl ⟨false, rfl, rfl, H⟩
    · replace hF := itF hb hF
      refine C_skip ?_
      refine x_then ?_
      refine CW.sub (E' := [(1, .pointer (some ⟨b169, 0, none⟩)), (3, .pointer (some ⟨b171, 0, none⟩))]) ⟨rfl, rfl, trivial⟩ ?_
      refine C_seq ?_
      refine R_nd ?_
      refine nq (v := .func (.func 57) #[] [.pointer (some ⟨b171, 0, none⟩)].toArray) (Q_func rfl) rfl rfl ?_
      refine nq (v := .func (.func 57) #[] [.pointer (some ⟨b171, 0, none⟩)].toArray) (Q_assign rfl) rfl rfl ?_
      refine WL_nil ?_
      refine x_then ?_
      refine CW.sub (E' := [(1, .pointer (some ⟨b169, 0, none⟩)), (4, .func (.func 57) #[] [.pointer (some ⟨b171, 0, none⟩)].toArray)]) ⟨rfl, rfl, trivial⟩ ?_
      refine C_seq ?_
      refine C_seq ?_
      refine R_nd ?_
      refine nq (v := .pointer (some ⟨b169, 0, none⟩)) (Q_fld Tryd.underlying25 rfl ty22 (by decide) rfl rfl) rfl rfl ?_
      refine nq (v := v1) (Q_ldB (k := 0) (cs := [v1]) H.ok rfl ty22 rfl rfl rfl (fun _ => rfl) rfl) rfl rfl ?_
      refine nq (v := .int .i64 (x2.length : Int)) (Q_len Tryd.underlying22 rfl r3) rfl rfl ?_
      refine nq (v := .int .i64 0) (Q_move rfl) rfl rfl ?_
      refine WL_nil ?_
      refine x_then ?_
      refine CW.sub (E' := [(1, .pointer (some ⟨b169, 0, none⟩)), (4, .func (.func 57) #[] [.pointer (some ⟨b171, 0, none⟩)].toArray), (38, v1), (39, .int .i64 (x2.length : Int)), (40, .int .i64 0)]) ⟨rfl, rfl, rfl, rfl, rfl, trivial⟩ ?_
      obtain ⟨o226, ho226, hF⟩ := bnd hF
      refine C_cutQ (fun a w' => .inl () = o226 ∧ Fr 71 a [(1, .pointer (some ⟨b169, 0, none⟩)), (4, .func (.func 57) #[] [.pointer (some ⟨b171, 0, none⟩)].toArray)] ∧ Hp C w' ρ (Box b169 [v1, v4, v7] :: Box b171 [.int .i64 (x2.length : Int)] :: hs)) ?_ ?_
      · refine C_block ?_
        replace H := H.front 1 rfl
        replace H : Hp C wd176 ρ (Box b171 [.int .i64 (x2.length : Int)] :: Box b169 [v1, v4, v7] :: hs) := H
        replace H := H.front 1 rfl
        replace H : Hp C wd176 ρ (Box b169 [v1, v4, v7] :: Box b171 [.int .i64 (x2.length : Int)] :: hs) := H
        refine C_iter (f := fun s => F_subset_Right_l0 N x2 s) ho226 (fun s a w' => ∃ (x242 : Int), x242 = s ∧ Fr 71 a [(1, .pointer (some ⟨b169, 0, none⟩)), (4, .func (.func 57) #[] [.pointer (some ⟨b171, 0, none⟩)].toArray), (38, v1), (39, .int .i64 (x2.length : Int)), (40, .int .i64 x242)] ∧ Hp C w' ρ (Box b169 [v1, v4, v7] :: Box b171 [.int .i64 (x2.length : Int)] :: hs)) ?_ ?_
        · exact fun a hf => ⟨0, rfl, hf.sub ⟨rfl, rfl, rfl, rfl, rfl, trivial⟩, H⟩
        · rintro s o258 a wd261 ⟨x242, rfl, hf, H⟩ hB259 hO260
          replace hB259 : F_subset_Right_l0 N x2 x242 = some o258 := hB259
          unfold F_subset_Right_l0 at hB259
          refine CW.at hf ?_
          refine C_seq ?_
          refine R_nd ?_
          refine nq (v := .bool (decide (x242 < (x2.length : Int)))) (Q_lss rfl rfl) rfl rfl ?_
          refine WL_nil ?_
          refine x_then ?_
          refine CW.sub (E' := [(1, .pointer (some ⟨b169, 0, none⟩)), (4, .func (.func 57) #[] [.pointer (some ⟨b171, 0, none⟩)].toArray), (38, v1), (39, .int .i64 (x2.length : Int)), (40, .int .i64 x242), (41, .bool (decide (x242 < (x2.length : Int))))]) ⟨rfl, rfl, rfl, rfl, rfl, rfl, trivial⟩ ?_
          refine C_seq ?_
          refine C_cond rfl (fun hb => ?_) (fun hb => ?_)
          · replace hB259 := itT hb hB259
            refine C_skip ?_
            refine x_then ?_
            refine CW.sub (E' := [(1, .pointer (some ⟨b169, 0, none⟩)), (4, .func (.func 57) #[] [.pointer (some ⟨b171, 0, none⟩)].toArray), (38, v1), (39, .int .i64 (x2.length : Int)), (40, .int .i64 x242)]) ⟨rfl, rfl, rfl, rfl, rfl, trivial⟩ ?_
            refine C_seq ?_
            refine C_block ?_
            refine C_seq ?_
            refine R_nd ?_
            obtain ⟨x262, hx262, hB259⟩ := bnd hB259
            obtain ⟨b263, o264, c265, hc266, ha267, hi268⟩ := idxR r3 hx262
            refine nq (v := .pointer (some ⟨b263, o264, none⟩)) (Q_idx hi268 Tryd.underlying22 ty58 rfl rfl) rfl rfl ?_
            refine nq (v := .agg c265.toArray) (Q_ld (ha267.up H.ok.view) ty58 ((eA 256 (eI .i64)).len hc266) (fun h => nomatch h) rfl rfl) rfl rfl ?_
            refine ne (E_allocA (N := 256) (n := 1) (zs := (repC 256 [.int .i64 0])) H ty58 rfl (by simp [repC_length])) rfl rfl ?_
            rintro _ wd270 ⟨b269, rfl, H⟩
            replace H : Hp C wd270 ρ (Arr (.slice (some ⟨b269, 0, none⟩) 256 256) 1 (repC 256 [.int .i64 0]) :: Box b169 [v1, v4, v7] :: Box b171 [.int .i64 (x2.length : Int)] :: hs) := H
            refine ne (E_stW (k := 0) H rfl ty58 rfl rfl (rdL.one hc266.2) (arr_clen (rdL_rep (e:=(eI .i64)) (ρ:=ρ) (rfl) 256) List.length_replicate) (arr_clen hc266.2 hc266.1)) rfl rfl ?_
            rintro _ wd271 H
            replace H : Hp C wd271 ρ (Arr (.slice (some ⟨b269, 0, none⟩) 256 256) 1 c265 :: Box b169 [v1, v4, v7] :: Box b171 [.int .i64 (x2.length : Int)] :: hs) := H
            refine WL_nil ?_
            refine x_then ?_
            refine CW.sub (E' := [(1, .pointer (some ⟨b169, 0, none⟩)), (4, .func (.func 57) #[] [.pointer (some ⟨b171, 0, none⟩)].toArray), (6, .pointer (some ⟨b269, 0, none⟩)), (38, v1), (39, .int .i64 (x2.length : Int)), (40, .int .i64 x242)]) ⟨rfl, rfl, rfl, rfl, rfl, rfl, trivial⟩ ?_
            refine C_seq ?_
            refine R_nd ?_
            refine nq (v := (.slice (some ⟨b269, 0, none⟩) 256 256)) (Q_slA Tryd.underlying58 ty3 rfl) rfl rfl ?_
            refine nq (v := .func (.func 57) #[] [.pointer (some ⟨b171, 0, none⟩)].toArray) (Q_move rfl) rfl rfl ?_
            replace H := H.front 2 rfl
            replace H : Hp C wd271 ρ (Box b171 [.int .i64 (x2.length : Int)] :: Arr (.slice (some ⟨b269, 0, none⟩) 256 256) 1 c265 :: Box b169 [v1, v4, v7] :: hs) := H
            obtain ⟨q272, hq272, hB259⟩ := bnd hB259
            obtain ⟨C', ρ', hl273, HA, hL, hback⟩ := Hp.lend (A := [Box b171 [.int .i64 (x2.length : Int)]]) (L := [Arr (.slice (some ⟨b269, 0, none⟩) 256 256) 1 c265]) (F := Box b169 [v1, v4, v7] :: hs) H
            refine ne (E_call fn58 rfl (c_58 HA  (arr_rd (by decide) hl273 (hL (Arr (.slice (some ⟨b269, 0, none⟩) 256 256) 1 c265) (by simp)) hc266.2) hq272)) rfl rfl ?_
            rintro _ wd275 ⟨x274, rfl, rfl, H⟩
            try dsimp only at hB259
            replace H := hback H
            replace H : Hp C wd275 ρ (Box b171 [.int .i64 (x2.length : Int)] :: Arr (.slice (some ⟨b269, 0, none⟩) 256 256) 1 c265 :: Box b169 [v1, v4, v7] :: hs) := H
            refine WL_nil ?_
            refine x_then ?_
            refine CW.sub (E' := [(1, .pointer (some ⟨b169, 0, none⟩)), (4, .func (.func 57) #[] [.pointer (some ⟨b171, 0, none⟩)].toArray), (38, v1), (39, .int .i64 (x2.length : Int)), (40, .int .i64 x242), (46, .bool x274)]) ⟨rfl, rfl, rfl, rfl, rfl, rfl, trivial⟩ ?_
            refine C_cond rfl (fun hb => ?_) (fun hb => ?_)
            · replace hB259 := itT hb hB259
              refine C_seq ?_
              refine R_nd ?_
              refine nq (v := .bool false) (Q_assign rfl) rfl rfl ?_
              refine WL_nil ?_
              refine x_then ?_
              refine CW.sub (E' := [(2, .bool false)]) ⟨rfl, trivial⟩ ?_
              refine C_ret ?_
              refine x_block_ret ?_
              refine x_then_ret ?_
              refine x_then_ret ?_
              refine x_block_ret ?_
              refine x_then_ret ?_
              refine x_then_ret ?_
              replace H := H.drop 0 rfl
              replace H : Hp C wd275 ρ (Arr (.slice (some ⟨b269, 0, none⟩) 256 256) 1 c265 :: Box b169 [v1, v4, v7] :: hs) := H
              replace H := H.drop 0 rfl
              replace H : Hp C wd275 ρ (Box b169 [v1, v4, v7] :: hs) := H
              replace H := H.drop 0 rfl
              replace H : Hp C wd275 ρ (hs) := H
              obtain rfl := Option.some.inj hB259
              obtain rfl := hO260 _ rfl
              obtain rfl := Option.some.inj (show some _ = some _ from hF)
              exact fn_ret (l := [.tmp 2]) (vs := [.bool false]) rfl rfl rfl ⟨false, rfl, rfl, H⟩
            · replace hB259 := itF hb hB259
              refine C_skip ?_
              refine x_block ?_
              refine x_then ?_
              refine CW.sub (E' := [(1, .pointer (some ⟨b169, 0, none⟩)), (4, .func (.func 57) #[] [.pointer (some ⟨b171, 0, none⟩)].toArray), (38, v1), (39, .int .i64 (x2.length : Int)), (40, .int .i64 x242)]) ⟨rfl, rfl, rfl, rfl, rfl, trivial⟩ ?_
              refine R_nd ?_
              refine nq (v := .int .i64 (w64 (x242 + 1))) (Q_add rfl rfl) rfl rfl ?_
              refine nq (v := .int .i64 (w64 (x242 + 1))) (Q_move rfl) rfl rfl ?_
              refine WL_nil ?_
              replace H := H.front 2 rfl
              replace H : Hp C wd275 ρ (Box b169 [v1, v4, v7] :: Box b171 [.int .i64 (x2.length : Int)] :: Arr (.slice (some ⟨b269, 0, none⟩) 256 256) 1 c265 :: hs) := H
              replace H := H.drop 2 rfl
              replace H : Hp C wd275 ρ (Box b169 [v1, v4, v7] :: Box b171 [.int .i64 (x2.length : Int)] :: hs) := H
              obtain rfl := Option.some.inj hB259
              refine x_A fun a hf => ⟨_, rfl, w64 (x242 + 1), rfl, hf.sub ⟨rfl, rfl, rfl, rfl, rfl, trivial⟩, H⟩
          · replace hB259 := itF hb hB259
            refine C_exit ?_
            refine x_then_exit ?_
            refine x_then_exit ?_
            refine x_block_exit ?_
            replace H := H.front 1 rfl
            replace H : Hp C wd261 ρ (Box b171 [.int .i64 (x2.length : Int)] :: Box b169 [v1, v4, v7] :: hs) := H
            replace H := H.front 1 rfl
            replace H : Hp C wd261 ρ (Box b169 [v1, v4, v7] :: Box b171 [.int .i64 (x2.length : Int)] :: hs) := H
            obtain rfl := Option.some.inj hB259
            obtain rfl := hO260 _ rfl
            refine x_A fun a hf => ⟨rfl, hf.sub ⟨rfl, rfl, trivial⟩, H⟩
      · rintro a wd276 ⟨rfl, hf, H⟩
        try dsimp only at hF
        refine XX.at hf ?_
        refine x_then ?_
        refine CW.sub (E' := [(1, .pointer (some ⟨b169, 0, none⟩)), (4, .func (.func 57) #[] [.pointer (some ⟨b171, 0, none⟩)].toArray)]) ⟨rfl, rfl, trivial⟩ ?_
        refine C_seq ?_
        refine R_nd ?_
        refine nq (v := .func (.func 59) #[] [].toArray) (Q_assign rfl) rfl rfl ?_
        refine WL_nil ?_
        refine x_then ?_
        refine CW.sub (E' := [(1, .pointer (some ⟨b169, 0, none⟩)), (4, .func (.func 57) #[] [.pointer (some ⟨b171, 0, none⟩)].toArray), (7, .func (.func 59) #[] [].toArray)]) ⟨rfl, rfl, rfl, trivial⟩ ?_
        refine C_seq ?_
        obtain ⟨o286, ho286, hF⟩ := bnd hF
        refine C_cut (fun a w' => ∃ (x285 : Bool), x285 = o286 ∧ Fr 71 a [(1, .pointer (some ⟨b169, 0, none⟩)), (57, .bool x285)] ∧ Hp C w' ρ (Box b169 [v1, v4, v7] :: hs)) ?_ ?_
        · refine R_nd ?_
          refine nq (v := .pointer (some ⟨b169, 1, none⟩)) (Q_fld Tryd.underlying25 rfl ty23 (by decide) rfl rfl) rfl rfl ?_
          refine nq (v := v4) (Q_ldB (k := 0) (cs := [v4]) H.ok rfl ty23 rfl rfl rfl (fun _ => rfl) rfl) rfl rfl ?_
          refine nq (v := .func (.func 59) #[] [].toArray) (Q_move rfl) rfl rfl ?_
          obtain ⟨q287, hq287, ho286⟩ := bnd ho286
          refine ne (E_call fn58 rfl (c_58_1 H  r6 hq287)) rfl rfl ?_
          rintro _ wd290 ⟨x289, rfl, rfl, H⟩
          try dsimp only at ho286
          replace H : Hp C wd290 ρ (Box b169 [v1, v4, v7] :: Box b171 [.int .i64 (x2.length : Int)] :: hs) := H
          refine nq (v := .bool x289) (Q_move rfl) rfl rfl ?_
          rcases Bool.eq_false_or_eq_true x289 with hb | hb
          · rw [hb]
            replace ho286 := itT hb ho286
            refine gs rfl rfl rfl rfl ?_
            refine gs rfl rfl rfl rfl ?_
            refine gs rfl rfl rfl rfl ?_
            refine gs rfl rfl rfl rfl ?_
            refine nq (v := .bool true) (Q_pickT rfl rfl) rfl rfl ?_
            refine WL_nil ?_
            replace H := H.drop 1 rfl
            replace H : Hp C wd290 ρ (Box b169 [v1, v4, v7] :: hs) := H
            obtain rfl := Option.some.inj ho286
            refine x_A fun a hf => ⟨true, rfl, hf.sub ⟨rfl, rfl, trivial⟩, H⟩
          · rw [hb]
            replace ho286 := itF hb ho286
            refine gq (v := .pointer (some ⟨b169, 2, none⟩)) (Q_fld Tryd.underlying25 rfl ty23 (by decide) rfl rfl) rfl rfl rfl ?_
            refine gq (v := v7) (Q_ldB (k := 0) (cs := [v7]) H.ok rfl ty23 rfl rfl rfl (fun _ => rfl) rfl) rfl rfl rfl ?_
            refine gq (v := .func (.func 57) #[] [.pointer (some ⟨b171, 0, none⟩)].toArray) (Q_move rfl) rfl rfl rfl ?_
            replace H := H.front 1 rfl
            replace H : Hp C wd290 ρ (Box b171 [.int .i64 (x2.length : Int)] :: Box b169 [v1, v4, v7] :: hs) := H
            obtain ⟨q291, hq291, ho286⟩ := bnd ho286
            refine ge (E_call fn58 rfl (c_58 H  r9 hq291)) rfl rfl rfl ?_
            rintro _ wd294 ⟨x293, rfl, rfl, H⟩
            try dsimp only at ho286
            replace H : Hp C wd294 ρ (Box b171 [.int .i64 (x2.length : Int)] :: Box b169 [v1, v4, v7] :: hs) := H
            refine nq (v := .bool x293) (Q_pickF rfl rfl) rfl rfl ?_
            refine WL_nil ?_
            replace H := H.front 1 rfl
            replace H : Hp C wd294 ρ (Box b169 [v1, v4, v7] :: Box b171 [.int .i64 (x2.length : Int)] :: hs) := H
            replace H := H.drop 1 rfl
            replace H : Hp C wd294 ρ (Box b169 [v1, v4, v7] :: hs) := H
            obtain rfl := Option.some.inj ho286
            refine x_A fun a hf => ⟨x293, rfl, hf.sub ⟨rfl, rfl, trivial⟩, H⟩
        · rintro a wd295 ⟨x285, rfl, hf, H⟩
          try dsimp only at hF
          refine CW.at hf ?_
          refine C_cond rfl (fun hb => ?_) (fun hb => ?_)
          · replace hF := itT hb hF
            refine C_seq ?_
            refine R_nd ?_
            refine nq (v := .bool false) (Q_assign rfl) rfl rfl ?_
            refine WL_nil ?_
            refine x_then ?_
            refine CW.sub (E' := [(2, .bool false)]) ⟨rfl, trivial⟩ ?_
            refine C_ret ?_
            refine x_then_ret ?_
            replace H := H.drop 0 rfl
            replace H : Hp C wd295 ρ (hs) := H
            obtain rfl := Option.some.inj hF
            exact fn_ret (l := [.tmp 2]) (vs := [.bool false]) rfl rfl rfl ⟨false, rfl, rfl, H⟩
          · replace hF := itF hb hF
            refine C_skip ?_
            refine x_then ?_
            refine CW.sub (E' := [(1, .pointer (some ⟨b169, 0, none⟩))]) ⟨rfl, trivial⟩ ?_
            obtain ⟨o311, ho311, hF⟩ := bnd hF
            refine C_cut (fun a w' => ∃ (x310 : Bool), x310 = o311 ∧ Fr 71 a [(2, .bool x310)] ∧ Hp C w' ρ (hs)) ?_ ?_
            · refine R_nd ?_
              refine nq (v := .pointer (some ⟨b169, 0, none⟩)) (Q_fld Tryd.underlying25 rfl ty22 (by decide) rfl rfl) rfl rfl ?_
              refine nq (v := v1) (Q_ldB (k := 0) (cs := [v1]) H.ok rfl ty22 rfl rfl rfl (fun _ => rfl) rfl) rfl rfl ?_
              obtain ⟨x312, hx312, ho311⟩ := bnd ho311
              obtain ⟨b313, o314, c315, hc316, ha317, hi318⟩ := idxR r3 hx312
              refine nq (v := .pointer (some ⟨b313, o314, none⟩)) (Q_idx hi318 Tryd.underlying22 ty58 rfl rfl) rfl rfl ?_
              refine nq (v := .agg c315.toArray) (Q_ld (ha317.up H.ok.view) ty58 ((eA 256 (eI .i64)).len hc316) (fun h => nomatch h) rfl rfl) rfl rfl ?_
              refine nq (v := .agg (repC 256 [.int .i64 0]).toArray) (Q_build0 (zs := (repC 256 [.int .i64 0])) ty58 Tryd.underlying58 ty3 rfl) rfl rfl ?_
              refine nq (v := .bool (x312 == (List.replicate 256 0))) (Q_eqlA Tryd.underlying58 ty3 (by kernel_rfl) Tryd.underlying3 hc316.2 hc316.1 (rdL_rep (e:=(eI .i64)) (ρ:=ρ) (rfl) 256) List.length_replicate rfl rfl) rfl rfl ?_
              refine nq (v := .bool (x312 == (List.replicate 256 0))) (Q_move rfl) rfl rfl ?_
              rcases Bool.eq_false_or_eq_true (x312 == (List.replicate 256 0)) with hb | hb
              · rw [hb]
                replace ho311 := itT hb ho311
                refine gq (v := .pointer (some ⟨b169, 1, none⟩)) (Q_fld Tryd.underlying25 rfl ty23 (by decide) rfl rfl) rfl rfl rfl ?_
                refine gq (v := v4) (Q_ldB (k := 0) (cs := [v4]) H.ok rfl ty23 rfl rfl rfl (fun _ => rfl) rfl) rfl rfl rfl ?_
                obtain ⟨x319, hx319, ho311⟩ := bnd ho311
                obtain ⟨b320, o321, c322, hc323, ha324, hi325⟩ := idxR r6 hx319
                refine gq (v := .pointer (some ⟨b320, o321, none⟩)) (Q_idx hi325 Tryd.underlying23 ty3 rfl rfl) rfl rfl rfl ?_
                refine gq (v := .int .i64 x319) (Q_ld (show cellsAt _ _ _ [.int .i64 x319] from (show _ = [_] from hc323) ▸ (ha324.up H.ok.view)) ty3 rfl (fun _ => rfl) rfl rfl) rfl rfl rfl ?_
                refine gq (v := .bool (x319 == (-1))) (Q_eql rfl rfl) rfl rfl rfl ?_
                refine nq (v := .bool (x319 == (-1))) (Q_pickT rfl rfl) rfl rfl ?_
                refine nq (v := .bool (x319 == (-1))) (Q_assign rfl) rfl rfl ?_
                refine WL_nil ?_
                replace H := H.drop 0 rfl
                replace H : Hp C wd295 ρ (hs) := H
                obtain rfl := Option.some.inj ho311
                refine x_A fun a hf => ⟨x319 == (-1), rfl, hf.sub ⟨rfl, trivial⟩, H⟩
              · rw [hb]
                replace ho311 := itF hb ho311
                refine gs rfl rfl rfl rfl ?_
                refine gs rfl rfl rfl rfl ?_
                refine gs rfl rfl rfl rfl ?_
                refine gs rfl rfl rfl rfl ?_
                refine gs rfl rfl rfl rfl ?_
                refine nq (v := .bool false) (Q_pickF rfl rfl) rfl rfl ?_
                refine nq (v := .bool false) (Q_assign rfl) rfl rfl ?_
                refine WL_nil ?_
                replace H := H.drop 0 rfl
                replace H : Hp C wd295 ρ (hs) := H
                obtain rfl := Option.some.inj ho311
                refine x_A fun a hf => ⟨false, rfl, hf.sub ⟨rfl, trivial⟩, H⟩
            · rintro a wd326 ⟨x310, rfl, hf, H⟩
              try dsimp only at hF
              refine CW.at hf ?_
              refine C_ret ?_
              obtain rfl := Option.some.inj hF
              exact fn_ret (l := [.tmp 2]) (vs := [.bool x310]) rfl rfl rfl ⟨x310, rfl, rfl, H⟩
theorem c_51 {N : Nat} {C : Cx} {w : World} {ρ : View} {hs : List Hl} {x1 : Int} (H : Hp C w ρ (hs)) {ge0 : Value} (gl0 : GErr ρ 0 ge0) {r : (Unit ⊕ (List Int))} (hF : F_marks_New N x1 = some r) :
    Calls Tryd.prog 51 [.int .i64 x1].toArray w (Rets (fun v w' => (.inl () = r ∧ .tuple [.pointer none, ge0].toArray = v ∧ Hp C w' ρ (hs)) ∨ (∃ (b11 : Nat) (v12 : Value) (c13 : (List Value)) (x14 : (List Int)), .inr x14 = r ∧ .tuple [.pointer (some ⟨b11, 0, none⟩), .nilIface].toArray = v ∧ rdL (eI .u64) ρ x14 c13 ∧ Hp C w' ρ (Box b11 [v12, .int .i64 x1] :: Arr v12 1 c13 :: hs)))) := by
  unfold F_marks_New at hF
  have h0 : Tryd.f51.body = some _ := rfl
  refine fn_calls' Tryd.func51 h0 (n := 19) rfl (by simp) ?_
  refine C_seq ?_
  refine R_nd ?_
  refine nq (v := .pointer none) (Q_assign rfl) rfl rfl ?_
  refine nq (v := .nilIface) (Q_assign rfl) rfl rfl ?_
  refine WL_nil ?_
  refine x_then ?_
  refine CW.sub (E' := [(0, .int .i64 x1)]) ⟨rfl, trivial⟩ ?_
  refine C_seq ?_
  obtain ⟨o17, ho17, hF⟩ := bnd hF
  refine C_cut (fun a w' => ∃ (x16 : Bool), x16 = o17 ∧ Fr 19 a [(0, .int .i64 x1), (9, .bool x16)] ∧ Hp C w' ρ (hs)) ?_ ?_
  · refine R_nd ?_
    refine nq (v := .int .i64 x1) (Q_move rfl) rfl rfl ?_
    refine nq (v := .bool (decide (x1 < 0))) (Q_lss rfl rfl) rfl rfl ?_
    refine nq (v := .bool (decide (x1 < 0))) (Q_move rfl) rfl rfl ?_
    rcases Bool.eq_false_or_eq_true (decide (x1 < 0)) with hb | hb
    · rw [hb]
      replace ho17 := itT hb ho17
      refine gs rfl rfl rfl rfl ?_
      refine gs rfl rfl rfl rfl ?_
      refine nq (v := .bool true) (Q_pickT rfl rfl) rfl rfl ?_
      refine WL_nil ?_
      obtain rfl := Option.some.inj ho17
      refine x_A fun a hf => ⟨true, rfl, hf.sub ⟨rfl, rfl, trivial⟩, H⟩
    · rw [hb]
      replace ho17 := itF hb ho17
      refine gq (v := .int .i64 x1) (Q_move rfl) rfl rfl rfl ?_
      refine gq (v := .bool (decide (x1 > 65536))) (Q_gtr rfl rfl) rfl rfl rfl ?_
      refine nq (v := .bool (decide (x1 > 65536))) (Q_pickF rfl rfl) rfl rfl ?_
      refine WL_nil ?_
      obtain rfl := Option.some.inj ho17
      refine x_A fun a hf => ⟨decide (x1 > 65536), rfl, hf.sub ⟨rfl, rfl, trivial⟩, H⟩
  · rintro a wd18 ⟨x16, rfl, hf, H⟩
    try dsimp only at hF
    refine CW.at hf ?_
    refine C_cond rfl (fun hb => ?_) (fun hb => ?_)
    · replace hF := itT hb hF
      refine C_seq ?_
      refine R_dr (.take 0 (.take 1 (.take 2 .done))) (fun w' => Ok w' ρ []) (by kernel_rfl) (by kernel_rfl) (by kernel_rfl) (H.drew.okS (by simp)) ?_
      replace H := H.drew
      refine dq (v := ge0) rfl (fun w' hw => Q_ldG hw gl0 ty63) rfl rfl ?_
      refine dq (v := .pointer none) rfl (fun w' hw => Q_assign rfl) rfl rfl ?_
      refine dq (v := ge0) rfl (fun w' hw => Q_assign rfl) rfl rfl ?_
      refine DL_nil ?_
      refine x_then ?_
      refine CW.sub (E' := [(2, .pointer none), (3, ge0)]) ⟨rfl, rfl, trivial⟩ ?_
      refine C_ret ?_
      refine x_then_ret ?_
      obtain rfl := Option.some.inj hF
      exact fn_ret (l := [.tmp 2, .tmp 3]) (vs := [.pointer none, ge0]) rfl rfl rfl (.inl ⟨rfl, rfl, H⟩)
    · replace hF := itF hb hF
      refine C_skip ?_
      refine x_then ?_
      refine CW.sub (E' := [(0, .int .i64 x1)]) ⟨rfl, trivial⟩ ?_
      refine C_seq ?_
      refine R_nd ?_
      refine nq (v := .int .i64 x1) (Q_move rfl) rfl rfl ?_
      refine nq (v := .int .i64 (w64 (x1 + 64))) (Q_add rfl rfl) rfl rfl ?_
      refine nq (v := .int .i64 (w64 ((w64 (x1 + 64)) - 1))) (Q_sub rfl rfl) rfl rfl ?_
      refine nq (v := .int .i64 (w64 ((w64 ((w64 (x1 + 64)) - 1)).tdiv 64))) (Q_quo rfl rfl (by decide)) rfl rfl ?_
      obtain ⟨x19, hx19, hF⟩ := bnd hF
      obtain ⟨hm21a, hm21b, hm21c⟩ := mk_some hx19
      refine ne (E_make H Tryd.underlying92 ty95 (zs := [.int .u64 0]) rfl rfl (by decide) (by decide) rfl hm21a hm21b) rfl rfl ?_
      rintro _ wd22 ⟨b20, rfl, H⟩
      replace H : Hp C wd22 ρ (Arr (.slice (some ⟨b20, 0, none⟩) (w64 ((w64 ((w64 (x1 + 64)) - 1)).tdiv 64)).toNat (w64 ((w64 ((w64 (x1 + 64)) - 1)).tdiv 64)).toNat) 1 (repC (w64 ((w64 ((w64 (x1 + 64)) - 1)).tdiv 64)).toNat [.int .u64 0]) :: hs) := H
      refine nq (v := .int .i64 x1) (Q_move rfl) rfl rfl ?_
      refine nq (v := .agg #[(.slice (some ⟨b20, 0, none⟩) (w64 ((w64 ((w64 (x1 + 64)) - 1)).tdiv 64)).toNat (w64 ((w64 ((w64 (x1 + 64)) - 1)).tdiv 64)).toNat), .int .i64 x1]) (Q_buildS st94.choose_spec (ps := [(0, [(.slice (some ⟨b20, 0, none⟩) (w64 ((w64 ((w64 (x1 + 64)) - 1)).tdiv 64)).toNat (w64 ((w64 ((w64 (x1 + 64)) - 1)).tdiv 64)).toNat)]), (1, [.int .i64 x1])]) rfl ⟨rfl, (arr_cells (H.ok.get (k := 0) rfl)).1, by simp, ⟨rfl, rfl, by simp, trivial⟩⟩ rfl) rfl rfl ?_
      refine ne (E_box H (vs := [(.slice (some ⟨b20, 0, none⟩) (w64 ((w64 ((w64 (x1 + 64)) - 1)).tdiv 64)).toNat (w64 ((w64 ((w64 (x1 + 64)) - 1)).tdiv 64)).toNat), .int .i64 x1]) rfl rfl) rfl rfl ?_
      rintro _ wd24 ⟨b23, rfl, H⟩
      replace H : Hp C wd24 ρ (Box b23 [(.slice (some ⟨b20, 0, none⟩) (w64 ((w64 ((w64 (x1 + 64)) - 1)).tdiv 64)).toNat (w64 ((w64 ((w64 (x1 + 64)) - 1)).tdiv 64)).toNat), .int .i64 x1] :: Arr (.slice (some ⟨b20, 0, none⟩) (w64 ((w64 ((w64 (x1 + 64)) - 1)).tdiv 64)).toNat (w64 ((w64 ((w64 (x1 + 64)) - 1)).tdiv 64)).toNat) 1 (repC (w64 ((w64 ((w64 (x1 + 64)) - 1)).tdiv 64)).toNat [.int .u64 0]) :: hs) := H
      refine nq (v := .pointer (some ⟨b23, 0, none⟩)) (Q_assign rfl) rfl rfl ?_
      refine nq (v := .nilIface) (Q_assign rfl) rfl rfl ?_
      refine WL_nil ?_
      refine x_then ?_
      refine CW.sub (E' := [(2, .pointer (some ⟨b23, 0, none⟩)), (3, .nilIface)]) ⟨rfl, rfl, trivial⟩ ?_
      refine C_ret ?_
      replace H := H.front 1 rfl
      replace H : Hp C wd24 ρ (Arr (.slice (some ⟨b20, 0, none⟩) (w64 ((w64 ((w64 (x1 + 64)) - 1)).tdiv 64)).toNat (w64 ((w64 ((w64 (x1 + 64)) - 1)).tdiv 64)).toNat) 1 (repC (w64 ((w64 ((w64 (x1 + 64)) - 1)).tdiv 64)).toNat [.int .u64 0]) :: Box b23 [(.slice (some ⟨b20, 0, none⟩) (w64 ((w64 ((w64 (x1 + 64)) - 1)).tdiv 64)).toNat (w64 ((w64 ((w64 (x1 + 64)) - 1)).tdiv 64)).toNat), .int .i64 x1] :: hs) := H
      replace H := H.front 1 rfl
      replace H : Hp C wd24 ρ (Box b23 [(.slice (some ⟨b20, 0, none⟩) (w64 ((w64 ((w64 (x1 + 64)) - 1)).tdiv 64)).toNat (w64 ((w64 ((w64 (x1 + 64)) - 1)).tdiv 64)).toNat), .int .i64 x1] :: Arr (.slice (some ⟨b20, 0, none⟩) (w64 ((w64 ((w64 (x1 + 64)) - 1)).tdiv 64)).toNat (w64 ((w64 ((w64 (x1 + 64)) - 1)).tdiv 64)).toNat) 1 (repC (w64 ((w64 ((w64 (x1 + 64)) - 1)).tdiv 64)).toNat [.int .u64 0]) :: hs) := H
      obtain rfl := Option.some.inj hF
      exact fn_ret (l := [.tmp 2, .tmp 3]) (vs := [.pointer (some ⟨b23, 0, none⟩), .nilIface]) rfl rfl rfl (.inr ⟨b23, (.slice (some ⟨b20, 0, none⟩) (w64 ((w64 ((w64 (x1 + 64)) - 1)).tdiv 64)).toNat (w64 ((w64 ((w64 (x1 + 64)) - 1)).tdiv 64)).toNat), (repC (w64 ((w64 ((w64 (x1 + 64)) - 1)).tdiv 64)).toNat [.int .u64 0]), x19, rfl, rfl, (hm21c ▸ rdL_rep (e := (eI .u64)) (ρ := ρ) (rfl) _), H⟩)
theorem c_87 {N : Nat} {C : Cx} {w : World} {ρ : View} {hs : List Hl} {b1 : Nat} {c2 : List Value} {v5 : Value} {x3 : (List Int)} {x6 : Int} (H : Hp C w ρ (Box b1 [v5, .int .i64 x6] :: Arr v5 1 c2 :: hs)) (r4 : rdL (eI .u64) ρ x3 c2) {r : Unit} (hF : F_marks_Marks_Size N x3 x6 = some r) :
    Calls Tryd.prog 87 [.pointer (some ⟨b1, 0, none⟩)].toArray w (Rets (fun v w' => (() = r ∧ .int .i64 x6 = v ∧ Hp C w' ρ (Box b1 [v5, .int .i64 x6] :: Arr v5 1 c2 :: hs)))) := by
  unfold F_marks_Marks_Size at hF
  have h0 : Tryd.f87.body = some _ := rfl
  refine fn_calls' Tryd.func87 h0 (n := 9) rfl (by simp) ?_
  refine C_seq ?_
  refine R_nd ?_
  refine nq (v := .int .i64 0) (Q_assign rfl) rfl rfl ?_
  refine WL_nil ?_
  refine x_then ?_
  refine CW.sub (E' := [(0, .pointer (some ⟨b1, 0, none⟩))]) ⟨rfl, trivial⟩ ?_
  refine C_seq ?_
  refine C_seq ?_
  refine R_nd ?_
  refine nq (v := .pointer (some ⟨b1, 0, none⟩)) (Q_move rfl) rfl rfl ?_
  refine nq (v := .bool false) (Q_eqlP (o := (some ⟨b1, 0, none⟩)) Tryd.underlying61 rfl) rfl rfl ?_
  refine WL_nil ?_
  refine x_then ?_
  refine CW.sub (E' := [(0, .pointer (some ⟨b1, 0, none⟩)), (4, .bool false)]) ⟨rfl, rfl, trivial⟩ ?_
  refine C_cond rfl (fun h => nomatch h) (fun _ => ?_)
  refine C_skip ?_
  refine x_then ?_
  refine CW.sub (E' := [(0, .pointer (some ⟨b1, 0, none⟩))]) ⟨rfl, trivial⟩ ?_
  refine C_seq ?_
  refine R_nd ?_
  refine nq (v := .pointer (some ⟨b1, 0, none⟩)) (Q_move rfl) rfl rfl ?_
  refine nq (v := .pointer (some ⟨b1, 0, none⟩)) (Q_nilP rfl) rfl rfl ?_
  refine nq (v := .pointer (some ⟨b1, 1, none⟩)) (Q_fld Tryd.underlying94 rfl ty3 (by decide) rfl rfl) rfl rfl ?_
  refine nq (v := .int .i64 x6) (Q_ldB (k := 0) (cs := [.int .i64 x6]) H.ok rfl ty3 rfl rfl rfl (fun _ => rfl) rfl) rfl rfl ?_
  refine nq (v := .int .i64 x6) (Q_assign rfl) rfl rfl ?_
  refine WL_nil ?_
  refine x_then ?_
  refine CW.sub (E' := [(2, .int .i64 x6)]) ⟨rfl, trivial⟩ ?_
  refine C_ret ?_
  replace H := H.front 1 rfl
  replace H : Hp C w ρ (Arr v5 1 c2 :: Box b1 [v5, .int .i64 x6] :: hs) := H
  replace H := H.front 1 rfl
  replace H : Hp C w ρ (Box b1 [v5, .int .i64 x6] :: Arr v5 1 c2 :: hs) := H
  obtain rfl := Option.some.inj hF
  exact fn_ret (l := [.tmp 2]) (vs := [.int .i64 x6]) rfl rfl rfl ⟨rfl, rfl, H⟩
theorem c_76 {N : Nat} {C : Cx} {w : World} {ρ : View} {hs : List Hl} {b1 : Nat} {c2 : List Value} {v5 : Value} {x3 : (List Int)} {x6 : Int} {x7 : Int} (H : Hp C w ρ (Box b1 [v5, .int .i64 x6] :: Arr v5 1 c2 :: hs)) (r4 : rdL (eI .u64) ρ x3 c2) {r : (Int × Int × Bool)} (hF : F_marks_Marks_at N x3 x6 x7 = some r) :
    Calls Tryd.prog 76 [.pointer (some ⟨b1, 0, none⟩), .int .i64 x7].toArray w (Rets (fun v w' => (∃ (x21 : Int) (x22 : Int) (x23 : Bool), (x21, x22, x23) = r ∧ .tuple [.int .i64 x21, .int .u64 x22, .bool x23].toArray = v ∧ Hp C w' ρ (Box b1 [v5, .int .i64 x6] :: Arr v5 1 c2 :: hs)))) := by
  unfold F_marks_Marks_at at hF
  have h0 : Tryd.f76.body = some _ := rfl
  refine fn_calls' Tryd.func76 h0 (n := 21) rfl (by simp) ?_
  refine C_seq ?_
  refine R_nd ?_
  refine nq (v := .int .i64 0) (Q_assign rfl) rfl rfl ?_
  refine nq (v := .int .u64 0) (Q_assign rfl) rfl rfl ?_
  refine nq (v := .bool false) (Q_assign rfl) rfl rfl ?_
  refine WL_nil ?_
  refine x_then ?_
  refine CW.sub (E' := [(0, .pointer (some ⟨b1, 0, none⟩)), (1, .int .i64 x7)]) ⟨rfl, rfl, trivial⟩ ?_
  obtain ⟨o31, ho31, hF⟩ := bnd hF
  refine C_cut (fun a w' => ∃ (x28 : Int) (x29 : Int) (x30 : Bool), (x28, x29, x30) = o31 ∧ Fr 21 a [(4, .int .i64 x28), (5, .int .u64 x29), (6, .bool x30)] ∧ Hp C w' ρ (Box b1 [v5, .int .i64 x6] :: Arr v5 1 c2 :: hs)) ?_ ?_
  · refine R_nd ?_
    refine nq (v := .int .i64 x7) (Q_move rfl) rfl rfl ?_
    refine nq (v := .int .i64 (w64 (x7.tdiv 64))) (Q_quo rfl rfl (by decide)) rfl rfl ?_
    refine nq (v := .int .i64 x7) (Q_move rfl) rfl rfl ?_
    refine nq (v := .int .u64 (IntKind.wrap .u64 x7)) (Q_cvI ⟨_, Tryd.underlying3⟩ Tryd.underlying59 rfl) rfl rfl ?_
    refine nq (v := .int .u64 ((IntKind.wrap .u64 x7).tmod 64)) (Q_rem rfl rfl (by decide)) rfl rfl ?_
    obtain ⟨x32, hx32, ho31⟩ := bnd ho31
    refine nq (v := .int .u64 (shlI .u64 1 ((IntKind.wrap .u64 x7).tmod 64))) (Q_shl rfl rfl (nn_some hx32)) rfl rfl ?_
    refine nq (v := .int .i64 x7) (Q_move rfl) rfl rfl ?_
    refine nq (v := .bool (decide (x7 ≥ 0))) (Q_geq rfl rfl) rfl rfl ?_
    refine nq (v := .bool (decide (x7 ≥ 0))) (Q_move rfl) rfl rfl ?_
    rcases Bool.eq_false_or_eq_true (decide (x7 ≥ 0)) with hb | hb
    · rw [hb]
      replace ho31 := itT hb ho31
      refine gq (v := .int .i64 x7) (Q_move rfl) rfl rfl rfl ?_
      refine gq (v := .pointer (some ⟨b1, 0, none⟩)) (Q_move rfl) rfl rfl rfl ?_
      replace H := H.front 1 rfl
      replace H : Hp C w ρ (Arr v5 1 c2 :: Box b1 [v5, .int .i64 x6] :: hs) := H
      replace H := H.front 1 rfl
      replace H : Hp C w ρ (Box b1 [v5, .int .i64 x6] :: Arr v5 1 c2 :: hs) := H
      obtain ⟨q33, hq33, ho31⟩ := bnd ho31
      refine ge (E_call fn87 rfl (c_87 H  r4 hq33)) rfl rfl rfl ?_
      rintro _ wd35 ⟨rfl, rfl, H⟩
      try dsimp only at ho31
      replace H : Hp C wd35 ρ (Box b1 [v5, .int .i64 x6] :: Arr v5 1 c2 :: hs) := H
      refine gq (v := .bool (decide (x7 < x6))) (Q_lss rfl rfl) rfl rfl rfl ?_
      refine nq (v := .bool (decide (x7 < x6))) (Q_pickT rfl rfl) rfl rfl ?_
      refine nq (v := .int .i64 (w64 (x7.tdiv 64))) (Q_assign rfl) rfl rfl ?_
      refine nq (v := .int .u64 (shlI .u64 1 ((IntKind.wrap .u64 x7).tmod 64))) (Q_assign rfl) rfl rfl ?_
      refine nq (v := .bool (decide (x7 < x6))) (Q_assign rfl) rfl rfl ?_
      refine WL_nil ?_
      replace H := H.front 1 rfl
      replace H : Hp C wd35 ρ (Arr v5 1 c2 :: Box b1 [v5, .int .i64 x6] :: hs) := H
      replace H := H.front 1 rfl
      replace H : Hp C wd35 ρ (Box b1 [v5, .int .i64 x6] :: Arr v5 1 c2 :: hs) := H
      obtain rfl := Option.some.inj ho31
      refine x_A fun a hf => ⟨w64 (x7.tdiv 64), shlI .u64 1 ((IntKind.wrap .u64 x7).tmod 64), decide (x7 < x6), rfl, hf.sub ⟨rfl, rfl, rfl, trivial⟩, H⟩
    · rw [hb]
      replace ho31 := itF hb ho31
      refine gs rfl rfl rfl rfl ?_
      refine gs rfl rfl rfl rfl ?_
      refine gs rfl rfl rfl rfl ?_
      refine gs rfl rfl rfl rfl ?_
      refine nq (v := .bool false) (Q_pickF rfl rfl) rfl rfl ?_
      refine nq (v := .int .i64 (w64 (x7.tdiv 64))) (Q_assign rfl) rfl rfl ?_
      refine nq (v := .int .u64 (shlI .u64 1 ((IntKind.wrap .u64 x7).tmod 64))) (Q_assign rfl) rfl rfl ?_
      refine nq (v := .bool false) (Q_assign rfl) rfl rfl ?_
      refine WL_nil ?_
      replace H := H.front 1 rfl
      replace H : Hp C w ρ (Arr v5 1 c2 :: Box b1 [v5, .int .i64 x6] :: hs) := H
      replace H := H.front 1 rfl
      replace H : Hp C w ρ (Box b1 [v5, .int .i64 x6] :: Arr v5 1 c2 :: hs) := H
      obtain rfl := Option.some.inj ho31
      refine x_A fun a hf => ⟨w64 (x7.tdiv 64), shlI .u64 1 ((IntKind.wrap .u64 x7).tmod 64), false, rfl, hf.sub ⟨rfl, rfl, rfl, trivial⟩, H⟩
  · rintro a wd36 ⟨x28, x29, x30, rfl, hf, H⟩
    try dsimp only at hF
    refine CW.at hf ?_
    refine C_ret ?_
    replace H := H.front 1 rfl
    replace H : Hp C wd36 ρ (Arr v5 1 c2 :: Box b1 [v5, .int .i64 x6] :: hs) := H
    replace H := H.front 1 rfl
    replace H : Hp C wd36 ρ (Box b1 [v5, .int .i64 x6] :: Arr v5 1 c2 :: hs) := H
    obtain rfl := Option.some.inj hF
    exact fn_ret (l := [.tmp 4, .tmp 5, .tmp 6]) (vs := [.int .i64 x28, .int .u64 x29, .bool x30]) rfl rfl rfl ⟨x28, x29, x30, rfl, rfl, H⟩
theorem c_52 {N : Nat} {C : Cx} {w : World} {ρ : View} {hs : List Hl} {b1 : Nat} {c2 : List Value} {v5 : Value} {x3 : (List Int)} {x6 : Int} {x7 : Int} (H : Hp C w ρ (Box b1 [v5, .int .i64 x6] :: Arr v5 1 c2 :: hs)) (r4 : rdL (eI .u64) ρ x3 c2) {r : ((List Int) × Bool)} (hF : F_marks_Marks_Put N x3 x6 x7 = some r) :
    Calls Tryd.prog 52 [.pointer (some ⟨b1, 0, none⟩), .int .i64 x7].toArray w (Rets (fun v w' => (∃ (c49 : (List Value)) (x50 : (List Int)) (x52 : Bool), (x50, x52) = r ∧ .bool x52 = v ∧ rdL (eI .u64) ρ x50 c49 ∧ Hp C w' ρ (Box b1 [v5, .int .i64 x6] :: Arr v5 1 c49 :: hs)))) := by
  unfold F_marks_Marks_Put at hF
  have h0 : Tryd.f52.body = some _ := rfl
  refine fn_calls' Tryd.func52 h0 (n := 39) rfl (by simp) ?_
  refine C_seq ?_
  refine R_nd ?_
  refine nq (v := .bool false) (Q_assign rfl) rfl rfl ?_
  refine WL_nil ?_
  refine x_then ?_
  refine CW.sub (E' := [(0, .pointer (some ⟨b1, 0, none⟩)), (1, .int .i64 x7)]) ⟨rfl, rfl, trivial⟩ ?_
  refine C_seq ?_
  refine R_nd ?_
  refine nq (v := .pointer (some ⟨b1, 0, none⟩)) (Q_move rfl) rfl rfl ?_
  refine nq (v := .int .i64 x7) (Q_move rfl) rfl rfl ?_
  replace H := H.front 1 rfl
  replace H : Hp C w ρ (Arr v5 1 c2 :: Box b1 [v5, .int .i64 x6] :: hs) := H
  replace H := H.front 1 rfl
  replace H : Hp C w ρ (Box b1 [v5, .int .i64 x6] :: Arr v5 1 c2 :: hs) := H
  obtain ⟨q53, hq53, hF⟩ := bnd hF
  refine ne (E_call fn76 rfl (c_76 H  r4 hq53)) rfl rfl ?_
  rintro _ wd58 ⟨x55, x56, x57, rfl, rfl, H⟩
  try dsimp only at hF
  replace H : Hp C wd58 ρ (Box b1 [v5, .int .i64 x6] :: Arr v5 1 c2 :: hs) := H
  refine nq (v := .tuple [.int .i64 x55, .int .u64 x56, .bool x57].toArray) (Q_move rfl) rfl rfl ?_
  refine nq (v := .int .i64 x55) (Q_extract rfl rfl) rfl rfl ?_
  refine nq (v := .int .u64 x56) (Q_extract rfl rfl) rfl rfl ?_
  refine nq (v := .bool x57) (Q_extract rfl rfl) rfl rfl ?_
  refine nq (v := .int .i64 x55) (Q_assign rfl) rfl rfl ?_
  refine nq (v := .int .u64 x56) (Q_assign rfl) rfl rfl ?_
  refine nq (v := .bool x57) (Q_assign rfl) rfl rfl ?_
  refine WL_nil ?_
  refine x_then ?_
  refine CW.sub (E' := [(0, .pointer (some ⟨b1, 0, none⟩)), (5, .int .i64 x55), (6, .int .u64 x56), (7, .bool x57)]) ⟨rfl, rfl, rfl, rfl, trivial⟩ ?_
  refine C_seq ?_
  obtain ⟨o67, ho67, hF⟩ := bnd hF
  refine C_cut (fun a w' => ∃ (x66 : Bool), x66 = o67 ∧ Fr 39 a [(0, .pointer (some ⟨b1, 0, none⟩)), (5, .int .i64 x55), (6, .int .u64 x56), (28, .bool x66)] ∧ Hp C w' ρ (Box b1 [v5, .int .i64 x6] :: Arr v5 1 c2 :: hs)) ?_ ?_
  · refine R_nd ?_
    refine nq (v := .bool x57) (Q_move rfl) rfl rfl ?_
    refine nq (v := .bool (!x57)) (Q_not rfl) rfl rfl ?_
    refine nq (v := .bool (!x57)) (Q_move rfl) rfl rfl ?_
    rcases Bool.eq_false_or_eq_true (!x57) with hb | hb
    · rw [hb]
      replace ho67 := itT hb ho67
      refine gs rfl rfl rfl rfl ?_
      refine gs rfl rfl rfl rfl ?_
      refine gs rfl rfl rfl rfl ?_
      refine gs rfl rfl rfl rfl ?_
      refine gs rfl rfl rfl rfl ?_
      refine gs rfl rfl rfl rfl ?_
      refine gs rfl rfl rfl rfl ?_
      refine gs rfl rfl rfl rfl ?_
      refine gs rfl rfl rfl rfl ?_
      refine gs rfl rfl rfl rfl ?_
      refine nq (v := .bool true) (Q_pickT rfl rfl) rfl rfl ?_
      refine WL_nil ?_
      replace H := H.front 1 rfl
      replace H : Hp C wd58 ρ (Arr v5 1 c2 :: Box b1 [v5, .int .i64 x6] :: hs) := H
      replace H := H.front 1 rfl
      replace H : Hp C wd58 ρ (Box b1 [v5, .int .i64 x6] :: Arr v5 1 c2 :: hs) := H
      obtain rfl := Option.some.inj ho67
      refine x_A fun a hf => ⟨true, rfl, hf.sub ⟨rfl, rfl, rfl, rfl, trivial⟩, H⟩
    · rw [hb]
      replace ho67 := itF hb ho67
      refine gq (v := .pointer (some ⟨b1, 0, none⟩)) (Q_move rfl) rfl rfl rfl ?_
      refine gq (v := .pointer (some ⟨b1, 0, none⟩)) (Q_nilP rfl) rfl rfl rfl ?_
      refine gq (v := .pointer (some ⟨b1, 0, none⟩)) (Q_fld Tryd.underlying94 rfl ty92 (by decide) rfl rfl) rfl rfl rfl ?_
      refine gq (v := v5) (Q_ldB (k := 0) (cs := [v5]) H.ok rfl ty92 rfl rfl rfl (fun _ => rfl) rfl) rfl rfl rfl ?_
      refine gq (v := .int .i64 x55) (Q_move rfl) rfl rfl rfl ?_
      obtain ⟨x68, hx68, ho67⟩ := bnd ho67
      obtain ⟨b69, o70, hi74, hc72, ha73⟩ := arr_at (hs := [Arr v5 1 c2]) (k := 0) (by decide) (H.okS (by simp)) rfl r4 hx68
      refine gq (v := .pointer (some ⟨b69, o70, none⟩)) (Q_idx hi74 Tryd.underlying92 ty95 rfl rfl) rfl rfl rfl ?_
      refine gq (v := .int .u64 x68) (Q_ld (show cellsAt _ _ _ [.int .u64 x68] from (show _ = [_] from hc72) ▸ (ha73 _ (Ok.subS (by simp) H.ok))) ty95 rfl (fun _ => rfl) rfl rfl) rfl rfl rfl ?_
      refine gq (v := .int .u64 x56) (Q_move rfl) rfl rfl rfl ?_
      refine gq (v := .int .u64 (iand .u64 x68 x56)) (Q_and rfl rfl) rfl rfl rfl ?_
      refine gq (v := .bool ((iand .u64 x68 x56) != 0)) (Q_neq rfl rfl) rfl rfl rfl ?_
      refine nq (v := .bool ((iand .u64 x68 x56) != 0)) (Q_pickF rfl rfl) rfl rfl ?_
      refine WL_nil ?_
      replace H := H.front 1 rfl
      replace H : Hp C wd58 ρ (Arr v5 1 c2 :: Box b1 [v5, .int .i64 x6] :: hs) := H
      replace H := H.front 1 rfl
      replace H : Hp C wd58 ρ (Box b1 [v5, .int .i64 x6] :: Arr v5 1 c2 :: hs) := H
      obtain rfl := Option.some.inj ho67
      refine x_A fun a hf => ⟨(iand .u64 x68 x56) != 0, rfl, hf.sub ⟨rfl, rfl, rfl, rfl, trivial⟩, H⟩
  · rintro a wd75 ⟨x66, rfl, hf, H⟩
    try dsimp only at hF
    refine CW.at hf ?_
    refine C_cond rfl (fun hb => ?_) (fun hb => ?_)
    · replace hF := itT hb hF
      refine C_seq ?_
      refine R_nd ?_
      refine nq (v := .bool false) (Q_assign rfl) rfl rfl ?_
      refine WL_nil ?_
      refine x_then ?_
      refine CW.sub (E' := [(4, .bool false)]) ⟨rfl, trivial⟩ ?_
      refine C_ret ?_
      refine x_then_ret ?_
      replace H := H.front 1 rfl
      replace H : Hp C wd75 ρ (Arr v5 1 c2 :: Box b1 [v5, .int .i64 x6] :: hs) := H
      replace H := H.front 1 rfl
      replace H : Hp C wd75 ρ (Box b1 [v5, .int .i64 x6] :: Arr v5 1 c2 :: hs) := H
      obtain rfl := Option.some.inj hF
      exact fn_ret (l := [.tmp 4]) (vs := [.bool false]) rfl rfl rfl ⟨c2, x3, false, rfl, rfl, r4, H⟩
    · replace hF := itF hb hF
      refine C_skip ?_
      refine x_then ?_
      refine CW.sub (E' := [(0, .pointer (some ⟨b1, 0, none⟩)), (5, .int .i64 x55), (6, .int .u64 x56)]) ⟨rfl, rfl, rfl, trivial⟩ ?_
      refine C_seq ?_
      refine R_nd ?_
      refine nq (v := .pointer (some ⟨b1, 0, none⟩)) (Q_move rfl) rfl rfl ?_
      refine nq (v := .pointer (some ⟨b1, 0, none⟩)) (Q_nilP rfl) rfl rfl ?_
      refine nq (v := .pointer (some ⟨b1, 0, none⟩)) (Q_fld Tryd.underlying94 rfl ty92 (by decide) rfl rfl) rfl rfl ?_
      refine nq (v := v5) (Q_ldB (k := 0) (cs := [v5]) H.ok rfl ty92 rfl rfl rfl (fun _ => rfl) rfl) rfl rfl ?_
      refine nq (v := .int .i64 x55) (Q_move rfl) rfl rfl ?_
      obtain ⟨x76, hx76, hF⟩ := bnd hF
      obtain ⟨b77, o78, hi82, hc80, ha81⟩ := arr_at (hs := [Arr v5 1 c2]) (k := 0) (by decide) (H.okS (by simp)) rfl r4 hx76
      refine nq (v := .pointer (some ⟨b77, o78, none⟩)) (Q_idx hi82 Tryd.underlying92 ty95 rfl rfl) rfl rfl ?_
      refine nq (v := .int .u64 x76) (Q_ld (show cellsAt _ _ _ [.int .u64 x76] from (show _ = [_] from hc80) ▸ (ha81 _ (Ok.subS (by simp) H.ok))) ty95 rfl (fun _ => rfl) rfl rfl) rfl rfl ?_
      refine nq (v := .int .u64 x56) (Q_move rfl) rfl rfl ?_
      refine nq (v := .int .u64 (ior .u64 x76 x56)) (Q_or rfl rfl) rfl rfl ?_
      obtain ⟨x83, hx83, hF⟩ := bnd hF
      obtain ⟨b84, o85, hi89, hc87, ha88⟩ := arr_at (hs := [Arr v5 1 c2]) (k := 0) (by decide) (H.okS (by simp)) rfl r4 hx83
      refine nq (v := .pointer (some ⟨b84, o85, none⟩)) (Q_idx hi89 Tryd.underlying92 ty95 rfl rfl) rfl rfl ?_
      obtain ⟨x90, hx90, hF⟩ := bnd hF
      obtain ⟨hs91a, hs91b, hs91c⟩ := setI_some hx90
      have r92 : rdL (eI .u64) ρ x90 (setC c2 (x55.toNat * 1 + 0) [.int .u64 (ior .u64 x76 x56)]) := hs91c ▸ rdL.set r4 hs91b (rfl)
      refine ne (E_stA (k := 1) (j := 0) (c := [.int .u64 (ior .u64 x76 x56)]) H rfl ty95 hi89 rfl rfl rfl rfl (one_cons rfl one_nil) (by decide)) rfl rfl ?_
      rintro _ wd93 H
      replace H : Hp C wd93 ρ (Box b1 [v5, .int .i64 x6] :: Arr v5 1 (setC c2 (x55.toNat * 1 + 0) [.int .u64 (ior .u64 x76 x56)]) :: hs) := H
      refine WL_nil ?_
      refine x_then ?_
      refine CW.sub (E' := []) trivial ?_
      refine C_seq ?_
      refine R_nd ?_
      refine nq (v := .bool true) (Q_assign rfl) rfl rfl ?_
      refine WL_nil ?_
      refine x_then ?_
      refine CW.sub (E' := [(4, .bool true)]) ⟨rfl, trivial⟩ ?_
      refine C_ret ?_
      replace H := H.front 1 rfl
      replace H : Hp C wd93 ρ (Arr v5 1 (setC c2 (x55.toNat * 1 + 0) [.int .u64 (ior .u64 x76 x56)]) :: Box b1 [v5, .int .i64 x6] :: hs) := H
      replace H := H.front 1 rfl
      replace H : Hp C wd93 ρ (Box b1 [v5, .int .i64 x6] :: Arr v5 1 (setC c2 (x55.toNat * 1 + 0) [.int .u64 (ior .u64 x76 x56)]) :: hs) := H
      obtain rfl := Option.some.inj hF
      exact fn_ret (l := [.tmp 4]) (vs := [.bool true]) rfl rfl rfl ⟨(setC c2 (x55.toNat * 1 + 0) [.int .u64 (ior .u64 x76 x56)]), x90, true, rfl, rfl, r92, H⟩
theorem c_75 {N : Nat} {C : Cx} {w : World} {ρ : View} {hs : List Hl} {v1 : Value} {b4 : Nat} {b5 : Nat} {c6 : List Value} {v9 : Value} {b11 : Nat} {c12 : List Value} {v15 : Value} {x2 : (List Int)} {x7 : (List Int)} {x10 : Int} {x13 : (List Int)} (H : Hp C w ρ (Box b4 [.pointer (some ⟨b5, 0, none⟩)] :: Box b5 [v9, .int .i64 x10] :: Arr v9 1 c6 :: Box b11 [v15] :: Arr v15 1 c12 :: hs)) (r3 : RdSl ρ (eI .i64) v1 x2) (r8 : rdL (eI .u64) ρ x7 c6) (r14 : rdL (eI .i64) ρ x13 c12) {r : ((List Int) × (List Int))} (hF : F_canon_order_1 N x2 x7 x10 x13 = some r) :
    Calls Tryd.prog 75 [v1, .pointer (some ⟨b4, 0, none⟩), .pointer (some ⟨b11, 0, none⟩)].toArray w (Rets (fun v w' => (∃ (c591 : (List Value)) (v594 : Value) (c595 : (List Value)) (x592 : (List Int)) (x596 : (List Int)), (x592, x596) = r ∧ .tuple [].toArray = v ∧ rdL (eI .u64) ρ x592 c591 ∧ rdL (eI .i64) ρ x596 c595 ∧ Hp C w' ρ (Box b4 [.pointer (some ⟨b5, 0, none⟩)] :: Box b5 [v9, .int .i64 x10] :: Arr v9 1 c591 :: Box b11 [v594] :: Arr v594 1 c595 :: hs)))) := by
  unfold F_canon_order_1 at hF
  have h0 : Tryd.f75.body = some _ := rfl
  refine fn_calls' Tryd.func75 h0 (n := 20) rfl (by simp) ?_
  refine C_seq ?_
  refine R_nd ?_
  refine nq (v := v1) (Q_move rfl) rfl rfl ?_
  refine nq (v := .int .i64 (x2.length : Int)) (Q_len Tryd.underlying23 rfl r3) rfl rfl ?_
  refine nq (v := .int .i64 0) (Q_move rfl) rfl rfl ?_
  refine WL_nil ?_
  refine x_then ?_
  refine CW.sub (E' := [(1, .pointer (some ⟨b4, 0, none⟩)), (2, .pointer (some ⟨b11, 0, none⟩)), (6, v1), (7, .int .i64 (x2.length : Int)), (8, .int .i64 0)]) ⟨rfl, rfl, rfl, rfl, rfl, trivial⟩ ?_
  obtain ⟨o888, ho888, hF⟩ := bnd hF
  refine C_cutQ (fun a w' => ∃ (c881 : (List Value)) (v884 : Value) (c885 : (List Value)) (x882 : (List Int)) (x886 : (List Int)), (x882, x886) = o888 ∧ rdL (eI .u64) ρ x882 c881 ∧ rdL (eI .i64) ρ x886 c885 ∧ Fr 20 a [] ∧ Hp C w' ρ (Box b4 [.pointer (some ⟨b5, 0, none⟩)] :: Box b5 [v9, .int .i64 x10] :: Arr v9 1 c881 :: Box b11 [v884] :: Arr v884 1 c885 :: hs)) ?_ ?_
  · refine C_block ?_
    replace H := H.front 4 rfl
    replace H : Hp C w ρ (Arr v15 1 c12 :: Box b4 [.pointer (some ⟨b5, 0, none⟩)] :: Box b5 [v9, .int .i64 x10] :: Arr v9 1 c6 :: Box b11 [v15] :: hs) := H
    replace H := H.front 4 rfl
    replace H : Hp C w ρ (Box b11 [v15] :: Arr v15 1 c12 :: Box b4 [.pointer (some ⟨b5, 0, none⟩)] :: Box b5 [v9, .int .i64 x10] :: Arr v9 1 c6 :: hs) := H
    replace H := H.front 4 rfl
    replace H : Hp C w ρ (Arr v9 1 c6 :: Box b11 [v15] :: Arr v15 1 c12 :: Box b4 [.pointer (some ⟨b5, 0, none⟩)] :: Box b5 [v9, .int .i64 x10] :: hs) := H
    replace H := H.front 4 rfl
    replace H : Hp C w ρ (Box b5 [v9, .int .i64 x10] :: Arr v9 1 c6 :: Box b11 [v15] :: Arr v15 1 c12 :: Box b4 [.pointer (some ⟨b5, 0, none⟩)] :: hs) := H
    replace H := H.front 4 rfl
    replace H : Hp C w ρ (Box b4 [.pointer (some ⟨b5, 0, none⟩)] :: Box b5 [v9, .int .i64 x10] :: Arr v9 1 c6 :: Box b11 [v15] :: Arr v15 1 c12 :: hs) := H
    refine C_iter (f := fun s => F_canon_order_1_l0 N x2 x10 s.1 s.2.1 s.2.2) ho888 (fun s a w' => ∃ (c982 : (List Value)) (v985 : Value) (c986 : (List Value)) (x983 : (List Int)) (x987 : (List Int)) (x989 : Int), (x983, x987, x989) = s ∧ rdL (eI .u64) ρ x983 c982 ∧ rdL (eI .i64) ρ x987 c986 ∧ Fr 20 a [(1, .pointer (some ⟨b4, 0, none⟩)), (2, .pointer (some ⟨b11, 0, none⟩)), (6, v1), (7, .int .i64 (x2.length : Int)), (8, .int .i64 x989)] ∧ Hp C w' ρ (Box b4 [.pointer (some ⟨b5, 0, none⟩)] :: Box b5 [v9, .int .i64 x10] :: Arr v9 1 c982 :: Box b11 [v985] :: Arr v985 1 c986 :: hs)) ?_ ?_
    · exact fun a hf => ⟨c6, v15, c12, x7, x13, 0, rfl, r8, r14, hf.sub ⟨rfl, rfl, rfl, rfl, rfl, trivial⟩, H⟩
    · rintro s o1083 a wd1086 ⟨c982, v985, c986, x983, x987, x989, rfl, r984, r988, hf, H⟩ hB1084 hO1085
      replace hB1084 : F_canon_order_1_l0 N x2 x10 x983 x987 x989 = some o1083 := hB1084
      unfold F_canon_order_1_l0 at hB1084
      refine CW.at hf ?_
      refine C_seq ?_
      refine R_nd ?_
      refine nq (v := .bool (decide (x989 < (x2.length : Int)))) (Q_lss rfl rfl) rfl rfl ?_
      refine WL_nil ?_
      refine x_then ?_
      refine CW.sub (E' := [(1, .pointer (some ⟨b4, 0, none⟩)), (2, .pointer (some ⟨b11, 0, none⟩)), (6, v1), (7, .int .i64 (x2.length : Int)), (8, .int .i64 x989), (9, .bool (decide (x989 < (x2.length : Int))))]) ⟨rfl, rfl, rfl, rfl, rfl, rfl, trivial⟩ ?_
      refine C_seq ?_
      refine C_cond rfl (fun hb => ?_) (fun hb => ?_)
      · replace hB1084 := itT hb hB1084
        refine C_skip ?_
        refine x_then ?_
        refine CW.sub (E' := [(1, .pointer (some ⟨b4, 0, none⟩)), (2, .pointer (some ⟨b11, 0, none⟩)), (6, v1), (7, .int .i64 (x2.length : Int)), (8, .int .i64 x989)]) ⟨rfl, rfl, rfl, rfl, rfl, trivial⟩ ?_
        obtain ⟨o1132, ho1132, hB1084⟩ := bnd hB1084
        refine C_cut (fun a w' => ∃ (c1125 : (List Value)) (v1128 : Value) (c1129 : (List Value)) (x1126 : (List Int)) (x1130 : (List Int)), (x1126, x1130) = o1132 ∧ rdL (eI .u64) ρ x1126 c1125 ∧ rdL (eI .i64) ρ x1130 c1129 ∧ Fr 20 a [(1, .pointer (some ⟨b4, 0, none⟩)), (2, .pointer (some ⟨b11, 0, none⟩)), (6, v1), (7, .int .i64 (x2.length : Int)), (8, .int .i64 x989)] ∧ Hp C w' ρ (Box b4 [.pointer (some ⟨b5, 0, none⟩)] :: Box b5 [v9, .int .i64 x10] :: Arr v9 1 c1125 :: Box b11 [v1128] :: Arr v1128 1 c1129 :: hs)) ?_ ?_
        · refine C_block ?_
          refine C_seq ?_
          refine R_nd ?_
          obtain ⟨x1133, hx1133, ho1132⟩ := bnd ho1132
          obtain ⟨b1134, o1135, c1136, hc1137, ha1138, hi1139⟩ := idxR r3 hx1133
          refine nq (v := .pointer (some ⟨b1134, o1135, none⟩)) (Q_idx hi1139 Tryd.underlying23 ty3 rfl rfl) rfl rfl ?_
          refine nq (v := .int .i64 x1133) (Q_ld (show cellsAt _ _ _ [.int .i64 x1133] from (show _ = [_] from hc1137) ▸ (ha1138.up H.ok.view)) ty3 rfl (fun _ => rfl) rfl rfl) rfl rfl ?_
          refine nq (v := .int .i64 x1133) (Q_assign rfl) rfl rfl ?_
          refine WL_nil ?_
          refine x_then ?_
          refine CW.sub (E' := [(1, .pointer (some ⟨b4, 0, none⟩)), (2, .pointer (some ⟨b11, 0, none⟩)), (5, .int .i64 x1133), (6, v1), (7, .int .i64 (x2.length : Int)), (8, .int .i64 x989)]) ⟨rfl, rfl, rfl, rfl, rfl, rfl, trivial⟩ ?_
          refine C_seq ?_
          refine R_nd ?_
          refine nq (v := .pointer (some ⟨b5, 0, none⟩)) (Q_ldB (k := 0) (cs := [.pointer (some ⟨b5, 0, none⟩)]) H.ok rfl ty61 rfl rfl rfl (fun _ => rfl) rfl) rfl rfl ?_
          refine nq (v := .int .i64 x1133) (Q_move rfl) rfl rfl ?_
          replace H := H.front 2 rfl
          replace H : Hp C wd1086 ρ (Arr v9 1 c982 :: Box b4 [.pointer (some ⟨b5, 0, none⟩)] :: Box b5 [v9, .int .i64 x10] :: Box b11 [v985] :: Arr v985 1 c986 :: hs) := H
          replace H := H.front 2 rfl
          replace H : Hp C wd1086 ρ (Box b5 [v9, .int .i64 x10] :: Arr v9 1 c982 :: Box b4 [.pointer (some ⟨b5, 0, none⟩)] :: Box b11 [v985] :: Arr v985 1 c986 :: hs) := H
          obtain ⟨q1140, hq1140, ho1132⟩ := bnd ho1132
          refine ne (E_call fn52 rfl (c_52 H  r984 hq1140)) rfl rfl ?_
          rintro _ wd1146 ⟨c1142, x1143, x1144, rfl, rfl, r1145, H⟩
          try dsimp only at ho1132
          replace H : Hp C wd1146 ρ (Box b5 [v9, .int .i64 x10] :: Arr v9 1 c1142 :: Box b4 [.pointer (some ⟨b5, 0, none⟩)] :: Box b11 [v985] :: Arr v985 1 c986 :: hs) := H
          refine WL_nil ?_
          refine x_then ?_
          refine CW.sub (E' := [(1, .pointer (some ⟨b4, 0, none⟩)), (2, .pointer (some ⟨b11, 0, none⟩)), (5, .int .i64 x1133), (6, v1), (7, .int .i64 (x2.length : Int)), (8, .int .i64 x989), (14, .bool x1144)]) ⟨rfl, rfl, rfl, rfl, rfl, rfl, rfl, trivial⟩ ?_
          obtain ⟨o1160, ho1160, ho1132⟩ := bnd ho1132
          refine C_cutQ (fun a w' => ∃ (v1156 : Value) (c1157 : (List Value)) (x1158 : (List Int)), x1158 = o1160 ∧ rdL (eI .i64) ρ x1158 c1157 ∧ Fr 20 a [(1, .pointer (some ⟨b4, 0, none⟩)), (2, .pointer (some ⟨b11, 0, none⟩)), (6, v1), (7, .int .i64 (x2.length : Int)), (8, .int .i64 x989)] ∧ Hp C w' ρ (Box b4 [.pointer (some ⟨b5, 0, none⟩)] :: Box b5 [v9, .int .i64 x10] :: Arr v9 1 c1142 :: Box b11 [v1156] :: Arr v1156 1 c1157 :: hs)) ?_ ?_
          · refine C_cond rfl (fun hb => ?_) (fun hb => ?_)
            · replace ho1160 := itT hb ho1160
              refine R_nd ?_
              refine nq (v := v985) (Q_ldB (k := 3) (cs := [v985]) H.ok rfl ty23 rfl rfl rfl (fun _ => rfl) rfl) rfl rfl ?_
              refine nq (v := .int .i64 x1133) (Q_move rfl) rfl rfl ?_
              refine ne (E_bslice (xs := [.tmp 16]) (vs := [.int .i64 x1133]) H Tryd.underlying23 ty3 (by decide) (cs := [.int .i64 x1133]) rfl (sz_cons rfl sz_nil) rfl (by simp) (by simp) rfl rfl) rfl rfl ?_
              rintro _ wd1162 ⟨b1161, rfl, H⟩
              replace H : Hp C wd1162 ρ (Arr (.slice (some ⟨b1161, 0, none⟩) 1 1) 1 ([.int .i64 x1133]) :: Box b5 [v9, .int .i64 x10] :: Arr v9 1 c1142 :: Box b4 [.pointer (some ⟨b5, 0, none⟩)] :: Box b11 [v985] :: Arr v985 1 c986 :: hs) := H
              obtain ⟨x1163, hx1163, ho1160⟩ := bnd ho1160
              obtain ⟨ha1164a, ha1164b⟩ := app_some hx1163
              have r1166 : rdL (eI .i64) ρ x1163 (c986 ++ ([.int .i64 x1133])) := ha1164b ▸ rdL.app r988 (show rdL (eI .i64) ρ ([x1133]) ([.int .i64 x1133]) from ⟨([.int .i64 x1133]), _, rfl, rfl, rdL.nil⟩)
              refine ne (E_append (k := 5) H rfl Tryd.underlying23 ty3 rfl (by decide) (by decide) rfl rfl (Src.ofArr (k := 0) H.ok rfl) (rdL.one (show rdL (eI .i64) ρ ([x1133]) ([.int .i64 x1133]) from ⟨([.int .i64 x1133]), _, rfl, rfl, rdL.nil⟩)) (app_fit r988 (show rdL (eI .i64) ρ ([x1133]) ([.int .i64 x1133]) from ⟨([.int .i64 x1133]), _, rfl, rfl, rdL.nil⟩) ha1164a)) rfl rfl ?_
              rintro v1165 wd1168 ⟨H, hc1167⟩
              replace H : Hp C wd1168 ρ (Arr (.slice (some ⟨b1161, 0, none⟩) 1 1) 1 ([.int .i64 x1133]) :: Box b5 [v9, .int .i64 x10] :: Arr v9 1 c1142 :: Box b4 [.pointer (some ⟨b5, 0, none⟩)] :: Box b11 [v985] :: Arr v1165 1 (c986 ++ ([.int .i64 x1133])) :: hs) := H
              refine ne (E_stB (k := 4) (cs := [v1165]) (vs' := [v1165]) H rfl ty23 rfl rfl (arr_cells (H.ok.get (k := 5) rfl)).1 rfl (one_cons (arr_cells (H.ok.get (k := 5) rfl)).2 one_nil) (by simp) rfl) rfl rfl ?_
              rintro _ wd1169 H
              replace H : Hp C wd1169 ρ (Arr (.slice (some ⟨b1161, 0, none⟩) 1 1) 1 ([.int .i64 x1133]) :: Box b5 [v9, .int .i64 x10] :: Arr v9 1 c1142 :: Box b4 [.pointer (some ⟨b5, 0, none⟩)] :: Box b11 [v1165] :: Arr v1165 1 (c986 ++ ([.int .i64 x1133])) :: hs) := H
              refine WL_nil ?_
              replace H := H.front 5 rfl
              replace H : Hp C wd1169 ρ (Arr v1165 1 (c986 ++ ([.int .i64 x1133])) :: Arr (.slice (some ⟨b1161, 0, none⟩) 1 1) 1 ([.int .i64 x1133]) :: Box b5 [v9, .int .i64 x10] :: Arr v9 1 c1142 :: Box b4 [.pointer (some ⟨b5, 0, none⟩)] :: Box b11 [v1165] :: hs) := H
              replace H := H.front 5 rfl
              replace H : Hp C wd1169 ρ (Box b11 [v1165] :: Arr v1165 1 (c986 ++ ([.int .i64 x1133])) :: Arr (.slice (some ⟨b1161, 0, none⟩) 1 1) 1 ([.int .i64 x1133]) :: Box b5 [v9, .int .i64 x10] :: Arr v9 1 c1142 :: Box b4 [.pointer (some ⟨b5, 0, none⟩)] :: hs) := H
              replace H := H.front 4 rfl
              replace H : Hp C wd1169 ρ (Arr v9 1 c1142 :: Box b11 [v1165] :: Arr v1165 1 (c986 ++ ([.int .i64 x1133])) :: Arr (.slice (some ⟨b1161, 0, none⟩) 1 1) 1 ([.int .i64 x1133]) :: Box b5 [v9, .int .i64 x10] :: Box b4 [.pointer (some ⟨b5, 0, none⟩)] :: hs) := H
              replace H := H.front 4 rfl
              replace H : Hp C wd1169 ρ (Box b5 [v9, .int .i64 x10] :: Arr v9 1 c1142 :: Box b11 [v1165] :: Arr v1165 1 (c986 ++ ([.int .i64 x1133])) :: Arr (.slice (some ⟨b1161, 0, none⟩) 1 1) 1 ([.int .i64 x1133]) :: Box b4 [.pointer (some ⟨b5, 0, none⟩)] :: hs) := H
              replace H := H.front 5 rfl
              replace H : Hp C wd1169 ρ (Box b4 [.pointer (some ⟨b5, 0, none⟩)] :: Box b5 [v9, .int .i64 x10] :: Arr v9 1 c1142 :: Box b11 [v1165] :: Arr v1165 1 (c986 ++ ([.int .i64 x1133])) :: Arr (.slice (some ⟨b1161, 0, none⟩) 1 1) 1 ([.int .i64 x1133]) :: hs) := H
              replace H := H.drop 5 rfl
              replace H : Hp C wd1169 ρ (Box b4 [.pointer (some ⟨b5, 0, none⟩)] :: Box b5 [v9, .int .i64 x10] :: Arr v9 1 c1142 :: Box b11 [v1165] :: Arr v1165 1 (c986 ++ ([.int .i64 x1133])) :: hs) := H
              obtain rfl := Option.some.inj ho1160
              refine x_A fun a hf => ⟨v1165, (c986 ++ ([.int .i64 x1133])), x1163, rfl, r1166, hf.sub ⟨rfl, rfl, rfl, rfl, rfl, trivial⟩, H⟩
            · replace ho1160 := itF hb ho1160
              refine C_skip ?_
              replace H := H.front 4 rfl
              replace H : Hp C wd1146 ρ (Arr v985 1 c986 :: Box b5 [v9, .int .i64 x10] :: Arr v9 1 c1142 :: Box b4 [.pointer (some ⟨b5, 0, none⟩)] :: Box b11 [v985] :: hs) := H
              replace H := H.front 4 rfl
              replace H : Hp C wd1146 ρ (Box b11 [v985] :: Arr v985 1 c986 :: Box b5 [v9, .int .i64 x10] :: Arr v9 1 c1142 :: Box b4 [.pointer (some ⟨b5, 0, none⟩)] :: hs) := H
              replace H := H.front 3 rfl
              replace H : Hp C wd1146 ρ (Arr v9 1 c1142 :: Box b11 [v985] :: Arr v985 1 c986 :: Box b5 [v9, .int .i64 x10] :: Box b4 [.pointer (some ⟨b5, 0, none⟩)] :: hs) := H
              replace H := H.front 3 rfl
              replace H : Hp C wd1146 ρ (Box b5 [v9, .int .i64 x10] :: Arr v9 1 c1142 :: Box b11 [v985] :: Arr v985 1 c986 :: Box b4 [.pointer (some ⟨b5, 0, none⟩)] :: hs) := H
              replace H := H.front 4 rfl
              replace H : Hp C wd1146 ρ (Box b4 [.pointer (some ⟨b5, 0, none⟩)] :: Box b5 [v9, .int .i64 x10] :: Arr v9 1 c1142 :: Box b11 [v985] :: Arr v985 1 c986 :: hs) := H
              obtain rfl := Option.some.inj ho1160
              refine x_A fun a hf => ⟨v985, c986, x987, rfl, r988, hf.sub ⟨rfl, rfl, rfl, rfl, rfl, trivial⟩, H⟩
          · rintro a wd1170 ⟨v1156, c1157, x1158, rfl, r1159, hf, H⟩
            try dsimp only at ho1132
            refine XX.at hf ?_
            refine x_block ?_
            replace H := H.front 4 rfl
            replace H : Hp C wd1170 ρ (Arr v1156 1 c1157 :: Box b4 [.pointer (some ⟨b5, 0, none⟩)] :: Box b5 [v9, .int .i64 x10] :: Arr v9 1 c1142 :: Box b11 [v1156] :: hs) := H
            replace H := H.front 4 rfl
            replace H : Hp C wd1170 ρ (Box b11 [v1156] :: Arr v1156 1 c1157 :: Box b4 [.pointer (some ⟨b5, 0, none⟩)] :: Box b5 [v9, .int .i64 x10] :: Arr v9 1 c1142 :: hs) := H
            replace H := H.front 4 rfl
            replace H : Hp C wd1170 ρ (Arr v9 1 c1142 :: Box b11 [v1156] :: Arr v1156 1 c1157 :: Box b4 [.pointer (some ⟨b5, 0, none⟩)] :: Box b5 [v9, .int .i64 x10] :: hs) := H
            replace H := H.front 4 rfl
            replace H : Hp C wd1170 ρ (Box b5 [v9, .int .i64 x10] :: Arr v9 1 c1142 :: Box b11 [v1156] :: Arr v1156 1 c1157 :: Box b4 [.pointer (some ⟨b5, 0, none⟩)] :: hs) := H
            replace H := H.front 4 rfl
            replace H : Hp C wd1170 ρ (Box b4 [.pointer (some ⟨b5, 0, none⟩)] :: Box b5 [v9, .int .i64 x10] :: Arr v9 1 c1142 :: Box b11 [v1156] :: Arr v1156 1 c1157 :: hs) := H
            obtain rfl := Option.some.inj ho1132
            refine x_A fun a hf => ⟨c1142, v1156, c1157, x1143, x1158, rfl, r1145, r1159, hf.sub ⟨rfl, rfl, rfl, rfl, rfl, trivial⟩, H⟩
        · rintro a wd1171 ⟨c1125, v1128, c1129, x1126, x1130, rfl, r1127, r1131, hf, H⟩
          try dsimp only at hB1084
          refine CW.at hf ?_
          refine R_nd ?_
          refine nq (v := .int .i64 (w64 (x989 + 1))) (Q_add rfl rfl) rfl rfl ?_
          refine nq (v := .int .i64 (w64 (x989 + 1))) (Q_move rfl) rfl rfl ?_
          refine WL_nil ?_
          replace H := H.front 4 rfl
          replace H : Hp C wd1171 ρ (Arr v1128 1 c1129 :: Box b4 [.pointer (some ⟨b5, 0, none⟩)] :: Box b5 [v9, .int .i64 x10] :: Arr v9 1 c1125 :: Box b11 [v1128] :: hs) := H
          replace H := H.front 4 rfl
          replace H : Hp C wd1171 ρ (Box b11 [v1128] :: Arr v1128 1 c1129 :: Box b4 [.pointer (some ⟨b5, 0, none⟩)] :: Box b5 [v9, .int .i64 x10] :: Arr v9 1 c1125 :: hs) := H
          replace H := H.front 4 rfl
          replace H : Hp C wd1171 ρ (Arr v9 1 c1125 :: Box b11 [v1128] :: Arr v1128 1 c1129 :: Box b4 [.pointer (some ⟨b5, 0, none⟩)] :: Box b5 [v9, .int .i64 x10] :: hs) := H
          replace H := H.front 4 rfl
          replace H : Hp C wd1171 ρ (Box b5 [v9, .int .i64 x10] :: Arr v9 1 c1125 :: Box b11 [v1128] :: Arr v1128 1 c1129 :: Box b4 [.pointer (some ⟨b5, 0, none⟩)] :: hs) := H
          replace H := H.front 4 rfl
          replace H : Hp C wd1171 ρ (Box b4 [.pointer (some ⟨b5, 0, none⟩)] :: Box b5 [v9, .int .i64 x10] :: Arr v9 1 c1125 :: Box b11 [v1128] :: Arr v1128 1 c1129 :: hs) := H
          obtain rfl := Option.some.inj hB1084
          refine x_A fun a hf => ⟨_, rfl, c1125, v1128, c1129, x1126, x1130, w64 (x989 + 1), rfl, r1127, r1131, hf.sub ⟨rfl, rfl, rfl, rfl, rfl, trivial⟩, H⟩
      · replace hB1084 := itF hb hB1084
        refine C_exit ?_
        refine x_then_exit ?_
        refine x_then_exit ?_
        refine x_block_exit ?_
        replace H := H.front 4 rfl
        replace H : Hp C wd1086 ρ (Arr v985 1 c986 :: Box b4 [.pointer (some ⟨b5, 0, none⟩)] :: Box b5 [v9, .int .i64 x10] :: Arr v9 1 c982 :: Box b11 [v985] :: hs) := H
        replace H := H.front 4 rfl
        replace H : Hp C wd1086 ρ (Box b11 [v985] :: Arr v985 1 c986 :: Box b4 [.pointer (some ⟨b5, 0, none⟩)] :: Box b5 [v9, .int .i64 x10] :: Arr v9 1 c982 :: hs) := H
        replace H := H.front 4 rfl
        replace H : Hp C wd1086 ρ (Arr v9 1 c982 :: Box b11 [v985] :: Arr v985 1 c986 :: Box b4 [.pointer (some ⟨b5, 0, none⟩)] :: Box b5 [v9, .int .i64 x10] :: hs) := H
        replace H := H.front 4 rfl
        replace H : Hp C wd1086 ρ (Box b5 [v9, .int .i64 x10] :: Arr v9 1 c982 :: Box b11 [v985] :: Arr v985 1 c986 :: Box b4 [.pointer (some ⟨b5, 0, none⟩)] :: hs) := H
        replace H := H.front 4 rfl
        replace H : Hp C wd1086 ρ (Box b4 [.pointer (some ⟨b5, 0, none⟩)] :: Box b5 [v9, .int .i64 x10] :: Arr v9 1 c982 :: Box b11 [v985] :: Arr v985 1 c986 :: hs) := H
        obtain rfl := Option.some.inj hB1084
        obtain rfl := hO1085 _ rfl
        refine x_A fun a hf => ⟨c982, v985, c986, x983, x987, rfl, r984, r988, hf.sub trivial, H⟩
  · rintro a wd1172 ⟨c881, v884, c885, x882, x886, rfl, r883, r887, hf, H⟩
    try dsimp only at hF
    refine XX.at hf ?_
    replace H := H.front 4 rfl
    replace H : Hp C wd1172 ρ (Arr v884 1 c885 :: Box b4 [.pointer (some ⟨b5, 0, none⟩)] :: Box b5 [v9, .int .i64 x10] :: Arr v9 1 c881 :: Box b11 [v884] :: hs) := H
    replace H := H.front 4 rfl
    replace H : Hp C wd1172 ρ (Box b11 [v884] :: Arr v884 1 c885 :: Box b4 [.pointer (some ⟨b5, 0, none⟩)] :: Box b5 [v9, .int .i64 x10] :: Arr v9 1 c881 :: hs) := H
    replace H := H.front 4 rfl
    replace H : Hp C wd1172 ρ (Arr v9 1 c881 :: Box b11 [v884] :: Arr v884 1 c885 :: Box b4 [.pointer (some ⟨b5, 0, none⟩)] :: Box b5 [v9, .int .i64 x10] :: hs) := H
    replace H := H.front 4 rfl
    replace H : Hp C wd1172 ρ (Box b5 [v9, .int .i64 x10] :: Arr v9 1 c881 :: Box b11 [v884] :: Arr v884 1 c885 :: Box b4 [.pointer (some ⟨b5, 0, none⟩)] :: hs) := H
    replace H := H.front 4 rfl
    replace H : Hp C wd1172 ρ (Box b4 [.pointer (some ⟨b5, 0, none⟩)] :: Box b5 [v9, .int .i64 x10] :: Arr v9 1 c881 :: Box b11 [v884] :: Arr v884 1 c885 :: hs) := H
    obtain rfl := Option.some.inj hF
    exact fn_end (l := []) (vs := []) rfl rfl rfl ⟨c881, v884, c885, x882, x886, rfl, rfl, r883, r887, H⟩
theorem c_50 {N : Nat} {C : Cx} {w : World} {ρ : View} {hs : List Hl} {v1 : Value} {v4 : Value} {v7 : Value} {x2 : (List (List Int))} {x5 : (List Int)} {x8 : (List Int)} (H : Hp C w ρ (hs)) {ge0 : Value} (gl0 : GErr ρ 0 ge0) (r3 : RdSl ρ (eA 256 (eI .i64)) v1 x2) (r6 : RdSl ρ (eI .i64) v4 x5) (r9 : RdSl ρ (eI .i64) v7 x8) {r : (List Int)} (hF : F_canon_order N x2 x5 x8 = some r) :
    Calls Tryd.prog 50 [.agg #[v1, v4, v7]].toArray w (Rets (fun v w' => (∃ (v254 : Value) (c255 : (List Value)) (x256 : (List Int)), x256 = r ∧ v254 = v ∧ rdL (eI .i64) ρ x256 c255 ∧ Hp C w' ρ (Arr v254 1 c255 :: hs)))) := by
  unfold F_canon_order at hF
  have h0 : Tryd.f50.body = some _ := rfl
  refine fn_calls' Tryd.func50 h0 (n := 42) rfl (by simp) ?_
  refine C_seq ?_
  refine R_nd ?_
  refine ne (E_box H (vs := [v1, v4, v7]) rfl rfl) rfl rfl ?_
  rintro _ wd259 ⟨b258, rfl, H⟩
  replace H : Hp C wd259 ρ (Box b258 [v1, v4, v7] :: hs) := H
  refine nq (v := .slice none 0 0) (Q_assign rfl) rfl rfl ?_
  refine WL_nil ?_
  refine x_then ?_
  refine CW.sub (E' := [(1, .pointer (some ⟨b258, 0, none⟩))]) ⟨rfl, trivial⟩ ?_
  refine C_seq ?_
  refine R_nd ?_
  refine nq (v := .pointer (some ⟨b258, 0, none⟩)) (Q_fld Tryd.underlying25 rfl ty22 (by decide) rfl rfl) rfl rfl ?_
  refine nq (v := v1) (Q_ldB (k := 0) (cs := [v1]) H.ok rfl ty22 rfl rfl rfl (fun _ => rfl) rfl) rfl rfl ?_
  refine nq (v := .int .i64 (x2.length : Int)) (Q_len Tryd.underlying22 rfl r3) rfl rfl ?_
  obtain ⟨q260, hq260, hF⟩ := bnd hF
  refine ne (E_call fn51 rfl (c_51 H gl0  hq260)) rfl rfl ?_
  rintro _ wd267 (⟨rfl, rfl, H⟩ | ⟨b262, v263, c264, x265, rfl, rfl, r266, H⟩)
  · try dsimp only at hF
    replace H : Hp C wd267 ρ (Box b258 [v1, v4, v7] :: hs) := H
    refine nq (v := .tuple [.pointer none, ge0].toArray) (Q_move rfl) rfl rfl ?_
    refine nq (v := .pointer none) (Q_extract rfl rfl) rfl rfl ?_
    refine nq (v := ge0) (Q_extract rfl rfl) rfl rfl ?_
    refine ne (E_alloc H ty61 (zs := [.pointer none]) rfl) rfl rfl ?_
    rintro _ wd269 ⟨b268, rfl, H⟩
    replace H : Hp C wd269 ρ (Box b268 [.pointer none] :: Box b258 [v1, v4, v7] :: hs) := H
    refine ne (E_stB (k := 0) (cs := [.pointer none]) (vs' := [.pointer none]) H rfl ty61 rfl rfl rfl rfl (one_cons rfl one_nil) (by simp) rfl) rfl rfl ?_
    rintro _ wd270 H
    replace H : Hp C wd270 ρ (Box b268 [.pointer none] :: Box b258 [v1, v4, v7] :: hs) := H
    refine nq (v := ge0) (Q_assign rfl) rfl rfl ?_
    refine WL_nil ?_
    refine x_then ?_
    refine CW.sub (E' := [(1, .pointer (some ⟨b258, 0, none⟩)), (3, .pointer (some ⟨b268, 0, none⟩)), (4, ge0)]) ⟨rfl, rfl, rfl, trivial⟩ ?_
    refine C_seq ?_
    refine C_seq ?_
    refine R_nd ?_
    refine nq (v := ge0) (Q_move rfl) rfl rfl ?_
    refine nq (v := .bool true) (Q_neqE Tryd.underlying63 gl0 rfl) rfl rfl ?_
    refine WL_nil ?_
    refine x_then ?_
    refine CW.sub (E' := [(1, .pointer (some ⟨b258, 0, none⟩)), (3, .pointer (some ⟨b268, 0, none⟩)), (16, .bool true)]) ⟨rfl, rfl, rfl, trivial⟩ ?_
    refine C_cond rfl (fun _ => ?_) (fun h => nomatch h)
    refine C_seq ?_
    refine R_nd ?_
    refine nq (v := .slice none 0 0) (Q_assign rfl) rfl rfl ?_
    refine WL_nil ?_
    refine x_then ?_
    refine CW.sub (E' := [(2, .slice none 0 0)]) ⟨rfl, trivial⟩ ?_
    refine C_ret ?_
    refine x_then_ret ?_
    have H := H.nilArr 1
    replace H : Hp C wd270 ρ (Arr (.slice none 0 0) 1 ([]) :: Box b268 [.pointer none] :: Box b258 [v1, v4, v7] :: hs) := H
    replace H := H.drop 1 rfl
    replace H : Hp C wd270 ρ (Arr (.slice none 0 0) 1 ([]) :: Box b258 [v1, v4, v7] :: hs) := H
    replace H := H.drop 1 rfl
    replace H : Hp C wd270 ρ (Arr (.slice none 0 0) 1 ([]) :: hs) := H
    obtain rfl := Option.some.inj hF
    exact fn_ret (l := [.tmp 2]) (vs := [(.slice none 0 0)]) rfl rfl rfl ⟨(.slice none 0 0), [], [], rfl, rfl, rdL.nil, H⟩
  · try dsimp only at hF
    replace H : Hp C wd267 ρ (Box b262 [v263, .int .i64 (x2.length : Int)] :: Arr v263 1 c264 :: Box b258 [v1, v4, v7] :: hs) := H
    refine nq (v := .tuple [.pointer (some ⟨b262, 0, none⟩), .nilIface].toArray) (Q_move rfl) rfl rfl ?_
    refine nq (v := .pointer (some ⟨b262, 0, none⟩)) (Q_extract rfl rfl) rfl rfl ?_
    refine nq (v := .nilIface) (Q_extract rfl rfl) rfl rfl ?_
    refine ne (E_alloc H ty61 (zs := [.pointer none]) rfl) rfl rfl ?_
    rintro _ wd272 ⟨b271, rfl, H⟩
    replace H : Hp C wd272 ρ (Box b271 [.pointer none] :: Box b262 [v263, .int .i64 (x2.length : Int)] :: Arr v263 1 c264 :: Box b258 [v1, v4, v7] :: hs) := H
    refine ne (E_stB (k := 0) (cs := [.pointer (some ⟨b262, 0, none⟩)]) (vs' := [.pointer (some ⟨b262, 0, none⟩)]) H rfl ty61 rfl rfl rfl rfl (one_cons rfl one_nil) (by simp) rfl) rfl rfl ?_
    rintro _ wd273 H
    replace H : Hp C wd273 ρ (Box b271 [.pointer (some ⟨b262, 0, none⟩)] :: Box b262 [v263, .int .i64 (x2.length : Int)] :: Arr v263 1 c264 :: Box b258 [v1, v4, v7] :: hs) := H
    refine nq (v := .nilIface) (Q_assign rfl) rfl rfl ?_
    refine WL_nil ?_
    refine x_then ?_
    refine CW.sub (E' := [(1, .pointer (some ⟨b258, 0, none⟩)), (3, .pointer (some ⟨b271, 0, none⟩)), (4, .nilIface)]) ⟨rfl, rfl, rfl, trivial⟩ ?_
    refine C_seq ?_
    refine C_seq ?_
    refine R_nd ?_
    refine nq (v := .nilIface) (Q_move rfl) rfl rfl ?_
    refine nq (v := .bool false) (Q_neqN Tryd.underlying63 rfl) rfl rfl ?_
    refine WL_nil ?_
    refine x_then ?_
    refine CW.sub (E' := [(1, .pointer (some ⟨b258, 0, none⟩)), (3, .pointer (some ⟨b271, 0, none⟩)), (16, .bool false)]) ⟨rfl, rfl, rfl, trivial⟩ ?_
    refine C_cond rfl (fun h => nomatch h) (fun _ => ?_)
    refine C_skip ?_
    refine x_then ?_
    refine CW.sub (E' := [(1, .pointer (some ⟨b258, 0, none⟩)), (3, .pointer (some ⟨b271, 0, none⟩))]) ⟨rfl, rfl, trivial⟩ ?_
    refine C_seq ?_
    refine R_nd ?_
    refine nq (v := .pointer (some ⟨b262, 0, none⟩)) (Q_ldB (k := 0) (cs := [.pointer (some ⟨b262, 0, none⟩)]) H.ok rfl ty61 rfl rfl rfl (fun _ => rfl) rfl) rfl rfl ?_
    replace H := H.front 2 rfl
    replace H : Hp C wd273 ρ (Arr v263 1 c264 :: Box b271 [.pointer (some ⟨b262, 0, none⟩)] :: Box b262 [v263, .int .i64 (x2.length : Int)] :: Box b258 [v1, v4, v7] :: hs) := H
    replace H := H.front 2 rfl
    replace H : Hp C wd273 ρ (Box b262 [v263, .int .i64 (x2.length : Int)] :: Arr v263 1 c264 :: Box b271 [.pointer (some ⟨b262, 0, none⟩)] :: Box b258 [v1, v4, v7] :: hs) := H
    obtain ⟨q274, hq274, hF⟩ := bnd hF
    refine ne (E_call fn52 rfl (c_52 H  r266 hq274)) rfl rfl ?_
    rintro _ wd280 ⟨c276, x277, x278, rfl, rfl, r279, H⟩
    try dsimp only at hF
    replace H : Hp C wd280 ρ (Box b262 [v263, .int .i64 (x2.length : Int)] :: Arr v263 1 c276 :: Box b271 [.pointer (some ⟨b262, 0, none⟩)] :: Box b258 [v1, v4, v7] :: hs) := H
    refine WL_nil ?_
    refine x_then ?_
    refine CW.sub (E' := [(1, .pointer (some ⟨b258, 0, none⟩)), (3, .pointer (some ⟨b271, 0, none⟩))]) ⟨rfl, rfl, trivial⟩ ?_
    refine C_seq ?_
    refine R_nd ?_
    refine ne (E_bslice (xs := [.const (.int .i64 0)]) (vs := [.int .i64 0]) H Tryd.underlying23 ty3 (by decide) (cs := [.int .i64 0]) rfl (sz_cons rfl sz_nil) rfl (by simp) (by simp) rfl rfl) rfl rfl ?_
    rintro _ wd282 ⟨b281, rfl, H⟩
    replace H : Hp C wd282 ρ (Arr (.slice (some ⟨b281, 0, none⟩) 1 1) 1 ([.int .i64 0]) :: Box b262 [v263, .int .i64 (x2.length : Int)] :: Arr v263 1 c276 :: Box b271 [.pointer (some ⟨b262, 0, none⟩)] :: Box b258 [v1, v4, v7] :: hs) := H
    refine ne (E_alloc H ty23 (zs := [.slice none 0 0]) rfl) rfl rfl ?_
    rintro _ wd284 ⟨b283, rfl, H⟩
    replace H : Hp C wd284 ρ (Box b283 [.slice none 0 0] :: Arr (.slice (some ⟨b281, 0, none⟩) 1 1) 1 ([.int .i64 0]) :: Box b262 [v263, .int .i64 (x2.length : Int)] :: Arr v263 1 c276 :: Box b271 [.pointer (some ⟨b262, 0, none⟩)] :: Box b258 [v1, v4, v7] :: hs) := H
    refine ne (E_stB (k := 0) (cs := [(.slice (some ⟨b281, 0, none⟩) 1 1)]) (vs' := [(.slice (some ⟨b281, 0, none⟩) 1 1)]) H rfl ty23 rfl rfl (arr_cells (H.ok.get (k := 1) rfl)).1 rfl (one_cons (arr_cells (H.ok.get (k := 1) rfl)).2 one_nil) (by simp) rfl) rfl rfl ?_
    rintro _ wd285 H
    replace H : Hp C wd285 ρ (Box b283 [(.slice (some ⟨b281, 0, none⟩) 1 1)] :: Arr (.slice (some ⟨b281, 0, none⟩) 1 1) 1 ([.int .i64 0]) :: Box b262 [v263, .int .i64 (x2.length : Int)] :: Arr v263 1 c276 :: Box b271 [.pointer (some ⟨b262, 0, none⟩)] :: Box b258 [v1, v4, v7] :: hs) := H
    refine WL_nil ?_
    refine x_then ?_
    refine CW.sub (E' := [(1, .pointer (some ⟨b258, 0, none⟩)), (3, .pointer (some ⟨b271, 0, none⟩)), (5, .pointer (some ⟨b283, 0, none⟩))]) ⟨rfl, rfl, rfl, trivial⟩ ?_
    refine C_seq ?_
    refine R_nd ?_
    refine nq (v := .func (.func 75) #[] [.pointer (some ⟨b271, 0, none⟩), .pointer (some ⟨b283, 0, none⟩)].toArray) (Q_func rfl) rfl rfl ?_
    refine nq (v := .func (.func 75) #[] [.pointer (some ⟨b271, 0, none⟩), .pointer (some ⟨b283, 0, none⟩)].toArray) (Q_assign rfl) rfl rfl ?_
    refine WL_nil ?_
    refine x_then ?_
    refine CW.sub (E' := [(1, .pointer (some ⟨b258, 0, none⟩)), (5, .pointer (some ⟨b283, 0, none⟩)), (6, .func (.func 75) #[] [.pointer (some ⟨b271, 0, none⟩), .pointer (some ⟨b283, 0, none⟩)].toArray)]) ⟨rfl, rfl, rfl, trivial⟩ ?_
    refine C_seq ?_
    refine R_nd ?_
    refine nq (v := .func (.func 75) #[] [.pointer (some ⟨b271, 0, none⟩), .pointer (some ⟨b283, 0, none⟩)].toArray) (Q_move rfl) rfl rfl ?_
    refine nq (v := .pointer (some ⟨b258, 2, none⟩)) (Q_fld Tryd.underlying25 rfl ty23 (by decide) rfl rfl) rfl rfl ?_
    refine nq (v := v7) (Q_ldB (k := 5) (cs := [v7]) H.ok rfl ty23 rfl rfl rfl (fun _ => rfl) rfl) rfl rfl ?_
    replace H := H.front 1 rfl
    replace H : Hp C wd285 ρ (Arr (.slice (some ⟨b281, 0, none⟩) 1 1) 1 ([.int .i64 0]) :: Box b283 [(.slice (some ⟨b281, 0, none⟩) 1 1)] :: Box b262 [v263, .int .i64 (x2.length : Int)] :: Arr v263 1 c276 :: Box b271 [.pointer (some ⟨b262, 0, none⟩)] :: Box b258 [v1, v4, v7] :: hs) := H
    replace H := H.front 1 rfl
    replace H : Hp C wd285 ρ (Box b283 [(.slice (some ⟨b281, 0, none⟩) 1 1)] :: Arr (.slice (some ⟨b281, 0, none⟩) 1 1) 1 ([.int .i64 0]) :: Box b262 [v263, .int .i64 (x2.length : Int)] :: Arr v263 1 c276 :: Box b271 [.pointer (some ⟨b262, 0, none⟩)] :: Box b258 [v1, v4, v7] :: hs) := H
    replace H := H.front 3 rfl
    replace H : Hp C wd285 ρ (Arr v263 1 c276 :: Box b283 [(.slice (some ⟨b281, 0, none⟩) 1 1)] :: Arr (.slice (some ⟨b281, 0, none⟩) 1 1) 1 ([.int .i64 0]) :: Box b262 [v263, .int .i64 (x2.length : Int)] :: Box b271 [.pointer (some ⟨b262, 0, none⟩)] :: Box b258 [v1, v4, v7] :: hs) := H
    replace H := H.front 3 rfl
    replace H : Hp C wd285 ρ (Box b262 [v263, .int .i64 (x2.length : Int)] :: Arr v263 1 c276 :: Box b283 [(.slice (some ⟨b281, 0, none⟩) 1 1)] :: Arr (.slice (some ⟨b281, 0, none⟩) 1 1) 1 ([.int .i64 0]) :: Box b271 [.pointer (some ⟨b262, 0, none⟩)] :: Box b258 [v1, v4, v7] :: hs) := H
    replace H := H.front 4 rfl
    replace H : Hp C wd285 ρ (Box b271 [.pointer (some ⟨b262, 0, none⟩)] :: Box b262 [v263, .int .i64 (x2.length : Int)] :: Arr v263 1 c276 :: Box b283 [(.slice (some ⟨b281, 0, none⟩) 1 1)] :: Arr (.slice (some ⟨b281, 0, none⟩) 1 1) 1 ([.int .i64 0]) :: Box b258 [v1, v4, v7] :: hs) := H
    obtain ⟨q286, hq286, hF⟩ := bnd hF
    refine ne (E_callV fn75 rfl rfl (c_75 H  r9 r279 (show rdL (eI .i64) ρ ([0]) ([.int .i64 0]) from ⟨([.int .i64 0]), _, rfl, rfl, rdL.nil⟩) hq286)) rfl rfl ?_
    rintro _ wd295 ⟨c288, v289, c290, x291, x292, rfl, rfl, r293, r294, H⟩
    try dsimp only at hF
    replace H : Hp C wd295 ρ (Box b271 [.pointer (some ⟨b262, 0, none⟩)] :: Box b262 [v263, .int .i64 (x2.length : Int)] :: Arr v263 1 c288 :: Box b283 [v289] :: Arr v289 1 c290 :: Box b258 [v1, v4, v7] :: hs) := H
    refine WL_nil ?_
    refine x_then ?_
    refine CW.sub (E' := [(1, .pointer (some ⟨b258, 0, none⟩)), (5, .pointer (some ⟨b283, 0, none⟩)), (6, .func (.func 75) #[] [.pointer (some ⟨b271, 0, none⟩), .pointer (some ⟨b283, 0, none⟩)].toArray)]) ⟨rfl, rfl, rfl, trivial⟩ ?_
    refine C_seq ?_
    refine C_seq ?_
    refine R_nd ?_
    refine nq (v := .int .i64 1) (Q_assign rfl) rfl rfl ?_
    refine WL_nil ?_
    refine x_then ?_
    refine CW.sub (E' := [(1, .pointer (some ⟨b258, 0, none⟩)), (5, .pointer (some ⟨b283, 0, none⟩)), (6, .func (.func 75) #[] [.pointer (some ⟨b271, 0, none⟩), .pointer (some ⟨b283, 0, none⟩)].toArray), (7, .int .i64 1)]) ⟨rfl, rfl, rfl, rfl, trivial⟩ ?_
    obtain ⟨o400, ho400, hF⟩ := bnd hF
    refine C_cutQ (fun a w' => ∃ (v396 : Value) (c397 : (List Value)) (x398 : (List Int)), x398 = o400 ∧ rdL (eI .i64) ρ x398 c397 ∧ Fr 42 a [(5, .pointer (some ⟨b283, 0, none⟩))] ∧ Hp C w' ρ (Box b283 [v396] :: Arr v396 1 c397 :: hs)) ?_ ?_
    · refine C_block ?_
      replace H := H.front 2 rfl
      replace H : Hp C wd295 ρ (Arr v263 1 c288 :: Box b271 [.pointer (some ⟨b262, 0, none⟩)] :: Box b262 [v263, .int .i64 (x2.length : Int)] :: Box b283 [v289] :: Arr v289 1 c290 :: Box b258 [v1, v4, v7] :: hs) := H
      replace H := H.front 2 rfl
      replace H : Hp C wd295 ρ (Box b262 [v263, .int .i64 (x2.length : Int)] :: Arr v263 1 c288 :: Box b271 [.pointer (some ⟨b262, 0, none⟩)] :: Box b283 [v289] :: Arr v289 1 c290 :: Box b258 [v1, v4, v7] :: hs) := H
      replace H := H.front 2 rfl
      replace H : Hp C wd295 ρ (Box b271 [.pointer (some ⟨b262, 0, none⟩)] :: Box b262 [v263, .int .i64 (x2.length : Int)] :: Arr v263 1 c288 :: Box b283 [v289] :: Arr v289 1 c290 :: Box b258 [v1, v4, v7] :: hs) := H
      replace H := H.front 4 rfl
      replace H : Hp C wd295 ρ (Arr v289 1 c290 :: Box b271 [.pointer (some ⟨b262, 0, none⟩)] :: Box b262 [v263, .int .i64 (x2.length : Int)] :: Arr v263 1 c288 :: Box b283 [v289] :: Box b258 [v1, v4, v7] :: hs) := H
      replace H := H.front 4 rfl
      replace H : Hp C wd295 ρ (Box b283 [v289] :: Arr v289 1 c290 :: Box b271 [.pointer (some ⟨b262, 0, none⟩)] :: Box b262 [v263, .int .i64 (x2.length : Int)] :: Arr v263 1 c288 :: Box b258 [v1, v4, v7] :: hs) := H
      replace H := H.front 5 rfl
      replace H : Hp C wd295 ρ (Box b258 [v1, v4, v7] :: Box b283 [v289] :: Arr v289 1 c290 :: Box b271 [.pointer (some ⟨b262, 0, none⟩)] :: Box b262 [v263, .int .i64 (x2.length : Int)] :: Arr v263 1 c288 :: hs) := H
      refine C_iter (f := fun s => F_canon_order_l0 N x2 s.1 s.2.1 s.2.2) ho400 (fun s a w' => ∃ (v433 : Value) (c434 : (List Value)) (c437 : (List Value)) (x435 : (List Int)) (x438 : (List Int)) (x440 : Int), (x435, x438, x440) = s ∧ rdL (eI .i64) ρ x435 c434 ∧ rdL (eI .u64) ρ x438 c437 ∧ Fr 42 a [(1, .pointer (some ⟨b258, 0, none⟩)), (5, .pointer (some ⟨b283, 0, none⟩)), (6, .func (.func 75) #[] [.pointer (some ⟨b271, 0, none⟩), .pointer (some ⟨b283, 0, none⟩)].toArray), (7, .int .i64 x440)] ∧ Hp C w' ρ (Box b258 [v1, v4, v7] :: Box b283 [v433] :: Arr v433 1 c434 :: Box b271 [.pointer (some ⟨b262, 0, none⟩)] :: Box b262 [v263, .int .i64 (x2.length : Int)] :: Arr v263 1 c437 :: hs)) ?_ ?_
      · exact fun a hf => ⟨v289, c290, c288, x292, x291, 1, rfl, r294, r293, hf.sub ⟨rfl, rfl, rfl, rfl, trivial⟩, H⟩
      · rintro s o473 a wd476 ⟨v433, c434, c437, x435, x438, x440, rfl, r436, r439, hf, H⟩ hB474 hO475
        replace hB474 : F_canon_order_l0 N x2 x435 x438 x440 = some o473 := hB474
        unfold F_canon_order_l0 at hB474
        refine CW.at hf ?_
        refine C_seq ?_
        refine C_seq ?_
        refine R_nd ?_
        refine nq (v := .int .i64 x440) (Q_move rfl) rfl rfl ?_
        refine nq (v := v433) (Q_ldB (k := 1) (cs := [v433]) H.ok rfl ty23 rfl rfl rfl (fun _ => rfl) rfl) rfl rfl ?_
        refine nq (v := .int .i64 (x435.length : Int)) (Q_lenA (k := 2) H.ok rfl r436 (by decide) Tryd.underlying23 rfl) rfl rfl ?_
        refine nq (v := .bool (decide (x440 < (x435.length : Int)))) (Q_lss rfl rfl) rfl rfl ?_
        refine WL_nil ?_
        refine x_then ?_
        refine CW.sub (E' := [(1, .pointer (some ⟨b258, 0, none⟩)), (5, .pointer (some ⟨b283, 0, none⟩)), (6, .func (.func 75) #[] [.pointer (some ⟨b271, 0, none⟩), .pointer (some ⟨b283, 0, none⟩)].toArray), (7, .int .i64 x440), (28, .bool (decide (x440 < (x435.length : Int))))]) ⟨rfl, rfl, rfl, rfl, rfl, trivial⟩ ?_
        refine C_cond rfl (fun hb => ?_) (fun hb => ?_)
        · replace hB474 := itT hb hB474
          refine C_skip ?_
          refine x_then ?_
          refine CW.sub (E' := [(1, .pointer (some ⟨b258, 0, none⟩)), (5, .pointer (some ⟨b283, 0, none⟩)), (6, .func (.func 75) #[] [.pointer (some ⟨b271, 0, none⟩), .pointer (some ⟨b283, 0, none⟩)].toArray), (7, .int .i64 x440)]) ⟨rfl, rfl, rfl, rfl, trivial⟩ ?_
          refine C_seq ?_
          refine C_block ?_
          refine R_dr (.take 0 (.take 1 (.take 2 (.take 4 (.one 3 (.one 5 (.one 6 (.take 7 (.take 8 (.one 9 .done)))))))))) (fun w' => Ok w' ρ [Box b258 [v1, v4, v7], Box b271 [.pointer (some ⟨b262, 0, none⟩)], Box b262 [v263, .int .i64 (x2.length : Int)]]) (by kernel_rfl) (by kernel_rfl) (by kernel_rfl) (H.drew.okS (by simp)) ?_
          replace H := H.drew
          refine dq (v := .func (.func 75) #[] [.pointer (some ⟨b271, 0, none⟩), .pointer (some ⟨b283, 0, none⟩)].toArray) rfl (fun w' hw => Q_move rfl) rfl rfl ?_
          refine dq (v := .pointer (some ⟨b258, 0, none⟩)) rfl (fun w' hw => Q_fld Tryd.underlying25 rfl ty22 (by decide) rfl rfl) rfl rfl ?_
          refine dq (v := v1) rfl (fun w' hw => Q_ldB (k := 0) (cs := [v1]) hw rfl ty22 rfl rfl rfl (fun _ => rfl) rfl) rfl rfl ?_
          refine dq (v := .int .i64 x440) rfl (fun w' hw => Q_move rfl) rfl rfl ?_
          refine d1 (de rfl (Eff.quiet (v := v433) (Q_ldB (k := 1) (cs := [v433]) H.ok rfl ty23 rfl rfl rfl (fun _ => rfl) rfl)) rfl rfl ?_)
          rintro _ _ ⟨rfl, rfl⟩
          refine ⟨H.okS (by simp), ?_⟩
          obtain ⟨x477, hx477, hB474⟩ := bnd hB474
          obtain ⟨b478, o479, hi483, hc481, ha482⟩ := arr_at (hs := [Arr v433 1 c434]) (k := 0) (by decide) (H.okS (by simp)) rfl r436 hx477
          refine d1 (de rfl (Eff.quiet (v := .pointer (some ⟨b478, o479, none⟩)) (Q_idx hi483 Tryd.underlying23 ty3 rfl rfl)) rfl rfl ?_)
          rintro _ _ ⟨rfl, rfl⟩
          refine ⟨H.okS (by simp), ?_⟩
          refine d1 (de rfl (Eff.quiet (v := .int .i64 x477) (Q_ld (show cellsAt _ _ _ [.int .i64 x477] from (show _ = [_] from hc481) ▸ (ha482 _ (Ok.subS (by simp) H.ok))) ty3 rfl (fun _ => rfl) rfl rfl)) rfl rfl ?_)
          rintro _ _ ⟨rfl, rfl⟩
          refine ⟨H.okS (by simp), ?_⟩
          obtain ⟨x484, hx484, hB474⟩ := bnd hB474
          obtain ⟨b485, o486, c487, hc488, ha489, hi490⟩ := idxR r3 hx484
          refine dq (v := .pointer (some ⟨b485, o486, none⟩)) rfl (fun w' hw => Q_idx hi490 Tryd.underlying22 ty58 rfl rfl) rfl rfl ?_
          refine dq (v := (.slice (some ⟨b485, o486, none⟩) 256 256)) rfl (fun w' hw => Q_slE Tryd.underlying58 ty3 rfl) rfl rfl ?_
          replace H := H.front 2 rfl
          replace H : Hp C wd476.drew ρ (Arr v433 1 c434 :: Box b258 [v1, v4, v7] :: Box b283 [v433] :: Box b271 [.pointer (some ⟨b262, 0, none⟩)] :: Box b262 [v263, .int .i64 (x2.length : Int)] :: Arr v263 1 c437 :: hs) := H
          replace H := H.front 2 rfl
          replace H : Hp C wd476.drew ρ (Box b283 [v433] :: Arr v433 1 c434 :: Box b258 [v1, v4, v7] :: Box b271 [.pointer (some ⟨b262, 0, none⟩)] :: Box b262 [v263, .int .i64 (x2.length : Int)] :: Arr v263 1 c437 :: hs) := H
          replace H := H.front 5 rfl
          replace H : Hp C wd476.drew ρ (Arr v263 1 c437 :: Box b283 [v433] :: Arr v433 1 c434 :: Box b258 [v1, v4, v7] :: Box b271 [.pointer (some ⟨b262, 0, none⟩)] :: Box b262 [v263, .int .i64 (x2.length : Int)] :: hs) := H
          replace H := H.front 5 rfl
          replace H : Hp C wd476.drew ρ (Box b262 [v263, .int .i64 (x2.length : Int)] :: Arr v263 1 c437 :: Box b283 [v433] :: Arr v433 1 c434 :: Box b258 [v1, v4, v7] :: Box b271 [.pointer (some ⟨b262, 0, none⟩)] :: hs) := H
          replace H := H.front 5 rfl
          replace H : Hp C wd476.drew ρ (Box b271 [.pointer (some ⟨b262, 0, none⟩)] :: Box b262 [v263, .int .i64 (x2.length : Int)] :: Arr v263 1 c437 :: Box b283 [v433] :: Arr v433 1 c434 :: Box b258 [v1, v4, v7] :: hs) := H
          obtain ⟨q491, hq491, hB474⟩ := bnd hB474
          refine d1 (de rfl (E_callV fn75 rfl rfl (c_75 H  (rd_of_arr hc488 ha489) r439 r436 hq491)) rfl rfl ?_)
          rintro _ wd500 ⟨c493, v494, c495, x496, x497, rfl, rfl, r498, r499, H⟩
          try dsimp only at hB474
          replace H : Hp C wd500 ρ (Box b271 [.pointer (some ⟨b262, 0, none⟩)] :: Box b262 [v263, .int .i64 (x2.length : Int)] :: Arr v263 1 c493 :: Box b283 [v494] :: Arr v494 1 c495 :: Box b258 [v1, v4, v7] :: hs) := H
          refine ⟨H.okS (by simp), ?_⟩
          refine DL_nil ?_
          refine x_block ?_
          refine x_then ?_
          refine CW.sub (E' := [(1, .pointer (some ⟨b258, 0, none⟩)), (5, .pointer (some ⟨b283, 0, none⟩)), (6, .func (.func 75) #[] [.pointer (some ⟨b271, 0, none⟩), .pointer (some ⟨b283, 0, none⟩)].toArray), (7, .int .i64 x440)]) ⟨rfl, rfl, rfl, rfl, trivial⟩ ?_
          refine R_nd ?_
          refine nq (v := .int .i64 x440) (Q_move rfl) rfl rfl ?_
          refine nq (v := .int .i64 (w64 (x440 + 1))) (Q_add rfl rfl) rfl rfl ?_
          refine nq (v := .int .i64 (w64 (x440 + 1))) (Q_assign rfl) rfl rfl ?_
          refine WL_nil ?_
          replace H := H.front 2 rfl
          replace H : Hp C wd500 ρ (Arr v263 1 c493 :: Box b271 [.pointer (some ⟨b262, 0, none⟩)] :: Box b262 [v263, .int .i64 (x2.length : Int)] :: Box b283 [v494] :: Arr v494 1 c495 :: Box b258 [v1, v4, v7] :: hs) := H
          replace H := H.front 2 rfl
          replace H : Hp C wd500 ρ (Box b262 [v263, .int .i64 (x2.length : Int)] :: Arr v263 1 c493 :: Box b271 [.pointer (some ⟨b262, 0, none⟩)] :: Box b283 [v494] :: Arr v494 1 c495 :: Box b258 [v1, v4, v7] :: hs) := H
          replace H := H.front 2 rfl
          replace H : Hp C wd500 ρ (Box b271 [.pointer (some ⟨b262, 0, none⟩)] :: Box b262 [v263, .int .i64 (x2.length : Int)] :: Arr v263 1 c493 :: Box b283 [v494] :: Arr v494 1 c495 :: Box b258 [v1, v4, v7] :: hs) := H
          replace H := H.front 4 rfl
          replace H : Hp C wd500 ρ (Arr v494 1 c495 :: Box b271 [.pointer (some ⟨b262, 0, none⟩)] :: Box b262 [v263, .int .i64 (x2.length : Int)] :: Arr v263 1 c493 :: Box b283 [v494] :: Box b258 [v1, v4, v7] :: hs) := H
          replace H := H.front 4 rfl
          replace H : Hp C wd500 ρ (Box b283 [v494] :: Arr v494 1 c495 :: Box b271 [.pointer (some ⟨b262, 0, none⟩)] :: Box b262 [v263, .int .i64 (x2.length : Int)] :: Arr v263 1 c493 :: Box b258 [v1, v4, v7] :: hs) := H
          replace H := H.front 5 rfl
          replace H : Hp C wd500 ρ (Box b258 [v1, v4, v7] :: Box b283 [v494] :: Arr v494 1 c495 :: Box b271 [.pointer (some ⟨b262, 0, none⟩)] :: Box b262 [v263, .int .i64 (x2.length : Int)] :: Arr v263 1 c493 :: hs) := H
          obtain rfl := Option.some.inj hB474
          refine x_A fun a hf => ⟨_, rfl, v494, c495, c493, x497, x496, w64 (x440 + 1), rfl, r499, r498, hf.sub ⟨rfl, rfl, rfl, rfl, trivial⟩, H⟩
        · replace hB474 := itF hb hB474
          refine C_exit ?_
          refine x_then_exit ?_
          refine x_then_exit ?_
          refine x_block_exit ?_
          replace H := H.front 2 rfl
          replace H : Hp C wd476 ρ (Arr v433 1 c434 :: Box b258 [v1, v4, v7] :: Box b283 [v433] :: Box b271 [.pointer (some ⟨b262, 0, none⟩)] :: Box b262 [v263, .int .i64 (x2.length : Int)] :: Arr v263 1 c437 :: hs) := H
          replace H := H.front 2 rfl
          replace H : Hp C wd476 ρ (Box b283 [v433] :: Arr v433 1 c434 :: Box b258 [v1, v4, v7] :: Box b271 [.pointer (some ⟨b262, 0, none⟩)] :: Box b262 [v263, .int .i64 (x2.length : Int)] :: Arr v263 1 c437 :: hs) := H
          replace H := H.drop 2 rfl
          replace H : Hp C wd476 ρ (Box b283 [v433] :: Arr v433 1 c434 :: Box b271 [.pointer (some ⟨b262, 0, none⟩)] :: Box b262 [v263, .int .i64 (x2.length : Int)] :: Arr v263 1 c437 :: hs) := H
          replace H := H.drop 2 rfl
          replace H : Hp C wd476 ρ (Box b283 [v433] :: Arr v433 1 c434 :: Box b262 [v263, .int .i64 (x2.length : Int)] :: Arr v263 1 c437 :: hs) := H
          replace H := H.drop 2 rfl
          replace H : Hp C wd476 ρ (Box b283 [v433] :: Arr v433 1 c434 :: Arr v263 1 c437 :: hs) := H
          replace H := H.drop 2 rfl
          replace H : Hp C wd476 ρ (Box b283 [v433] :: Arr v433 1 c434 :: hs) := H
          obtain rfl := Option.some.inj hB474
          obtain rfl := hO475 _ rfl
          refine x_A fun a hf => ⟨v433, c434, x435, rfl, r436, hf.sub ⟨rfl, trivial⟩, H⟩
    · rintro a wd501 ⟨v396, c397, x398, rfl, r399, hf, H⟩
      try dsimp only at hF
      refine XX.at hf ?_
      refine x_then ?_
      refine CW.sub (E' := [(5, .pointer (some ⟨b283, 0, none⟩))]) ⟨rfl, trivial⟩ ?_
      refine C_seq ?_
      refine R_nd ?_
      refine nq (v := v396) (Q_ldB (k := 0) (cs := [v396]) H.ok rfl ty23 rfl rfl rfl (fun _ => rfl) rfl) rfl rfl ?_
      refine nq (v := v396) (Q_assign rfl) rfl rfl ?_
      refine WL_nil ?_
      refine x_then ?_
      refine CW.sub (E' := [(2, v396)]) ⟨rfl, trivial⟩ ?_
      refine C_ret ?_
      replace H := H.front 1 rfl
      replace H : Hp C wd501 ρ (Arr v396 1 c397 :: Box b283 [v396] :: hs) := H
      replace H := H.drop 1 rfl
      replace H : Hp C wd501 ρ (Arr v396 1 c397 :: hs) := H
      obtain rfl := Option.some.inj hF
      exact fn_ret (l := [.tmp 2]) (vs := [v396]) rfl rfl rfl ⟨v396, c397, x398, rfl, rfl, r399, H⟩
theorem c_18 {N : Nat} {C : Cx} {w : World} {ρ : View} {hs : List Hl} {v1 : Value} {v4 : Value} {v7 : Value} {x2 : (List (List Int))} {x5 : (List Int)} {x8 : (List Int)} (H : Hp C w ρ (hs)) {ge0 : Value} (gl0 : GErr ρ 0 ge0) (r3 : RdSl ρ (eA 256 (eI .i64)) v1 x2) (r6 : RdSl ρ (eI .i64) v4 x5) (r9 : RdSl ρ (eI .i64) v7 x8) {r : (List Int)} (hF : F_canon_Order N x2 x5 x8 = some r) :
    Calls Tryd.prog 18 [.agg #[v1, v4, v7]].toArray w (Rets (fun v w' => (∃ (v23 : Value) (c24 : (List Value)) (x25 : (List Int)), x25 = r ∧ v23 = v ∧ rdL (eI .i64) ρ x25 c24 ∧ Hp C w' ρ (Arr v23 1 c24 :: hs)))) := by
  unfold F_canon_Order at hF
  have h0 : Tryd.f18.body = some _ := rfl
  refine fn_calls' Tryd.func18 h0 (n := 8) rfl (by simp) ?_
  refine C_seq ?_
  refine R_nd ?_
  refine ne (E_box H (vs := [v1, v4, v7]) rfl rfl) rfl rfl ?_
  rintro _ wd28 ⟨b27, rfl, H⟩
  replace H : Hp C wd28 ρ (Box b27 [v1, v4, v7] :: hs) := H
  refine nq (v := .slice none 0 0) (Q_assign rfl) rfl rfl ?_
  refine WL_nil ?_
  refine x_then ?_
  refine CW.sub (E' := [(1, .pointer (some ⟨b27, 0, none⟩))]) ⟨rfl, trivial⟩ ?_
  refine C_seq ?_
  refine C_seq ?_
  refine R_nd ?_
  refine nq (v := .agg #[v1, v4, v7]) (Q_ldB (k := 0) (cs := [v1, v4, v7]) H.ok rfl ty25 rfl rfl rfl (fun h => nomatch h) rfl) rfl rfl ?_
  obtain ⟨q29, hq29, hF⟩ := bnd hF
  refine ne (E_call fn26 rfl (c_26 H  r3 r6 r9 hq29)) rfl rfl ?_
  rintro _ wd32 ⟨x31, rfl, rfl, H⟩
  try dsimp only at hF
  replace H : Hp C wd32 ρ (Box b27 [v1, v4, v7] :: hs) := H
  refine nq (v := .bool (!x31)) (Q_not rfl) rfl rfl ?_
  refine WL_nil ?_
  refine x_then ?_
  refine CW.sub (E' := [(1, .pointer (some ⟨b27, 0, none⟩)), (5, .bool (!x31))]) ⟨rfl, rfl, trivial⟩ ?_
  refine C_cond rfl (fun hb => ?_) (fun hb => ?_)
  · replace hF := itT hb hF
    refine C_seq ?_
    refine R_nd ?_
    refine nq (v := .slice none 0 0) (Q_assign rfl) rfl rfl ?_
    refine WL_nil ?_
    refine x_then ?_
    refine CW.sub (E' := [(2, .slice none 0 0)]) ⟨rfl, trivial⟩ ?_
    refine C_ret ?_
    refine x_then_ret ?_
    have H := H.nilArr 1
    replace H : Hp C wd32 ρ (Arr (.slice none 0 0) 1 ([]) :: Box b27 [v1, v4, v7] :: hs) := H
    replace H := H.drop 1 rfl
    replace H : Hp C wd32 ρ (Arr (.slice none 0 0) 1 ([]) :: hs) := H
    obtain rfl := Option.some.inj hF
    exact fn_ret (l := [.tmp 2]) (vs := [(.slice none 0 0)]) rfl rfl rfl ⟨(.slice none 0 0), [], [], rfl, rfl, rdL.nil, H⟩
  · replace hF := itF hb hF
    refine C_skip ?_
    refine x_then ?_
    refine CW.sub (E' := [(1, .pointer (some ⟨b27, 0, none⟩))]) ⟨rfl, trivial⟩ ?_
    refine C_seq ?_
    refine R_nd ?_
    refine nq (v := .agg #[v1, v4, v7]) (Q_ldB (k := 0) (cs := [v1, v4, v7]) H.ok rfl ty25 rfl rfl rfl (fun h => nomatch h) rfl) rfl rfl ?_
    obtain ⟨q33, hq33, hF⟩ := bnd hF
    refine ne (E_call fn50 rfl (c_50 H gl0 r3 r6 r9 hq33)) rfl rfl ?_
    rintro _ wd39 ⟨v35, c36, x37, rfl, rfl, r38, H⟩
    try dsimp only at hF
    replace H : Hp C wd39 ρ (Arr v35 1 c36 :: Box b27 [v1, v4, v7] :: hs) := H
    refine nq (v := v35) (Q_assign rfl) rfl rfl ?_
    refine WL_nil ?_
    refine x_then ?_
    refine CW.sub (E' := [(2, v35)]) ⟨rfl, trivial⟩ ?_
    refine C_ret ?_
    replace H := H.drop 1 rfl
    replace H : Hp C wd39 ρ (Arr v35 1 c36 :: hs) := H
    obtain rfl := Option.some.inj hF
    exact fn_ret (l := [.tmp 2]) (vs := [v35]) rfl rfl rfl ⟨v35, c36, x37, rfl, rfl, r38, H⟩
theorem c_22 {N : Nat} {C : Cx} {w : World} {ρ : View} {hs : List Hl} {v1 : Value} {v4 : Value} {x2 : (List Int)} {x5 : (List Int)} (H : Hp C w ρ (hs)) (r3 : RdSl ρ (eI .i64) v1 x2) (r6 : RdSl ρ (eI .i64) v4 x5) {r : Bool} (hF : F_doffernum_SameInts N x2 x5 = some r) :
    Calls Tryd.prog 22 [v1, v4].toArray w (Rets (fun v w' => (∃ (x107 : Bool), x107 = r ∧ .bool x107 = v ∧ Hp C w' ρ (hs)))) := by
  unfold F_doffernum_SameInts at hF
  have h0 : Tryd.f22.body = some _ := rfl
  refine fn_calls' Tryd.func22 h0 (n := 26) rfl (by simp) ?_
  refine C_seq ?_
  refine R_nd ?_
  refine nq (v := .bool false) (Q_assign rfl) rfl rfl ?_
  refine WL_nil ?_
  refine x_then ?_
  refine CW.sub (E' := [(0, v1), (1, v4)]) ⟨rfl, rfl, trivial⟩ ?_
  refine C_seq ?_
  refine C_seq ?_
  refine R_nd ?_
  refine nq (v := v1) (Q_move rfl) rfl rfl ?_
  refine nq (v := .int .i64 (x2.length : Int)) (Q_len Tryd.underlying23 rfl r3) rfl rfl ?_
  refine nq (v := v4) (Q_move rfl) rfl rfl ?_
  refine nq (v := .int .i64 (x5.length : Int)) (Q_len Tryd.underlying23 rfl r6) rfl rfl ?_
  refine nq (v := .bool ((x2.length : Int) != (x5.length : Int))) (Q_neq rfl rfl) rfl rfl ?_
  refine WL_nil ?_
  refine x_then ?_
  refine CW.sub (E' := [(0, v1), (1, v4), (10, .bool ((x2.length : Int) != (x5.length : Int)))]) ⟨rfl, rfl, rfl, trivial⟩ ?_
  refine C_cond rfl (fun hb => ?_) (fun hb => ?_)
  · replace hF := itT hb hF
    refine C_seq ?_
    refine R_nd ?_
    refine nq (v := .bool false) (Q_assign rfl) rfl rfl ?_
    refine WL_nil ?_
    refine x_then ?_
    refine CW.sub (E' := [(4, .bool false)]) ⟨rfl, trivial⟩ ?_
    refine C_ret ?_
    refine x_then_ret ?_
    obtain rfl := Option.some.inj hF
    exact fn_ret (l := [.tmp 4]) (vs := [.bool false]) rfl rfl rfl ⟨false, rfl, rfl, H⟩
  · replace hF := itF hb hF
    refine C_skip ?_
    refine x_then ?_
    refine CW.sub (E' := [(0, v1), (1, v4)]) ⟨rfl, rfl, trivial⟩ ?_
    refine C_seq ?_
    refine C_seq ?_
    refine R_nd ?_
    refine nq (v := v1) (Q_move rfl) rfl rfl ?_
    refine nq (v := .int .i64 (x2.length : Int)) (Q_len Tryd.underlying23 rfl r3) rfl rfl ?_
    refine nq (v := .int .i64 0) (Q_move rfl) rfl rfl ?_
    refine WL_nil ?_
    refine x_then ?_
    refine CW.sub (E' := [(0, v1), (1, v4), (12, .int .i64 (x2.length : Int)), (13, .int .i64 0)]) ⟨rfl, rfl, rfl, rfl, trivial⟩ ?_
    obtain ⟨o157, ho157, hF⟩ := bnd hF
    refine C_cutQ (fun a w' => .inl () = o157 ∧ Fr 26 a [] ∧ Hp C w' ρ (hs)) ?_ ?_
    · refine C_block ?_
      refine C_iter (f := fun s => F_doffernum_SameInts_l0 N x2 x5 s) ho157 (fun s a w' => ∃ (x173 : Int), x173 = s ∧ Fr 26 a [(0, v1), (1, v4), (12, .int .i64 (x2.length : Int)), (13, .int .i64 x173)] ∧ Hp C w' ρ (hs)) ?_ ?_
      · exact fun a hf => ⟨0, rfl, hf.sub ⟨rfl, rfl, rfl, rfl, trivial⟩, H⟩
      · rintro s o189 a wd192 ⟨x173, rfl, hf, H⟩ hB190 hO191
        replace hB190 : F_doffernum_SameInts_l0 N x2 x5 x173 = some o189 := hB190
        unfold F_doffernum_SameInts_l0 at hB190
        refine CW.at hf ?_
        refine C_seq ?_
        refine R_nd ?_
        refine nq (v := .bool (decide (x173 < (x2.length : Int)))) (Q_lss rfl rfl) rfl rfl ?_
        refine WL_nil ?_
        refine x_then ?_
        refine CW.sub (E' := [(0, v1), (1, v4), (12, .int .i64 (x2.length : Int)), (13, .int .i64 x173), (14, .bool (decide (x173 < (x2.length : Int))))]) ⟨rfl, rfl, rfl, rfl, rfl, trivial⟩ ?_
        refine C_seq ?_
        refine C_cond rfl (fun hb => ?_) (fun hb => ?_)
        · replace hB190 := itT hb hB190
          refine C_skip ?_
          refine x_then ?_
          refine CW.sub (E' := [(0, v1), (1, v4), (12, .int .i64 (x2.length : Int)), (13, .int .i64 x173)]) ⟨rfl, rfl, rfl, rfl, trivial⟩ ?_
          refine C_seq ?_
          refine C_block ?_
          refine C_seq ?_
          refine R_nd ?_
          refine nq (v := .int .i64 x173) (Q_move rfl) rfl rfl ?_
          refine nq (v := .int .i64 x173) (Q_assign rfl) rfl rfl ?_
          refine WL_nil ?_
          refine x_then ?_
          refine CW.sub (E' := [(0, v1), (1, v4), (5, .int .i64 x173), (12, .int .i64 (x2.length : Int)), (13, .int .i64 x173)]) ⟨rfl, rfl, rfl, rfl, rfl, trivial⟩ ?_
          refine C_seq ?_
          refine R_dr (.take 0 (.take 1 (.take 2 (.take 3 (.take 4 (.take 5 (.take 6 (.take 7 (.take 8 .done))))))))) (fun w' => Ok w' ρ []) (by kernel_rfl) (by kernel_rfl) (by kernel_rfl) (H.drew.okS (by simp)) ?_
          replace H := H.drew
          refine dq (v := v1) rfl (fun w' hw => Q_move rfl) rfl rfl ?_
          refine dq (v := .int .i64 x173) rfl (fun w' hw => Q_move rfl) rfl rfl ?_
          obtain ⟨x193, hx193, hB190⟩ := bnd hB190
          obtain ⟨b194, o195, c196, hc197, ha198, hi199⟩ := idxR r3 hx193
          refine dq (v := .pointer (some ⟨b194, o195, none⟩)) rfl (fun w' hw => Q_idx hi199 Tryd.underlying23 ty3 rfl rfl) rfl rfl ?_
          refine dq (v := .int .i64 x193) rfl (fun w' hw => Q_ld (show cellsAt _ _ _ [.int .i64 x193] from (show _ = [_] from hc197) ▸ (ha198.up hw.view)) ty3 rfl (fun _ => rfl) rfl rfl) rfl rfl ?_
          refine dq (v := v4) rfl (fun w' hw => Q_move rfl) rfl rfl ?_
          refine dq (v := .int .i64 x173) rfl (fun w' hw => Q_move rfl) rfl rfl ?_
          obtain ⟨x200, hx200, hB190⟩ := bnd hB190
          obtain ⟨b201, o202, c203, hc204, ha205, hi206⟩ := idxR r6 hx200
          refine dq (v := .pointer (some ⟨b201, o202, none⟩)) rfl (fun w' hw => Q_idx hi206 Tryd.underlying23 ty3 rfl rfl) rfl rfl ?_
          refine dq (v := .int .i64 x200) rfl (fun w' hw => Q_ld (show cellsAt _ _ _ [.int .i64 x200] from (show _ = [_] from hc204) ▸ (ha205.up hw.view)) ty3 rfl (fun _ => rfl) rfl rfl) rfl rfl ?_
          refine dq (v := .bool (x193 != x200)) rfl (fun w' hw => Q_neq rfl rfl) rfl rfl ?_
          refine DL_nil ?_
          refine x_then ?_
          refine CW.sub (E' := [(0, v1), (1, v4), (12, .int .i64 (x2.length : Int)), (13, .int .i64 x173), (24, .bool (x193 != x200))]) ⟨rfl, rfl, rfl, rfl, rfl, trivial⟩ ?_
          refine C_cond rfl (fun hb => ?_) (fun hb => ?_)
          · replace hB190 := itT hb hB190
            refine C_seq ?_
            refine R_nd ?_
            refine nq (v := .bool false) (Q_assign rfl) rfl rfl ?_
            refine WL_nil ?_
            refine x_then ?_
            refine CW.sub (E' := [(4, .bool false)]) ⟨rfl, trivial⟩ ?_
            refine C_ret ?_
            refine x_block_ret ?_
            refine x_then_ret ?_
            refine x_then_ret ?_
            refine x_block_ret ?_
            refine x_then_ret ?_
            refine x_then_ret ?_
            obtain rfl := Option.some.inj hB190
            obtain rfl := hO191 _ rfl
            obtain rfl := Option.some.inj (show some _ = some _ from hF)
            exact fn_ret (l := [.tmp 4]) (vs := [.bool false]) rfl rfl rfl ⟨false, rfl, rfl, H⟩
          · replace hB190 := itF hb hB190
            refine C_skip ?_
            refine x_block ?_
            refine x_then ?_
            refine CW.sub (E' := [(0, v1), (1, v4), (12, .int .i64 (x2.length : Int)), (13, .int .i64 x173)]) ⟨rfl, rfl, rfl, rfl, trivial⟩ ?_
            refine R_nd ?_
            refine nq (v := .int .i64 (w64 (x173 + 1))) (Q_add rfl rfl) rfl rfl ?_
            refine nq (v := .int .i64 (w64 (x173 + 1))) (Q_move rfl) rfl rfl ?_
            refine WL_nil ?_
            obtain rfl := Option.some.inj hB190
            refine x_A fun a hf => ⟨_, rfl, w64 (x173 + 1), rfl, hf.sub ⟨rfl, rfl, rfl, rfl, trivial⟩, H⟩
        · replace hB190 := itF hb hB190
          refine C_exit ?_
          refine x_then_exit ?_
          refine x_then_exit ?_
          refine x_block_exit ?_
          obtain rfl := Option.some.inj hB190
          obtain rfl := hO191 _ rfl
          refine x_A fun a hf => ⟨rfl, hf.sub trivial, H⟩
    · rintro a wd207 ⟨rfl, hf, H⟩
      try dsimp only at hF
      refine XX.at hf ?_
      refine x_then ?_
      refine CW.sub (E' := []) trivial ?_
      refine C_seq ?_
      refine R_nd ?_
      refine nq (v := .bool true) (Q_assign rfl) rfl rfl ?_
      refine WL_nil ?_
      refine x_then ?_
      refine CW.sub (E' := [(4, .bool true)]) ⟨rfl, trivial⟩ ?_
      refine C_ret ?_
      obtain rfl := Option.some.inj hF
      exact fn_ret (l := [.tmp 4]) (vs := [.bool true]) rfl rfl rfl ⟨true, rfl, rfl, H⟩
theorem c_14 {N : Nat} {C : Cx} {w : World} {ρ : View} {hs : List Hl} (H : Hp C w ρ (hs)) {ge0 : Value} (gl0 : GErr ρ 0 ge0) {r : Bool} (hF : F_dofferlaw20_alive N = some r) :
    Calls Tryd.prog 14 [].toArray w (Rets (fun v w' => (∃ (x162 : Bool), x162 = r ∧ .bool x162 = v ∧ Hp C w' ρ (hs)))) := by
  unfold F_dofferlaw20_alive at hF
  have h0 : Tryd.f14.body = some _ := rfl
  refine fn_calls' Tryd.func14 h0 (n := 20) rfl (by simp) ?_
  refine C_seq ?_
  refine R_nd ?_
  refine nq (v := .bool false) (Q_assign rfl) rfl rfl ?_
  refine WL_nil ?_
  refine x_then ?_
  refine CW.sub (E' := []) trivial ?_
  refine C_seq ?_
  refine R_nd ?_
  obtain ⟨x163, hx163, hF⟩ := bnd hF
  obtain ⟨hm165a, hm165b, hm165c⟩ := mk_some hx163
  refine ne (E_make H Tryd.underlying22 ty58 (zs := (repC 256 [.int .i64 0])) rfl (by simp [repC_length]) (by decide) (by decide) rfl hm165a hm165b) rfl rfl ?_
  rintro _ wd166 ⟨b164, rfl, H⟩
  replace H : Hp C wd166 ρ (Arr (.slice (some ⟨b164, 0, none⟩) (3 : Int).toNat (3 : Int).toNat) 256 (repC (3 : Int).toNat (repC 256 [.int .i64 0])) :: hs) := H
  refine ne (E_bslice (xs := [.const (.int .i64 (-1)), .const (.int .i64 0), .const (.int .i64 (-1))]) (vs := [.int .i64 (-1), .int .i64 0, .int .i64 (-1)]) H Tryd.underlying23 ty3 (by decide) (cs := [.int .i64 (-1), .int .i64 0, .int .i64 (-1)]) rfl (sz_cons rfl (sz_cons rfl (sz_cons rfl sz_nil))) rfl (by simp) (by simp) rfl rfl) rfl rfl ?_
  rintro _ wd168 ⟨b167, rfl, H⟩
  replace H : Hp C wd168 ρ (Arr (.slice (some ⟨b167, 0, none⟩) 3 3) 1 ([.int .i64 (-1), .int .i64 0, .int .i64 (-1)]) :: Arr (.slice (some ⟨b164, 0, none⟩) (3 : Int).toNat (3 : Int).toNat) 256 (repC (3 : Int).toNat (repC 256 [.int .i64 0])) :: hs) := H
  refine ne (E_bslice (xs := [.const (.int .i64 2)]) (vs := [.int .i64 2]) H Tryd.underlying23 ty3 (by decide) (cs := [.int .i64 2]) rfl (sz_cons rfl sz_nil) rfl (by simp) (by simp) rfl rfl) rfl rfl ?_
  rintro _ wd170 ⟨b169, rfl, H⟩
  replace H : Hp C wd170 ρ (Arr (.slice (some ⟨b169, 0, none⟩) 1 1) 1 ([.int .i64 2]) :: Arr (.slice (some ⟨b167, 0, none⟩) 3 3) 1 ([.int .i64 (-1), .int .i64 0, .int .i64 (-1)]) :: Arr (.slice (some ⟨b164, 0, none⟩) (3 : Int).toNat (3 : Int).toNat) 256 (repC (3 : Int).toNat (repC 256 [.int .i64 0])) :: hs) := H
  refine nq (v := .agg #[(.slice (some ⟨b164, 0, none⟩) (3 : Int).toNat (3 : Int).toNat), (.slice (some ⟨b167, 0, none⟩) 3 3), (.slice (some ⟨b169, 0, none⟩) 1 1)]) (Q_buildS st25.choose_spec (ps := [(0, [(.slice (some ⟨b164, 0, none⟩) (3 : Int).toNat (3 : Int).toNat)]), (1, [(.slice (some ⟨b167, 0, none⟩) 3 3)]), (2, [(.slice (some ⟨b169, 0, none⟩) 1 1)])]) rfl ⟨rfl, (arr_cells (H.ok.get (k := 2) rfl)).1, by simp, ⟨rfl, (arr_cells (H.ok.get (k := 1) rfl)).1, by simp, ⟨rfl, (arr_cells (H.ok.get (k := 0) rfl)).1, by simp, trivial⟩⟩⟩ rfl) rfl rfl ?_
  refine ne (E_alloc H ty25 (zs := [.slice none 0 0, .slice none 0 0, .slice none 0 0]) rfl) rfl rfl ?_
  rintro _ wd172 ⟨b171, rfl, H⟩
  replace H : Hp C wd172 ρ (Box b171 [.slice none 0 0, .slice none 0 0, .slice none 0 0] :: Arr (.slice (some ⟨b169, 0, none⟩) 1 1) 1 ([.int .i64 2]) :: Arr (.slice (some ⟨b167, 0, none⟩) 3 3) 1 ([.int .i64 (-1), .int .i64 0, .int .i64 (-1)]) :: Arr (.slice (some ⟨b164, 0, none⟩) (3 : Int).toNat (3 : Int).toNat) 256 (repC (3 : Int).toNat (repC 256 [.int .i64 0])) :: hs) := H
  refine ne (E_stB (k := 0) (cs := [(.slice (some ⟨b164, 0, none⟩) (3 : Int).toNat (3 : Int).toNat), (.slice (some ⟨b167, 0, none⟩) 3 3), (.slice (some ⟨b169, 0, none⟩) 1 1)]) (vs' := [(.slice (some ⟨b164, 0, none⟩) (3 : Int).toNat (3 : Int).toNat), (.slice (some ⟨b167, 0, none⟩) 3 3), (.slice (some ⟨b169, 0, none⟩) 1 1)]) H rfl ty25 rfl rfl rfl rfl (one_cons (arr_cells (H.ok.get (k := 3) rfl)).2 (one_cons (arr_cells (H.ok.get (k := 2) rfl)).2 (one_cons (arr_cells (H.ok.get (k := 1) rfl)).2 one_nil))) (by simp) rfl) rfl rfl ?_
  rintro _ wd173 H
  replace H : Hp C wd173 ρ (Box b171 [(.slice (some ⟨b164, 0, none⟩) (3 : Int).toNat (3 : Int).toNat), (.slice (some ⟨b167, 0, none⟩) 3 3), (.slice (some ⟨b169, 0, none⟩) 1 1)] :: Arr (.slice (some ⟨b169, 0, none⟩) 1 1) 1 ([.int .i64 2]) :: Arr (.slice (some ⟨b167, 0, none⟩) 3 3) 1 ([.int .i64 (-1), .int .i64 0, .int .i64 (-1)]) :: Arr (.slice (some ⟨b164, 0, none⟩) (3 : Int).toNat (3 : Int).toNat) 256 (repC (3 : Int).toNat (repC 256 [.int .i64 0])) :: hs) := H
  refine WL_nil ?_
  refine x_then ?_
  refine CW.sub (E' := [(1, .pointer (some ⟨b171, 0, none⟩))]) ⟨rfl, trivial⟩ ?_
  refine C_seq ?_
  refine C_seq ?_
  refine R_nd ?_
  refine nq (v := .int .i64 0) (Q_move rfl) rfl rfl ?_
  refine WL_nil ?_
  refine x_then ?_
  refine CW.sub (E' := [(1, .pointer (some ⟨b171, 0, none⟩)), (7, .int .i64 0)]) ⟨rfl, rfl, trivial⟩ ?_
  obtain ⟨o232, ho232, hF⟩ := bnd hF
  refine C_cutQ (fun a w' => ∃ (c229 : (List Value)) (x230 : (List (List Int))), x230 = o232 ∧ rdL (eA 256 (eI .i64)) ρ x230 c229 ∧ Fr 20 a [(1, .pointer (some ⟨b171, 0, none⟩))] ∧ Hp C w' ρ (Box b171 [(.slice (some ⟨b164, 0, none⟩) (3 : Int).toNat (3 : Int).toNat), (.slice (some ⟨b167, 0, none⟩) 3 3), (.slice (some ⟨b169, 0, none⟩) 1 1)] :: Arr (.slice (some ⟨b164, 0, none⟩) (3 : Int).toNat (3 : Int).toNat) 256 c229 :: Arr (.slice (some ⟨b167, 0, none⟩) 3 3) 1 ([.int .i64 (-1), .int .i64 0, .int .i64 (-1)]) :: Arr (.slice (some ⟨b169, 0, none⟩) 1 1) 1 ([.int .i64 2]) :: hs)) ?_ ?_
  · refine C_block ?_
    replace H := H.front 1 rfl
    replace H : Hp C wd173 ρ (Arr (.slice (some ⟨b169, 0, none⟩) 1 1) 1 ([.int .i64 2]) :: Box b171 [(.slice (some ⟨b164, 0, none⟩) (3 : Int).toNat (3 : Int).toNat), (.slice (some ⟨b167, 0, none⟩) 3 3), (.slice (some ⟨b169, 0, none⟩) 1 1)] :: Arr (.slice (some ⟨b167, 0, none⟩) 3 3) 1 ([.int .i64 (-1), .int .i64 0, .int .i64 (-1)]) :: Arr (.slice (some ⟨b164, 0, none⟩) (3 : Int).toNat (3 : Int).toNat) 256 (repC (3 : Int).toNat (repC 256 [.int .i64 0])) :: hs) := H
    replace H := H.front 2 rfl
    replace H : Hp C wd173 ρ (Arr (.slice (some ⟨b167, 0, none⟩) 3 3) 1 ([.int .i64 (-1), .int .i64 0, .int .i64 (-1)]) :: Arr (.slice (some ⟨b169, 0, none⟩) 1 1) 1 ([.int .i64 2]) :: Box b171 [(.slice (some ⟨b164, 0, none⟩) (3 : Int).toNat (3 : Int).toNat), (.slice (some ⟨b167, 0, none⟩) 3 3), (.slice (some ⟨b169, 0, none⟩) 1 1)] :: Arr (.slice (some ⟨b164, 0, none⟩) (3 : Int).toNat (3 : Int).toNat) 256 (repC (3 : Int).toNat (repC 256 [.int .i64 0])) :: hs) := H
    replace H := H.front 3 rfl
    replace H : Hp C wd173 ρ (Arr (.slice (some ⟨b164, 0, none⟩) (3 : Int).toNat (3 : Int).toNat) 256 (repC (3 : Int).toNat (repC 256 [.int .i64 0])) :: Arr (.slice (some ⟨b167, 0, none⟩) 3 3) 1 ([.int .i64 (-1), .int .i64 0, .int .i64 (-1)]) :: Arr (.slice (some ⟨b169, 0, none⟩) 1 1) 1 ([.int .i64 2]) :: Box b171 [(.slice (some ⟨b164, 0, none⟩) (3 : Int).toNat (3 : Int).toNat), (.slice (some ⟨b167, 0, none⟩) 3 3), (.slice (some ⟨b169, 0, none⟩) 1 1)] :: hs) := H
    replace H := H.front 3 rfl
    replace H : Hp C wd173 ρ (Box b171 [(.slice (some ⟨b164, 0, none⟩) (3 : Int).toNat (3 : Int).toNat), (.slice (some ⟨b167, 0, none⟩) 3 3), (.slice (some ⟨b169, 0, none⟩) 1 1)] :: Arr (.slice (some ⟨b164, 0, none⟩) (3 : Int).toNat (3 : Int).toNat) 256 (repC (3 : Int).toNat (repC 256 [.int .i64 0])) :: Arr (.slice (some ⟨b167, 0, none⟩) 3 3) 1 ([.int .i64 (-1), .int .i64 0, .int .i64 (-1)]) :: Arr (.slice (some ⟨b169, 0, none⟩) 1 1) 1 ([.int .i64 2]) :: hs) := H
    refine C_iter (f := fun s => F_dofferlaw20_alive_l0 N s.1 s.2) ho232 (fun s a w' => ∃ (c250 : (List Value)) (x251 : (List (List Int))) (x253 : Int), (x251, x253) = s ∧ rdL (eA 256 (eI .i64)) ρ x251 c250 ∧ Fr 20 a [(1, .pointer (some ⟨b171, 0, none⟩)), (7, .int .i64 x253)] ∧ Hp C w' ρ (Box b171 [(.slice (some ⟨b164, 0, none⟩) (3 : Int).toNat (3 : Int).toNat), (.slice (some ⟨b167, 0, none⟩) 3 3), (.slice (some ⟨b169, 0, none⟩) 1 1)] :: Arr (.slice (some ⟨b164, 0, none⟩) (3 : Int).toNat (3 : Int).toNat) 256 c250 :: Arr (.slice (some ⟨b167, 0, none⟩) 3 3) 1 ([.int .i64 (-1), .int .i64 0, .int .i64 (-1)]) :: Arr (.slice (some ⟨b169, 0, none⟩) 1 1) 1 ([.int .i64 2]) :: hs)) ?_ ?_
    · exact fun a hf => ⟨(repC (3 : Int).toNat (repC 256 [.int .i64 0])), x163, 0, rfl, (hm165c ▸ rdL_rep (e := (eA 256 (eI .i64))) (ρ := ρ) (⟨by simp, rdL_rep (e:=(eI .i64)) (ρ:=ρ) (rfl) 256⟩) _), hf.sub ⟨rfl, rfl, trivial⟩, H⟩
    · rintro s o271 a wd274 ⟨c250, x251, x253, rfl, r252, hf, H⟩ hB272 hO273
      replace hB272 : F_dofferlaw20_alive_l0 N x251 x253 = some o271 := hB272
      unfold F_dofferlaw20_alive_l0 at hB272
      refine CW.at hf ?_
      refine C_seq ?_
      refine R_nd ?_
      refine nq (v := .bool (decide (x253 < 256))) (Q_lss rfl rfl) rfl rfl ?_
      refine WL_nil ?_
      refine x_then ?_
      refine CW.sub (E' := [(1, .pointer (some ⟨b171, 0, none⟩)), (7, .int .i64 x253), (8, .bool (decide (x253 < 256)))]) ⟨rfl, rfl, rfl, trivial⟩ ?_
      refine C_seq ?_
      refine C_cond rfl (fun hb => ?_) (fun hb => ?_)
      · replace hB272 := itT hb hB272
        refine C_skip ?_
        refine x_then ?_
        refine CW.sub (E' := [(1, .pointer (some ⟨b171, 0, none⟩)), (7, .int .i64 x253)]) ⟨rfl, rfl, trivial⟩ ?_
        refine C_seq ?_
        refine C_block ?_
        refine C_seq ?_
        refine R_nd ?_
        refine nq (v := .int .i64 x253) (Q_move rfl) rfl rfl ?_
        refine nq (v := .int .i64 x253) (Q_assign rfl) rfl rfl ?_
        refine WL_nil ?_
        refine x_then ?_
        refine CW.sub (E' := [(1, .pointer (some ⟨b171, 0, none⟩)), (2, .int .i64 x253), (7, .int .i64 x253)]) ⟨rfl, rfl, rfl, trivial⟩ ?_
        refine R_nd ?_
        refine nq (v := .pointer (some ⟨b171, 0, none⟩)) (Q_fld Tryd.underlying25 rfl ty22 (by decide) rfl rfl) rfl rfl ?_
        refine nq (v := (.slice (some ⟨b164, 0, none⟩) (3 : Int).toNat (3 : Int).toNat)) (Q_ldB (k := 0) (cs := [(.slice (some ⟨b164, 0, none⟩) (3 : Int).toNat (3 : Int).toNat)]) H.ok rfl ty22 rfl rfl rfl (fun _ => rfl) rfl) rfl rfl ?_
        refine nq (v := .int .i64 x253) (Q_move rfl) rfl rfl ?_
        obtain ⟨x275, hx275, hB272⟩ := bnd hB272
        obtain ⟨b276, o277, hi281, hc279, ha280⟩ := arr_at (hs := [Arr (.slice (some ⟨b164, 0, none⟩) (3 : Int).toNat (3 : Int).toNat) 256 c250]) (k := 0) (by decide) (H.okS (by simp)) rfl r252 hx275
        refine nq (v := .pointer (some ⟨b276, o277, none⟩)) (Q_idx hi281 Tryd.underlying22 ty58 rfl rfl) rfl rfl ?_
        obtain ⟨x282, hx282, hB272⟩ := bnd hB272
        have hn283 := idx_lt hc279.1 hx282
        refine nq (v := .pointer (some ⟨b276, o277 + x253.toNat * 1, none⟩)) (Q_idxA hn283.1 hn283.2 Tryd.underlying58 ty3 rfl rfl) rfl rfl ?_
        obtain ⟨x284, hx284, hB272⟩ := bnd hB272
        obtain ⟨x285, hx285, hB272⟩ := bnd hB272
        have r286 : rdL (eA 256 (eI .i64)) ρ x285 (setC c250 ((2 : Int).toNat * 256 + x253.toNat * 1) [.int .i64 1]) := rdL_set2 (e := (eI .i64)) (N := 256) r252 hc279 hx284 hx285 (rfl)
        refine ne (E_stA (k := 1) (j := x253.toNat * 1) (c := [.int .i64 1]) H rfl ty3 hi281 rfl rfl rfl rfl (one_cons rfl one_nil) (idx_fit (N := 256) (m := 1) (idx_lt hc279.1 hx282))) rfl rfl ?_
        rintro _ wd287 H
        replace H : Hp C wd287 ρ (Box b171 [(.slice (some ⟨b164, 0, none⟩) (3 : Int).toNat (3 : Int).toNat), (.slice (some ⟨b167, 0, none⟩) 3 3), (.slice (some ⟨b169, 0, none⟩) 1 1)] :: Arr (.slice (some ⟨b164, 0, none⟩) (3 : Int).toNat (3 : Int).toNat) 256 (setC c250 ((2 : Int).toNat * 256 + x253.toNat * 1) [.int .i64 1]) :: Arr (.slice (some ⟨b167, 0, none⟩) 3 3) 1 ([.int .i64 (-1), .int .i64 0, .int .i64 (-1)]) :: Arr (.slice (some ⟨b169, 0, none⟩) 1 1) 1 ([.int .i64 2]) :: hs) := H
        refine WL_nil ?_
        refine x_block ?_
        refine x_then ?_
        refine CW.sub (E' := [(1, .pointer (some ⟨b171, 0, none⟩)), (7, .int .i64 x253)]) ⟨rfl, rfl, trivial⟩ ?_
        refine R_nd ?_
        refine nq (v := .int .i64 (w64 (x253 + 1))) (Q_add rfl rfl) rfl rfl ?_
        refine nq (v := .int .i64 (w64 (x253 + 1))) (Q_move rfl) rfl rfl ?_
        refine WL_nil ?_
        replace H := H.front 3 rfl
        replace H : Hp C wd287 ρ (Arr (.slice (some ⟨b169, 0, none⟩) 1 1) 1 ([.int .i64 2]) :: Box b171 [(.slice (some ⟨b164, 0, none⟩) (3 : Int).toNat (3 : Int).toNat), (.slice (some ⟨b167, 0, none⟩) 3 3), (.slice (some ⟨b169, 0, none⟩) 1 1)] :: Arr (.slice (some ⟨b164, 0, none⟩) (3 : Int).toNat (3 : Int).toNat) 256 (setC c250 ((2 : Int).toNat * 256 + x253.toNat * 1) [.int .i64 1]) :: Arr (.slice (some ⟨b167, 0, none⟩) 3 3) 1 ([.int .i64 (-1), .int .i64 0, .int .i64 (-1)]) :: hs) := H
        replace H := H.front 3 rfl
        replace H : Hp C wd287 ρ (Arr (.slice (some ⟨b167, 0, none⟩) 3 3) 1 ([.int .i64 (-1), .int .i64 0, .int .i64 (-1)]) :: Arr (.slice (some ⟨b169, 0, none⟩) 1 1) 1 ([.int .i64 2]) :: Box b171 [(.slice (some ⟨b164, 0, none⟩) (3 : Int).toNat (3 : Int).toNat), (.slice (some ⟨b167, 0, none⟩) 3 3), (.slice (some ⟨b169, 0, none⟩) 1 1)] :: Arr (.slice (some ⟨b164, 0, none⟩) (3 : Int).toNat (3 : Int).toNat) 256 (setC c250 ((2 : Int).toNat * 256 + x253.toNat * 1) [.int .i64 1]) :: hs) := H
        replace H := H.front 3 rfl
        replace H : Hp C wd287 ρ (Arr (.slice (some ⟨b164, 0, none⟩) (3 : Int).toNat (3 : Int).toNat) 256 (setC c250 ((2 : Int).toNat * 256 + x253.toNat * 1) [.int .i64 1]) :: Arr (.slice (some ⟨b167, 0, none⟩) 3 3) 1 ([.int .i64 (-1), .int .i64 0, .int .i64 (-1)]) :: Arr (.slice (some ⟨b169, 0, none⟩) 1 1) 1 ([.int .i64 2]) :: Box b171 [(.slice (some ⟨b164, 0, none⟩) (3 : Int).toNat (3 : Int).toNat), (.slice (some ⟨b167, 0, none⟩) 3 3), (.slice (some ⟨b169, 0, none⟩) 1 1)] :: hs) := H
        replace H := H.front 3 rfl
        replace H : Hp C wd287 ρ (Box b171 [(.slice (some ⟨b164, 0, none⟩) (3 : Int).toNat (3 : Int).toNat), (.slice (some ⟨b167, 0, none⟩) 3 3), (.slice (some ⟨b169, 0, none⟩) 1 1)] :: Arr (.slice (some ⟨b164, 0, none⟩) (3 : Int).toNat (3 : Int).toNat) 256 (setC c250 ((2 : Int).toNat * 256 + x253.toNat * 1) [.int .i64 1]) :: Arr (.slice (some ⟨b167, 0, none⟩) 3 3) 1 ([.int .i64 (-1), .int .i64 0, .int .i64 (-1)]) :: Arr (.slice (some ⟨b169, 0, none⟩) 1 1) 1 ([.int .i64 2]) :: hs) := H
        obtain rfl := Option.some.inj hB272
        refine x_A fun a hf => ⟨_, rfl, (setC c250 ((2 : Int).toNat * 256 + x253.toNat * 1) [.int .i64 1]), x285, w64 (x253 + 1), rfl, r286, hf.sub ⟨rfl, rfl, trivial⟩, H⟩
      · replace hB272 := itF hb hB272
        refine C_exit ?_
        refine x_then_exit ?_
        refine x_then_exit ?_
        refine x_block_exit ?_
        replace H := H.front 3 rfl
        replace H : Hp C wd274 ρ (Arr (.slice (some ⟨b169, 0, none⟩) 1 1) 1 ([.int .i64 2]) :: Box b171 [(.slice (some ⟨b164, 0, none⟩) (3 : Int).toNat (3 : Int).toNat), (.slice (some ⟨b167, 0, none⟩) 3 3), (.slice (some ⟨b169, 0, none⟩) 1 1)] :: Arr (.slice (some ⟨b164, 0, none⟩) (3 : Int).toNat (3 : Int).toNat) 256 c250 :: Arr (.slice (some ⟨b167, 0, none⟩) 3 3) 1 ([.int .i64 (-1), .int .i64 0, .int .i64 (-1)]) :: hs) := H
        replace H := H.front 3 rfl
        replace H : Hp C wd274 ρ (Arr (.slice (some ⟨b167, 0, none⟩) 3 3) 1 ([.int .i64 (-1), .int .i64 0, .int .i64 (-1)]) :: Arr (.slice (some ⟨b169, 0, none⟩) 1 1) 1 ([.int .i64 2]) :: Box b171 [(.slice (some ⟨b164, 0, none⟩) (3 : Int).toNat (3 : Int).toNat), (.slice (some ⟨b167, 0, none⟩) 3 3), (.slice (some ⟨b169, 0, none⟩) 1 1)] :: Arr (.slice (some ⟨b164, 0, none⟩) (3 : Int).toNat (3 : Int).toNat) 256 c250 :: hs) := H
        replace H := H.front 3 rfl
        replace H : Hp C wd274 ρ (Arr (.slice (some ⟨b164, 0, none⟩) (3 : Int).toNat (3 : Int).toNat) 256 c250 :: Arr (.slice (some ⟨b167, 0, none⟩) 3 3) 1 ([.int .i64 (-1), .int .i64 0, .int .i64 (-1)]) :: Arr (.slice (some ⟨b169, 0, none⟩) 1 1) 1 ([.int .i64 2]) :: Box b171 [(.slice (some ⟨b164, 0, none⟩) (3 : Int).toNat (3 : Int).toNat), (.slice (some ⟨b167, 0, none⟩) 3 3), (.slice (some ⟨b169, 0, none⟩) 1 1)] :: hs) := H
        replace H := H.front 3 rfl
        replace H : Hp C wd274 ρ (Box b171 [(.slice (some ⟨b164, 0, none⟩) (3 : Int).toNat (3 : Int).toNat), (.slice (some ⟨b167, 0, none⟩) 3 3), (.slice (some ⟨b169, 0, none⟩) 1 1)] :: Arr (.slice (some ⟨b164, 0, none⟩) (3 : Int).toNat (3 : Int).toNat) 256 c250 :: Arr (.slice (some ⟨b167, 0, none⟩) 3 3) 1 ([.int .i64 (-1), .int .i64 0, .int .i64 (-1)]) :: Arr (.slice (some ⟨b169, 0, none⟩) 1 1) 1 ([.int .i64 2]) :: hs) := H
        obtain rfl := Option.some.inj hB272
        obtain rfl := hO273 _ rfl
        refine x_A fun a hf => ⟨c250, x251, rfl, r252, hf.sub ⟨rfl, trivial⟩, H⟩
  · rintro a wd288 ⟨c229, x230, rfl, r231, hf, H⟩
    try dsimp only at hF
    refine XX.at hf ?_
    refine x_then ?_
    refine CW.sub (E' := [(1, .pointer (some ⟨b171, 0, none⟩))]) ⟨rfl, trivial⟩ ?_
    refine C_seq ?_
    refine R_nd ?_
    refine nq (v := .agg #[(.slice (some ⟨b164, 0, none⟩) (3 : Int).toNat (3 : Int).toNat), (.slice (some ⟨b167, 0, none⟩) 3 3), (.slice (some ⟨b169, 0, none⟩) 1 1)]) (Q_ldB (k := 0) (cs := [(.slice (some ⟨b164, 0, none⟩) (3 : Int).toNat (3 : Int).toNat), (.slice (some ⟨b167, 0, none⟩) 3 3), (.slice (some ⟨b169, 0, none⟩) 1 1)]) H.ok rfl ty25 rfl rfl rfl (fun h => nomatch h) rfl) rfl rfl ?_
    replace H := H.front 3 rfl
    replace H : Hp C wd288 ρ (Arr (.slice (some ⟨b169, 0, none⟩) 1 1) 1 ([.int .i64 2]) :: Box b171 [(.slice (some ⟨b164, 0, none⟩) (3 : Int).toNat (3 : Int).toNat), (.slice (some ⟨b167, 0, none⟩) 3 3), (.slice (some ⟨b169, 0, none⟩) 1 1)] :: Arr (.slice (some ⟨b164, 0, none⟩) (3 : Int).toNat (3 : Int).toNat) 256 c229 :: Arr (.slice (some ⟨b167, 0, none⟩) 3 3) 1 ([.int .i64 (-1), .int .i64 0, .int .i64 (-1)]) :: hs) := H
    replace H := H.front 3 rfl
    replace H : Hp C wd288 ρ (Arr (.slice (some ⟨b167, 0, none⟩) 3 3) 1 ([.int .i64 (-1), .int .i64 0, .int .i64 (-1)]) :: Arr (.slice (some ⟨b169, 0, none⟩) 1 1) 1 ([.int .i64 2]) :: Box b171 [(.slice (some ⟨b164, 0, none⟩) (3 : Int).toNat (3 : Int).toNat), (.slice (some ⟨b167, 0, none⟩) 3 3), (.slice (some ⟨b169, 0, none⟩) 1 1)] :: Arr (.slice (some ⟨b164, 0, none⟩) (3 : Int).toNat (3 : Int).toNat) 256 c229 :: hs) := H
    replace H := H.front 3 rfl
    replace H : Hp C wd288 ρ (Arr (.slice (some ⟨b164, 0, none⟩) (3 : Int).toNat (3 : Int).toNat) 256 c229 :: Arr (.slice (some ⟨b167, 0, none⟩) 3 3) 1 ([.int .i64 (-1), .int .i64 0, .int .i64 (-1)]) :: Arr (.slice (some ⟨b169, 0, none⟩) 1 1) 1 ([.int .i64 2]) :: Box b171 [(.slice (some ⟨b164, 0, none⟩) (3 : Int).toNat (3 : Int).toNat), (.slice (some ⟨b167, 0, none⟩) 3 3), (.slice (some ⟨b169, 0, none⟩) 1 1)] :: hs) := H
    obtain ⟨q289, hq289, hF⟩ := bnd hF
    obtain ⟨C', ρ', hl290, HA, hL, hback⟩ := Hp.lend (A := []) (L := [Arr (.slice (some ⟨b164, 0, none⟩) (3 : Int).toNat (3 : Int).toNat) 256 c229, Arr (.slice (some ⟨b167, 0, none⟩) 3 3) 1 ([.int .i64 (-1), .int .i64 0, .int .i64 (-1)]), Arr (.slice (some ⟨b169, 0, none⟩) 1 1) 1 ([.int .i64 2])]) (F := Box b171 [(.slice (some ⟨b164, 0, none⟩) (3 : Int).toNat (3 : Int).toNat), (.slice (some ⟨b167, 0, none⟩) 3 3), (.slice (some ⟨b169, 0, none⟩) 1 1)] :: hs) H
    refine ne (E_call fn18 rfl (c_18 HA (gl0.up hl290) (arr_rd (by decide) hl290 (hL (Arr (.slice (some ⟨b164, 0, none⟩) (3 : Int).toNat (3 : Int).toNat) 256 c229) (by simp)) r231) (arr_rd (by decide) hl290 (hL (Arr (.slice (some ⟨b167, 0, none⟩) 3 3) 1 ([.int .i64 (-1), .int .i64 0, .int .i64 (-1)])) (by simp)) (show rdL (eI .i64) ρ ([(-1), 0, (-1)]) ([.int .i64 (-1), .int .i64 0, .int .i64 (-1)]) from ⟨([.int .i64 (-1)]), _, rfl, rfl, ⟨([.int .i64 0]), _, rfl, rfl, ⟨([.int .i64 (-1)]), _, rfl, rfl, rdL.nil⟩⟩⟩)) (arr_rd (by decide) hl290 (hL (Arr (.slice (some ⟨b169, 0, none⟩) 1 1) 1 ([.int .i64 2])) (by simp)) (show rdL (eI .i64) ρ ([2]) ([.int .i64 2]) from ⟨([.int .i64 2]), _, rfl, rfl, rdL.nil⟩)) hq289)) rfl rfl ?_
    rintro _ wd295 ⟨v291, c292, x293, rfl, rfl, r294, H⟩
    try dsimp only at hF
    replace H := hback H
    replace r294 := rdL.flat (ρ := ρ') (ρ' := ρ) (flat_I _) r294
    replace H : Hp C wd295 ρ (Arr v291 1 c292 :: Arr (.slice (some ⟨b164, 0, none⟩) (3 : Int).toNat (3 : Int).toNat) 256 c229 :: Arr (.slice (some ⟨b167, 0, none⟩) 3 3) 1 ([.int .i64 (-1), .int .i64 0, .int .i64 (-1)]) :: Arr (.slice (some ⟨b169, 0, none⟩) 1 1) 1 ([.int .i64 2]) :: Box b171 [(.slice (some ⟨b164, 0, none⟩) (3 : Int).toNat (3 : Int).toNat), (.slice (some ⟨b167, 0, none⟩) 3 3), (.slice (some ⟨b169, 0, none⟩) 1 1)] :: hs) := H
    refine ne (E_bslice (xs := [.const (.int .i64 0), .const (.int .i64 2), .const (.int .i64 1)]) (vs := [.int .i64 0, .int .i64 2, .int .i64 1]) H Tryd.underlying23 ty3 (by decide) (cs := [.int .i64 0, .int .i64 2, .int .i64 1]) rfl (sz_cons rfl (sz_cons rfl (sz_cons rfl sz_nil))) rfl (by simp) (by simp) rfl rfl) rfl rfl ?_
    rintro _ wd297 ⟨b296, rfl, H⟩
    replace H : Hp C wd297 ρ (Arr (.slice (some ⟨b296, 0, none⟩) 3 3) 1 ([.int .i64 0, .int .i64 2, .int .i64 1]) :: Arr v291 1 c292 :: Arr (.slice (some ⟨b164, 0, none⟩) (3 : Int).toNat (3 : Int).toNat) 256 c229 :: Arr (.slice (some ⟨b167, 0, none⟩) 3 3) 1 ([.int .i64 (-1), .int .i64 0, .int .i64 (-1)]) :: Arr (.slice (some ⟨b169, 0, none⟩) 1 1) 1 ([.int .i64 2]) :: Box b171 [(.slice (some ⟨b164, 0, none⟩) (3 : Int).toNat (3 : Int).toNat), (.slice (some ⟨b167, 0, none⟩) 3 3), (.slice (some ⟨b169, 0, none⟩) 1 1)] :: hs) := H
    replace H := H.front 1 rfl
    replace H : Hp C wd297 ρ (Arr v291 1 c292 :: Arr (.slice (some ⟨b296, 0, none⟩) 3 3) 1 ([.int .i64 0, .int .i64 2, .int .i64 1]) :: Arr (.slice (some ⟨b164, 0, none⟩) (3 : Int).toNat (3 : Int).toNat) 256 c229 :: Arr (.slice (some ⟨b167, 0, none⟩) 3 3) 1 ([.int .i64 (-1), .int .i64 0, .int .i64 (-1)]) :: Arr (.slice (some ⟨b169, 0, none⟩) 1 1) 1 ([.int .i64 2]) :: Box b171 [(.slice (some ⟨b164, 0, none⟩) (3 : Int).toNat (3 : Int).toNat), (.slice (some ⟨b167, 0, none⟩) 3 3), (.slice (some ⟨b169, 0, none⟩) 1 1)] :: hs) := H
    obtain ⟨q298, hq298, hF⟩ := bnd hF
    obtain ⟨C', ρ', hl299, HA, hL, hback⟩ := Hp.lend (A := []) (L := [Arr v291 1 c292, Arr (.slice (some ⟨b296, 0, none⟩) 3 3) 1 ([.int .i64 0, .int .i64 2, .int .i64 1])]) (F := Arr (.slice (some ⟨b164, 0, none⟩) (3 : Int).toNat (3 : Int).toNat) 256 c229 :: Arr (.slice (some ⟨b167, 0, none⟩) 3 3) 1 ([.int .i64 (-1), .int .i64 0, .int .i64 (-1)]) :: Arr (.slice (some ⟨b169, 0, none⟩) 1 1) 1 ([.int .i64 2]) :: Box b171 [(.slice (some ⟨b164, 0, none⟩) (3 : Int).toNat (3 : Int).toNat), (.slice (some ⟨b167, 0, none⟩) 3 3), (.slice (some ⟨b169, 0, none⟩) 1 1)] :: hs) H
    refine ne (E_call fn22 rfl (c_22 HA  (arr_rd (by decide) hl299 (hL (Arr v291 1 c292) (by simp)) r294) (arr_rd (by decide) hl299 (hL (Arr (.slice (some ⟨b296, 0, none⟩) 3 3) 1 ([.int .i64 0, .int .i64 2, .int .i64 1])) (by simp)) (show rdL (eI .i64) ρ ([0, 2, 1]) ([.int .i64 0, .int .i64 2, .int .i64 1]) from ⟨([.int .i64 0]), _, rfl, rfl, ⟨([.int .i64 2]), _, rfl, rfl, ⟨([.int .i64 1]), _, rfl, rfl, rdL.nil⟩⟩⟩)) hq298)) rfl rfl ?_
    rintro _ wd301 ⟨x300, rfl, rfl, H⟩
    try dsimp only at hF
    replace H := hback H
    replace H : Hp C wd301 ρ (Arr v291 1 c292 :: Arr (.slice (some ⟨b296, 0, none⟩) 3 3) 1 ([.int .i64 0, .int .i64 2, .int .i64 1]) :: Arr (.slice (some ⟨b164, 0, none⟩) (3 : Int).toNat (3 : Int).toNat) 256 c229 :: Arr (.slice (some ⟨b167, 0, none⟩) 3 3) 1 ([.int .i64 (-1), .int .i64 0, .int .i64 (-1)]) :: Arr (.slice (some ⟨b169, 0, none⟩) 1 1) 1 ([.int .i64 2]) :: Box b171 [(.slice (some ⟨b164, 0, none⟩) (3 : Int).toNat (3 : Int).toNat), (.slice (some ⟨b167, 0, none⟩) 3 3), (.slice (some ⟨b169, 0, none⟩) 1 1)] :: hs) := H
    refine nq (v := .bool x300) (Q_assign rfl) rfl rfl ?_
    refine WL_nil ?_
    refine x_then ?_
    refine CW.sub (E' := [(0, .bool x300)]) ⟨rfl, trivial⟩ ?_
    refine C_ret ?_
    replace H := H.drop 0 rfl
    replace H : Hp C wd301 ρ (Arr (.slice (some ⟨b296, 0, none⟩) 3 3) 1 ([.int .i64 0, .int .i64 2, .int .i64 1]) :: Arr (.slice (some ⟨b164, 0, none⟩) (3 : Int).toNat (3 : Int).toNat) 256 c229 :: Arr (.slice (some ⟨b167, 0, none⟩) 3 3) 1 ([.int .i64 (-1), .int .i64 0, .int .i64 (-1)]) :: Arr (.slice (some ⟨b169, 0, none⟩) 1 1) 1 ([.int .i64 2]) :: Box b171 [(.slice (some ⟨b164, 0, none⟩) (3 : Int).toNat (3 : Int).toNat), (.slice (some ⟨b167, 0, none⟩) 3 3), (.slice (some ⟨b169, 0, none⟩) 1 1)] :: hs) := H
    replace H := H.drop 0 rfl
    replace H : Hp C wd301 ρ (Arr (.slice (some ⟨b164, 0, none⟩) (3 : Int).toNat (3 : Int).toNat) 256 c229 :: Arr (.slice (some ⟨b167, 0, none⟩) 3 3) 1 ([.int .i64 (-1), .int .i64 0, .int .i64 (-1)]) :: Arr (.slice (some ⟨b169, 0, none⟩) 1 1) 1 ([.int .i64 2]) :: Box b171 [(.slice (some ⟨b164, 0, none⟩) (3 : Int).toNat (3 : Int).toNat), (.slice (some ⟨b167, 0, none⟩) 3 3), (.slice (some ⟨b169, 0, none⟩) 1 1)] :: hs) := H
    replace H := H.drop 0 rfl
    replace H : Hp C wd301 ρ (Arr (.slice (some ⟨b167, 0, none⟩) 3 3) 1 ([.int .i64 (-1), .int .i64 0, .int .i64 (-1)]) :: Arr (.slice (some ⟨b169, 0, none⟩) 1 1) 1 ([.int .i64 2]) :: Box b171 [(.slice (some ⟨b164, 0, none⟩) (3 : Int).toNat (3 : Int).toNat), (.slice (some ⟨b167, 0, none⟩) 3 3), (.slice (some ⟨b169, 0, none⟩) 1 1)] :: hs) := H
    replace H := H.drop 0 rfl
    replace H : Hp C wd301 ρ (Arr (.slice (some ⟨b169, 0, none⟩) 1 1) 1 ([.int .i64 2]) :: Box b171 [(.slice (some ⟨b164, 0, none⟩) (3 : Int).toNat (3 : Int).toNat), (.slice (some ⟨b167, 0, none⟩) 3 3), (.slice (some ⟨b169, 0, none⟩) 1 1)] :: hs) := H
    replace H := H.drop 0 rfl
    replace H : Hp C wd301 ρ (Box b171 [(.slice (some ⟨b164, 0, none⟩) (3 : Int).toNat (3 : Int).toNat), (.slice (some ⟨b167, 0, none⟩) 3 3), (.slice (some ⟨b169, 0, none⟩) 1 1)] :: hs) := H
    replace H := H.drop 0 rfl
    replace H : Hp C wd301 ρ (hs) := H
    obtain rfl := Option.some.inj hF
    exact fn_ret (l := [.tmp 0]) (vs := [.bool x300]) rfl rfl rfl ⟨x300, rfl, rfl, H⟩
theorem c_15 {N : Nat} {C : Cx} {w : World} {ρ : View} {hs : List Hl} {v1 : Value} {v4 : Value} {v7 : Value} {x2 : (List (List Int))} {x5 : (List Int)} {x8 : (List Int)} {x10 : Int} (H : Hp C w ρ (hs)) (r3 : RdSl ρ (eA 256 (eI .i64)) v1 x2) (r6 : RdSl ρ (eI .i64) v4 x5) (r9 : RdSl ρ (eI .i64) v7 x8) {r : ((List (List Int)) × Bool)} (hF : F_dofferlaw17_Of N x2 x5 x8 x10 = some r) :
    Calls Tryd.prog 15 [.agg #[v1, v4, v7], .int .i64 x10].toArray w (Rets (fun v w' => (∃ (v181 : Value) (c182 : (List Value)) (x183 : (List (List Int))) (x185 : Bool), (x183, x185) = r ∧ .tuple [.agg #[v181, v4, v7], .bool x185].toArray = v ∧ rdL (eA 256 (eI .i64)) ρ x183 c182 ∧ Hp C w' ρ (Arr v181 256 c182 :: hs)))) := by
  unfold F_dofferlaw17_Of at hF
  have h0 : Tryd.f15.body = some _ := rfl
  refine fn_calls' Tryd.func15 h0 (n := 48) rfl (by simp) ?_
  refine C_seq ?_
  refine R_nd ?_
  refine ne (E_box H (vs := [v1, v4, v7]) rfl rfl) rfl rfl ?_
  rintro _ wd187 ⟨b186, rfl, H⟩
  replace H : Hp C wd187 ρ (Box b186 [v1, v4, v7] :: hs) := H
  refine ne (E_alloc H ty29 (zs := [.slice none 0 0, .slice none 0 0, .slice none 0 0]) rfl) rfl rfl ?_
  rintro _ wd189 ⟨b188, rfl, H⟩
  replace H : Hp C wd189 ρ (Box b188 [.slice none 0 0, .slice none 0 0, .slice none 0 0] :: Box b186 [v1, v4, v7] :: hs) := H
  refine nq (v := .bool false) (Q_assign rfl) rfl rfl ?_
  refine WL_nil ?_
  refine x_then ?_
  refine CW.sub (E' := [(1, .int .i64 x10), (2, .pointer (some ⟨b186, 0, none⟩)), (4, .pointer (some ⟨b188, 0, none⟩))]) ⟨rfl, rfl, rfl, trivial⟩ ?_
  refine C_seq ?_
  refine R_nd ?_
  refine nq (v := .pointer (some ⟨b186, 1, none⟩)) (Q_fld Tryd.underlying25 rfl ty23 (by decide) rfl rfl) rfl rfl ?_
  refine nq (v := v4) (Q_ldB (k := 1) (cs := [v4]) H.ok rfl ty23 rfl rfl rfl (fun _ => rfl) rfl) rfl rfl ?_
  refine nq (v := .pointer (some ⟨b186, 2, none⟩)) (Q_fld Tryd.underlying25 rfl ty23 (by decide) rfl rfl) rfl rfl ?_
  refine nq (v := v7) (Q_ldB (k := 1) (cs := [v7]) H.ok rfl ty23 rfl rfl rfl (fun _ => rfl) rfl) rfl rfl ?_
  refine nq (v := .agg #[.slice none 0 0, v4, v7]) (Q_buildS st29.choose_spec (ps := [(1, [v4]), (2, [v7])]) rfl ⟨rfl, (RdSl.cells r6), by simp, ⟨rfl, (RdSl.cells r9), by simp, trivial⟩⟩ rfl) rfl rfl ?_
  refine ne (E_alloc H ty29 (zs := [.slice none 0 0, .slice none 0 0, .slice none 0 0]) rfl) rfl rfl ?_
  rintro _ wd191 ⟨b190, rfl, H⟩
  replace H : Hp C wd191 ρ (Box b190 [.slice none 0 0, .slice none 0 0, .slice none 0 0] :: Box b188 [.slice none 0 0, .slice none 0 0, .slice none 0 0] :: Box b186 [v1, v4, v7] :: hs) := H
  refine ne (E_stB (k := 0) (cs := [.slice none 0 0, v4, v7]) (vs' := [.slice none 0 0, v4, v7]) H rfl ty29 rfl rfl rfl rfl (one_cons rfl (one_cons (RdSl.one r6) (one_cons (RdSl.one r9) one_nil))) (by simp) rfl) rfl rfl ?_
  rintro _ wd192 H
  replace H : Hp C wd192 ρ (Box b190 [.slice none 0 0, v4, v7] :: Box b188 [.slice none 0 0, .slice none 0 0, .slice none 0 0] :: Box b186 [v1, v4, v7] :: hs) := H
  refine WL_nil ?_
  refine x_then ?_
  refine CW.sub (E' := [(1, .int .i64 x10), (2, .pointer (some ⟨b186, 0, none⟩)), (4, .pointer (some ⟨b188, 0, none⟩)), (6, .pointer (some ⟨b190, 0, none⟩))]) ⟨rfl, rfl, rfl, rfl, trivial⟩ ?_
  refine C_seq ?_
  obtain ⟨o194, ho194, hF⟩ := bnd hF
  refine C_cut (fun a w' => ∃ (x193 : Bool), x193 = o194 ∧ Fr 48 a [(2, .pointer (some ⟨b186, 0, none⟩)), (4, .pointer (some ⟨b188, 0, none⟩)), (6, .pointer (some ⟨b190, 0, none⟩)), (31, .bool x193)] ∧ Hp C w' ρ (Box b186 [v1, v4, v7] :: Box b188 [.slice none 0 0, .slice none 0 0, .slice none 0 0] :: Box b190 [.slice none 0 0, v4, v7] :: hs)) ?_ ?_
  · refine R_nd ?_
    refine nq (v := .pointer (some ⟨b186, 0, none⟩)) (Q_fld Tryd.underlying25 rfl ty22 (by decide) rfl rfl) rfl rfl ?_
    refine nq (v := v1) (Q_ldB (k := 2) (cs := [v1]) H.ok rfl ty22 rfl rfl rfl (fun _ => rfl) rfl) rfl rfl ?_
    refine nq (v := .int .i64 (x2.length : Int)) (Q_len Tryd.underlying22 rfl r3) rfl rfl ?_
    refine nq (v := .int .i64 x10) (Q_move rfl) rfl rfl ?_
    refine nq (v := .bool (decide ((x2.length : Int) > x10))) (Q_gtr rfl rfl) rfl rfl ?_
    refine nq (v := .bool (decide ((x2.length : Int) > x10))) (Q_move rfl) rfl rfl ?_
    rcases Bool.eq_false_or_eq_true (decide ((x2.length : Int) > x10)) with hb | hb
    · rw [hb]
      replace ho194 := itT hb ho194
      refine gs rfl rfl rfl rfl ?_
      refine gs rfl rfl rfl rfl ?_
      refine gs rfl rfl rfl rfl ?_
      refine gs rfl rfl rfl rfl ?_
      refine gs rfl rfl rfl rfl ?_
      refine nq (v := .bool true) (Q_pickT rfl rfl) rfl rfl ?_
      refine nq (v := .bool true) (Q_move rfl) rfl rfl ?_
      refine gs rfl rfl rfl rfl ?_
      refine gs rfl rfl rfl rfl ?_
      refine gs rfl rfl rfl rfl ?_
      refine gs rfl rfl rfl rfl ?_
      refine nq (v := .bool true) (Q_pickT rfl rfl) rfl rfl ?_
      refine WL_nil ?_
      replace H := H.front 1 rfl
      replace H : Hp C wd192 ρ (Box b188 [.slice none 0 0, .slice none 0 0, .slice none 0 0] :: Box b190 [.slice none 0 0, v4, v7] :: Box b186 [v1, v4, v7] :: hs) := H
      replace H := H.front 2 rfl
      replace H : Hp C wd192 ρ (Box b186 [v1, v4, v7] :: Box b188 [.slice none 0 0, .slice none 0 0, .slice none 0 0] :: Box b190 [.slice none 0 0, v4, v7] :: hs) := H
      obtain rfl := Option.some.inj ho194
      refine x_A fun a hf => ⟨true, rfl, hf.sub ⟨rfl, rfl, rfl, rfl, trivial⟩, H⟩
    · rw [hb]
      replace ho194 := itF hb ho194
      refine gq (v := .pointer (some ⟨b186, 1, none⟩)) (Q_fld Tryd.underlying25 rfl ty23 (by decide) rfl rfl) rfl rfl rfl ?_
      refine gq (v := v4) (Q_ldB (k := 2) (cs := [v4]) H.ok rfl ty23 rfl rfl rfl (fun _ => rfl) rfl) rfl rfl rfl ?_
      refine gq (v := .int .i64 (x5.length : Int)) (Q_len Tryd.underlying23 rfl r6) rfl rfl rfl ?_
      refine gq (v := .int .i64 x10) (Q_move rfl) rfl rfl rfl ?_
      refine gq (v := .bool (decide ((x5.length : Int) > x10))) (Q_gtr rfl rfl) rfl rfl rfl ?_
      refine nq (v := .bool (decide ((x5.length : Int) > x10))) (Q_pickF rfl rfl) rfl rfl ?_
      refine nq (v := .bool (decide ((x5.length : Int) > x10))) (Q_move rfl) rfl rfl ?_
      rcases Bool.eq_false_or_eq_true (decide ((x5.length : Int) > x10)) with hb | hb
      · rw [hb]
        replace ho194 := itT hb ho194
        refine gs rfl rfl rfl rfl ?_
        refine gs rfl rfl rfl rfl ?_
        refine gs rfl rfl rfl rfl ?_
        refine gs rfl rfl rfl rfl ?_
        refine nq (v := .bool true) (Q_pickT rfl rfl) rfl rfl ?_
        refine WL_nil ?_
        replace H := H.front 1 rfl
        replace H : Hp C wd192 ρ (Box b188 [.slice none 0 0, .slice none 0 0, .slice none 0 0] :: Box b190 [.slice none 0 0, v4, v7] :: Box b186 [v1, v4, v7] :: hs) := H
        replace H := H.front 2 rfl
        replace H : Hp C wd192 ρ (Box b186 [v1, v4, v7] :: Box b188 [.slice none 0 0, .slice none 0 0, .slice none 0 0] :: Box b190 [.slice none 0 0, v4, v7] :: hs) := H
        obtain rfl := Option.some.inj ho194
        refine x_A fun a hf => ⟨true, rfl, hf.sub ⟨rfl, rfl, rfl, rfl, trivial⟩, H⟩
      · rw [hb]
        replace ho194 := itF hb ho194
        refine gq (v := .pointer (some ⟨b186, 2, none⟩)) (Q_fld Tryd.underlying25 rfl ty23 (by decide) rfl rfl) rfl rfl rfl ?_
        refine gq (v := v7) (Q_ldB (k := 2) (cs := [v7]) H.ok rfl ty23 rfl rfl rfl (fun _ => rfl) rfl) rfl rfl rfl ?_
        refine gq (v := .int .i64 (x8.length : Int)) (Q_len Tryd.underlying23 rfl r9) rfl rfl rfl ?_
        refine gq (v := .bool (decide ((x8.length : Int) > 20))) (Q_gtr rfl rfl) rfl rfl rfl ?_
        refine nq (v := .bool (decide ((x8.length : Int) > 20))) (Q_pickF rfl rfl) rfl rfl ?_
        refine WL_nil ?_
        replace H := H.front 1 rfl
        replace H : Hp C wd192 ρ (Box b188 [.slice none 0 0, .slice none 0 0, .slice none 0 0] :: Box b190 [.slice none 0 0, v4, v7] :: Box b186 [v1, v4, v7] :: hs) := H
        replace H := H.front 2 rfl
        replace H : Hp C wd192 ρ (Box b186 [v1, v4, v7] :: Box b188 [.slice none 0 0, .slice none 0 0, .slice none 0 0] :: Box b190 [.slice none 0 0, v4, v7] :: hs) := H
        obtain rfl := Option.some.inj ho194
        refine x_A fun a hf => ⟨decide ((x8.length : Int) > 20), rfl, hf.sub ⟨rfl, rfl, rfl, rfl, trivial⟩, H⟩
  · rintro a wd195 ⟨x193, rfl, hf, H⟩
    try dsimp only at hF
    refine CW.at hf ?_
    refine C_cond rfl (fun hb => ?_) (fun hb => ?_)
    · replace hF := itT hb hF
      refine C_seq ?_
      refine R_nd ?_
      refine nq (v := .agg #[.slice none 0 0, v4, v7]) (Q_ldB (k := 2) (cs := [.slice none 0 0, v4, v7]) H.ok rfl ty29 rfl rfl rfl (fun h => nomatch h) rfl) rfl rfl ?_
      refine ne (E_stB (k := 1) (cs := [.slice none 0 0, v4, v7]) (vs' := [.slice none 0 0, v4, v7]) H rfl ty29 rfl rfl rfl rfl (one_cons rfl (one_cons (RdSl.one r6) (one_cons (RdSl.one r9) one_nil))) (by simp) rfl) rfl rfl ?_
      rintro _ wd196 H
      replace H : Hp C wd196 ρ (Box b186 [v1, v4, v7] :: Box b188 [.slice none 0 0, v4, v7] :: Box b190 [.slice none 0 0, v4, v7] :: hs) := H
      refine nq (v := .bool false) (Q_assign rfl) rfl rfl ?_
      refine WL_nil ?_
      refine x_then ?_
      refine CW.sub (E' := [(4, .pointer (some ⟨b188, 0, none⟩)), (5, .bool false)]) ⟨rfl, rfl, trivial⟩ ?_
      refine C_ret ?_
      refine x_then_ret ?_
      have H := H.nilArr 256
      replace H : Hp C wd196 ρ (Arr (.slice none 0 0) 256 ([]) :: Box b186 [v1, v4, v7] :: Box b188 [.slice none 0 0, v4, v7] :: Box b190 [.slice none 0 0, v4, v7] :: hs) := H
      have hRV : RV Tryd.prog wd196 [(4, .pointer (some ⟨b188, 0, none⟩)), (5, .bool false)] [.cell 4 29, .tmp 5] [.agg #[(.slice none 0 0), v4, v7], .bool false] := ⟨⟨_, rfl, run_ldv ty29 rfl (fun h => nomatch h) (box_at (H.ok.get (k := 2) rfl) 0 3)⟩, rfl, trivial⟩
      replace H := H.drop 1 rfl
      replace H : Hp C wd196 ρ (Arr (.slice none 0 0) 256 ([]) :: Box b188 [.slice none 0 0, v4, v7] :: Box b190 [.slice none 0 0, v4, v7] :: hs) := H
      replace H := H.drop 1 rfl
      replace H : Hp C wd196 ρ (Arr (.slice none 0 0) 256 ([]) :: Box b190 [.slice none 0 0, v4, v7] :: hs) := H
      replace H := H.drop 1 rfl
      replace H : Hp C wd196 ρ (Arr (.slice none 0 0) 256 ([]) :: hs) := H
      obtain rfl := Option.some.inj hF
      exact fn_retV (rs := [.cell 4 29, .tmp 5]) (vs := [.agg #[(.slice none 0 0), v4, v7], .bool false]) rfl hRV ⟨(.slice none 0 0), [], [], false, rfl, rfl, rdL.nil, H⟩
    · replace hF := itF hb hF
      refine C_skip ?_
      refine x_then ?_
      refine CW.sub (E' := [(2, .pointer (some ⟨b186, 0, none⟩)), (4, .pointer (some ⟨b188, 0, none⟩)), (6, .pointer (some ⟨b190, 0, none⟩))]) ⟨rfl, rfl, rfl, trivial⟩ ?_
      refine C_seq ?_
      refine C_seq ?_
      refine R_nd ?_
      refine nq (v := .pointer (some ⟨b186, 0, none⟩)) (Q_fld Tryd.underlying25 rfl ty22 (by decide) rfl rfl) rfl rfl ?_
      refine nq (v := v1) (Q_ldB (k := 0) (cs := [v1]) H.ok rfl ty22 rfl rfl rfl (fun _ => rfl) rfl) rfl rfl ?_
      refine nq (v := .int .i64 (x2.length : Int)) (Q_len Tryd.underlying22 rfl r3) rfl rfl ?_
      refine nq (v := .int .i64 0) (Q_move rfl) rfl rfl ?_
      refine WL_nil ?_
      refine x_then ?_
      refine CW.sub (E' := [(4, .pointer (some ⟨b188, 0, none⟩)), (6, .pointer (some ⟨b190, 0, none⟩)), (34, v1), (35, .int .i64 (x2.length : Int)), (36, .int .i64 0)]) ⟨rfl, rfl, rfl, rfl, rfl, trivial⟩ ?_
      obtain ⟨o277, ho277, hF⟩ := bnd hF
      refine C_cutQ (fun a w' => ∃ (v273 : Value) (c274 : (List Value)) (x275 : (List (List Int))), x275 = o277 ∧ rdL (eA 256 (eI .i64)) ρ x275 c274 ∧ Fr 48 a [(4, .pointer (some ⟨b188, 0, none⟩)), (6, .pointer (some ⟨b190, 0, none⟩))] ∧ Hp C w' ρ (Box b188 [.slice none 0 0, .slice none 0 0, .slice none 0 0] :: Box b190 [v273, v4, v7] :: Arr v273 256 c274 :: hs)) ?_ ?_
      · refine C_block ?_
        have H := H.nilArr 256
        replace H : Hp C wd195 ρ (Arr (.slice none 0 0) 256 ([]) :: Box b186 [v1, v4, v7] :: Box b188 [.slice none 0 0, .slice none 0 0, .slice none 0 0] :: Box b190 [.slice none 0 0, v4, v7] :: hs) := H
        replace H := H.front 3 rfl
        replace H : Hp C wd195 ρ (Box b190 [.slice none 0 0, v4, v7] :: Arr (.slice none 0 0) 256 ([]) :: Box b186 [v1, v4, v7] :: Box b188 [.slice none 0 0, .slice none 0 0, .slice none 0 0] :: hs) := H
        replace H := H.front 3 rfl
        replace H : Hp C wd195 ρ (Box b188 [.slice none 0 0, .slice none 0 0, .slice none 0 0] :: Box b190 [.slice none 0 0, v4, v7] :: Arr (.slice none 0 0) 256 ([]) :: Box b186 [v1, v4, v7] :: hs) := H
        replace H := H.drop 3 rfl
        replace H : Hp C wd195 ρ (Box b188 [.slice none 0 0, .slice none 0 0, .slice none 0 0] :: Box b190 [.slice none 0 0, v4, v7] :: Arr (.slice none 0 0) 256 ([]) :: hs) := H
        refine C_iter (f := fun s => F_dofferlaw17_Of_l0 N x2 s.1 s.2) ho277 (fun s a w' => ∃ (v303 : Value) (c304 : (List Value)) (x302 : Int) (x305 : (List (List Int))), (x302, x305) = s ∧ rdL (eA 256 (eI .i64)) ρ x305 c304 ∧ Fr 48 a [(4, .pointer (some ⟨b188, 0, none⟩)), (6, .pointer (some ⟨b190, 0, none⟩)), (34, v1), (35, .int .i64 (x2.length : Int)), (36, .int .i64 x302)] ∧ Hp C w' ρ (Box b188 [.slice none 0 0, .slice none 0 0, .slice none 0 0] :: Box b190 [v303, v4, v7] :: Arr v303 256 c304 :: hs)) ?_ ?_
        · exact fun a hf => ⟨(.slice none 0 0), [], 0, [], rfl, rdL.nil, hf.sub ⟨rfl, rfl, rfl, rfl, rfl, trivial⟩, H⟩
        · rintro s o331 a wd334 ⟨v303, c304, x302, x305, rfl, r306, hf, H⟩ hB332 hO333
          replace hB332 : F_dofferlaw17_Of_l0 N x2 x302 x305 = some o331 := hB332
          unfold F_dofferlaw17_Of_l0 at hB332
          refine CW.at hf ?_
          refine C_seq ?_
          refine R_nd ?_
          refine nq (v := .bool (decide (x302 < (x2.length : Int)))) (Q_lss rfl rfl) rfl rfl ?_
          refine WL_nil ?_
          refine x_then ?_
          refine CW.sub (E' := [(4, .pointer (some ⟨b188, 0, none⟩)), (6, .pointer (some ⟨b190, 0, none⟩)), (34, v1), (35, .int .i64 (x2.length : Int)), (36, .int .i64 x302), (37, .bool (decide (x302 < (x2.length : Int))))]) ⟨rfl, rfl, rfl, rfl, rfl, rfl, trivial⟩ ?_
          refine C_seq ?_
          refine C_cond rfl (fun hb => ?_) (fun hb => ?_)
          · replace hB332 := itT hb hB332
            refine C_skip ?_
            refine x_then ?_
            refine CW.sub (E' := [(4, .pointer (some ⟨b188, 0, none⟩)), (6, .pointer (some ⟨b190, 0, none⟩)), (34, v1), (35, .int .i64 (x2.length : Int)), (36, .int .i64 x302)]) ⟨rfl, rfl, rfl, rfl, rfl, trivial⟩ ?_
            refine C_seq ?_
            refine C_block ?_
            refine C_seq ?_
            refine R_nd ?_
            obtain ⟨x335, hx335, hB332⟩ := bnd hB332
            obtain ⟨b336, o337, c338, hc339, ha340, hi341⟩ := idxR r3 hx335
            refine nq (v := .pointer (some ⟨b336, o337, none⟩)) (Q_idx hi341 Tryd.underlying22 ty58 rfl rfl) rfl rfl ?_
            refine nq (v := .agg c338.toArray) (Q_ld (ha340.up H.ok.view) ty58 ((eA 256 (eI .i64)).len hc339) (fun h => nomatch h) rfl rfl) rfl rfl ?_
            refine ne (E_allocA (N := 256) (n := 1) (zs := (repC 256 [.int .i64 0])) H ty58 rfl (by simp [repC_length])) rfl rfl ?_
            rintro _ wd343 ⟨b342, rfl, H⟩
            replace H : Hp C wd343 ρ (Arr (.slice (some ⟨b342, 0, none⟩) 256 256) 1 (repC 256 [.int .i64 0]) :: Box b188 [.slice none 0 0, .slice none 0 0, .slice none 0 0] :: Box b190 [v303, v4, v7] :: Arr v303 256 c304 :: hs) := H
            refine ne (E_stW (k := 0) H rfl ty58 rfl rfl (rdL.one hc339.2) (arr_clen (rdL_rep (e:=(eI .i64)) (ρ:=ρ) (rfl) 256) List.length_replicate) (arr_clen hc339.2 hc339.1)) rfl rfl ?_
            rintro _ wd344 H
            replace H : Hp C wd344 ρ (Arr (.slice (some ⟨b342, 0, none⟩) 256 256) 1 c338 :: Box b188 [.slice none 0 0, .slice none 0 0, .slice none 0 0] :: Box b190 [v303, v4, v7] :: Arr v303 256 c304 :: hs) := H
            refine WL_nil ?_
            refine x_then ?_
            refine CW.sub (E' := [(4, .pointer (some ⟨b188, 0, none⟩)), (6, .pointer (some ⟨b190, 0, none⟩)), (8, .pointer (some ⟨b342, 0, none⟩)), (34, v1), (35, .int .i64 (x2.length : Int)), (36, .int .i64 x302)]) ⟨rfl, rfl, rfl, rfl, rfl, rfl, trivial⟩ ?_
            refine R_nd ?_
            refine nq (v := .pointer (some ⟨b190, 0, none⟩)) (Q_fld Tryd.underlying29 rfl ty27 (by decide) rfl rfl) rfl rfl ?_
            refine nq (v := v303) (Q_ldB (k := 2) (cs := [v303]) H.ok rfl ty27 rfl rfl rfl (fun _ => rfl) rfl) rfl rfl ?_
            refine nq (v := .agg c338.toArray) (Q_ldW (k := 0) H.ok rfl ty58 rfl (arr_clen hc339.2 hc339.1)) rfl rfl ?_
            refine ne (E_bslice (xs := [.tmp 42]) (vs := [.agg c338.toArray]) H Tryd.underlying27 ty57 (by decide) (cs := c338) rfl (sz_cons (arr_clen hc339.2 hc339.1) sz_nil) (by simp [Value.cells]) (by simp) (by simp) rfl rfl) rfl rfl ?_
            rintro _ wd346 ⟨b345, rfl, H⟩
            replace H : Hp C wd346 ρ (Arr (.slice (some ⟨b345, 0, none⟩) 1 1) 256 c338 :: Arr (.slice (some ⟨b342, 0, none⟩) 256 256) 1 c338 :: Box b188 [.slice none 0 0, .slice none 0 0, .slice none 0 0] :: Box b190 [v303, v4, v7] :: Arr v303 256 c304 :: hs) := H
            obtain ⟨x347, hx347, hB332⟩ := bnd hB332
            obtain ⟨ha348a, ha348b⟩ := app_some hx347
            have r350 : rdL (eA 256 (eI .i64)) ρ x347 (c304 ++ c338) := ha348b ▸ rdL.app r306 (show rdL (eA 256 (eI .i64)) ρ ([x335]) c338 from rdL.single ⟨hc339.1, hc339.2⟩)
            refine ne (E_append (k := 4) H rfl Tryd.underlying27 ty57 rfl (by decide) (by decide) rfl rfl (Src.ofArr (k := 0) H.ok rfl) (rdL.one (show rdL (eA 256 (eI .i64)) ρ ([x335]) c338 from rdL.single ⟨hc339.1, hc339.2⟩)) (app_fit r306 (show rdL (eA 256 (eI .i64)) ρ ([x335]) c338 from rdL.single ⟨hc339.1, hc339.2⟩) ha348a)) rfl rfl ?_
            rintro v349 wd352 ⟨H, hc351⟩
            replace H : Hp C wd352 ρ (Arr (.slice (some ⟨b345, 0, none⟩) 1 1) 256 c338 :: Arr (.slice (some ⟨b342, 0, none⟩) 256 256) 1 c338 :: Box b188 [.slice none 0 0, .slice none 0 0, .slice none 0 0] :: Box b190 [v303, v4, v7] :: Arr v349 256 (c304 ++ c338) :: hs) := H
            refine nq (v := .pointer (some ⟨b190, 0, none⟩)) (Q_fld Tryd.underlying29 rfl ty27 (by decide) rfl rfl) rfl rfl ?_
            refine ne (E_stB (k := 3) (cs := [v349]) (vs' := [v349, v4, v7]) H rfl ty27 rfl rfl (arr_cells (H.ok.get (k := 4) rfl)).1 rfl (one_cons (arr_cells (H.ok.get (k := 4) rfl)).2 one_nil) (by simp) rfl) rfl rfl ?_
            rintro _ wd353 H
            replace H : Hp C wd353 ρ (Arr (.slice (some ⟨b345, 0, none⟩) 1 1) 256 c338 :: Arr (.slice (some ⟨b342, 0, none⟩) 256 256) 1 c338 :: Box b188 [.slice none 0 0, .slice none 0 0, .slice none 0 0] :: Box b190 [v349, v4, v7] :: Arr v349 256 (c304 ++ c338) :: hs) := H
            refine WL_nil ?_
            refine x_block ?_
            refine x_then ?_
            refine CW.sub (E' := [(4, .pointer (some ⟨b188, 0, none⟩)), (6, .pointer (some ⟨b190, 0, none⟩)), (34, v1), (35, .int .i64 (x2.length : Int)), (36, .int .i64 x302)]) ⟨rfl, rfl, rfl, rfl, rfl, trivial⟩ ?_
            refine R_nd ?_
            refine nq (v := .int .i64 (w64 (x302 + 1))) (Q_add rfl rfl) rfl rfl ?_
            refine nq (v := .int .i64 (w64 (x302 + 1))) (Q_move rfl) rfl rfl ?_
            refine WL_nil ?_
            replace H := H.front 4 rfl
            replace H : Hp C wd353 ρ (Arr v349 256 (c304 ++ c338) :: Arr (.slice (some ⟨b345, 0, none⟩) 1 1) 256 c338 :: Arr (.slice (some ⟨b342, 0, none⟩) 256 256) 1 c338 :: Box b188 [.slice none 0 0, .slice none 0 0, .slice none 0 0] :: Box b190 [v349, v4, v7] :: hs) := H
            replace H := H.front 4 rfl
            replace H : Hp C wd353 ρ (Box b190 [v349, v4, v7] :: Arr v349 256 (c304 ++ c338) :: Arr (.slice (some ⟨b345, 0, none⟩) 1 1) 256 c338 :: Arr (.slice (some ⟨b342, 0, none⟩) 256 256) 1 c338 :: Box b188 [.slice none 0 0, .slice none 0 0, .slice none 0 0] :: hs) := H
            replace H := H.front 4 rfl
            replace H : Hp C wd353 ρ (Box b188 [.slice none 0 0, .slice none 0 0, .slice none 0 0] :: Box b190 [v349, v4, v7] :: Arr v349 256 (c304 ++ c338) :: Arr (.slice (some ⟨b345, 0, none⟩) 1 1) 256 c338 :: Arr (.slice (some ⟨b342, 0, none⟩) 256 256) 1 c338 :: hs) := H
            replace H := H.drop 3 rfl
            replace H : Hp C wd353 ρ (Box b188 [.slice none 0 0, .slice none 0 0, .slice none 0 0] :: Box b190 [v349, v4, v7] :: Arr v349 256 (c304 ++ c338) :: Arr (.slice (some ⟨b342, 0, none⟩) 256 256) 1 c338 :: hs) := H
            replace H := H.drop 3 rfl
            replace H : Hp C wd353 ρ (Box b188 [.slice none 0 0, .slice none 0 0, .slice none 0 0] :: Box b190 [v349, v4, v7] :: Arr v349 256 (c304 ++ c338) :: hs) := H
            obtain rfl := Option.some.inj hB332
            refine x_A fun a hf => ⟨_, rfl, v349, (c304 ++ c338), w64 (x302 + 1), x347, rfl, r350, hf.sub ⟨rfl, rfl, rfl, rfl, rfl, trivial⟩, H⟩
          · replace hB332 := itF hb hB332
            refine C_exit ?_
            refine x_then_exit ?_
            refine x_then_exit ?_
            refine x_block_exit ?_
            replace H := H.front 2 rfl
            replace H : Hp C wd334 ρ (Arr v303 256 c304 :: Box b188 [.slice none 0 0, .slice none 0 0, .slice none 0 0] :: Box b190 [v303, v4, v7] :: hs) := H
            replace H := H.front 2 rfl
            replace H : Hp C wd334 ρ (Box b190 [v303, v4, v7] :: Arr v303 256 c304 :: Box b188 [.slice none 0 0, .slice none 0 0, .slice none 0 0] :: hs) := H
            replace H := H.front 2 rfl
            replace H : Hp C wd334 ρ (Box b188 [.slice none 0 0, .slice none 0 0, .slice none 0 0] :: Box b190 [v303, v4, v7] :: Arr v303 256 c304 :: hs) := H
            obtain rfl := Option.some.inj hB332
            obtain rfl := hO333 _ rfl
            refine x_A fun a hf => ⟨v303, c304, x305, rfl, r306, hf.sub ⟨rfl, rfl, trivial⟩, H⟩
      · rintro a wd354 ⟨v273, c274, x275, rfl, r276, hf, H⟩
        try dsimp only at hF
        refine XX.at hf ?_
        refine x_then ?_
        refine CW.sub (E' := [(4, .pointer (some ⟨b188, 0, none⟩)), (6, .pointer (some ⟨b190, 0, none⟩))]) ⟨rfl, rfl, trivial⟩ ?_
        refine C_seq ?_
        refine R_nd ?_
        refine nq (v := .agg #[v273, v4, v7]) (Q_ldB (k := 1) (cs := [v273, v4, v7]) H.ok rfl ty29 rfl rfl rfl (fun h => nomatch h) rfl) rfl rfl ?_
        refine ne (E_stB (k := 0) (cs := [v273, v4, v7]) (vs' := [v273, v4, v7]) H rfl ty29 rfl rfl rfl rfl (one_cons (arr_cells (H.ok.get (k := 2) rfl)).2 (one_cons (RdSl.one r6) (one_cons (RdSl.one r9) one_nil))) (by simp) rfl) rfl rfl ?_
        rintro _ wd355 H
        replace H : Hp C wd355 ρ (Box b188 [v273, v4, v7] :: Box b190 [v273, v4, v7] :: Arr v273 256 c274 :: hs) := H
        refine nq (v := .bool true) (Q_assign rfl) rfl rfl ?_
        refine WL_nil ?_
        refine x_then ?_
        refine CW.sub (E' := [(4, .pointer (some ⟨b188, 0, none⟩)), (5, .bool true)]) ⟨rfl, rfl, trivial⟩ ?_
        refine C_ret ?_
        have hRV : RV Tryd.prog wd355 [(4, .pointer (some ⟨b188, 0, none⟩)), (5, .bool true)] [.cell 4 29, .tmp 5] [.agg #[v273, v4, v7], .bool true] := ⟨⟨_, rfl, run_ldv ty29 rfl (fun h => nomatch h) (box_at (H.ok.get (k := 0) rfl) 0 3)⟩, rfl, trivial⟩
        replace H := H.front 2 rfl
        replace H : Hp C wd355 ρ (Arr v273 256 c274 :: Box b188 [v273, v4, v7] :: Box b190 [v273, v4, v7] :: hs) := H
        replace H := H.drop 1 rfl
        replace H : Hp C wd355 ρ (Arr v273 256 c274 :: Box b190 [v273, v4, v7] :: hs) := H
        replace H := H.drop 1 rfl
        replace H : Hp C wd355 ρ (Arr v273 256 c274 :: hs) := H
        obtain rfl := Option.some.inj hF
        exact fn_retV (rs := [.cell 4 29, .tmp 5]) (vs := [.agg #[v273, v4, v7], .bool true]) rfl hRV ⟨v273, c274, x275, true, rfl, rfl, r276, H⟩
end Go.Proofs.YteiaphkejkgfkaaDoor
