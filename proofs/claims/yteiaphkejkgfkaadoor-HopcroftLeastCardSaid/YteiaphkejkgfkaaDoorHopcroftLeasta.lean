/-
  The walks of the law HopcroftLeast, printed by my program, part 1: each function of the code computes its pure function.
-/
import Derived.Test.YteiaphkejkgfkaaDoorHopcroftLeastD1
import Derived.Test.YteiaphkejkgfkaaDoorProg
namespace Go.Proofs.YteiaphkejkgfkaaDoor
open Go Go.Eng
set_option maxRecDepth 100000
theorem ty3 : Ty Tryd.prog 3 1 8 (.int .i64 0) false := ⟨by kernel_rfl, by kernel_rfl⟩
theorem ty4 : Ty Tryd.prog 4 1 1 (.bool false) false := ⟨by kernel_rfl, by kernel_rfl⟩
theorem ty5 : Ty Tryd.prog 5 1 1 (.int .u8 0) false := ⟨by kernel_rfl, by kernel_rfl⟩
theorem ty22 : Ty Tryd.prog 22 1 24 (.slice none 0 0) false := ⟨by kernel_rfl, by kernel_rfl⟩
theorem ty23 : Ty Tryd.prog 23 1 24 (.slice none 0 0) false := ⟨by kernel_rfl, by kernel_rfl⟩
theorem ty25 : Ty Tryd.prog 25 3 72 (.agg ([.slice none 0 0, .slice none 0 0, .slice none 0 0]).toArray) true := ⟨by kernel_rfl, by kernel_rfl⟩
theorem ty27 : Ty Tryd.prog 27 1 24 (.slice none 0 0) false := ⟨by kernel_rfl, by kernel_rfl⟩
theorem ty29 : Ty Tryd.prog 29 3 72 (.agg ([.slice none 0 0, .slice none 0 0, .slice none 0 0]).toArray) true := ⟨by kernel_rfl, by kernel_rfl⟩
theorem ty57 : Ty Tryd.prog 57 256 2048 (.agg (repC 256 [.int .i64 0]).toArray) true := ⟨by kernel_rfl, by kernel_rfl⟩
theorem ty58 : Ty Tryd.prog 58 256 2048 (.agg (repC 256 [.int .i64 0]).toArray) true := ⟨by kernel_rfl, by kernel_rfl⟩
theorem ty61 : Ty Tryd.prog 61 1 8 (.pointer none) false := ⟨by kernel_rfl, by kernel_rfl⟩
theorem ty63 : Ty Tryd.prog 63 1 16 .nilIface false := ⟨by kernel_rfl, by kernel_rfl⟩
theorem ty84 : Ty Tryd.prog 84 1 24 (.slice none 0 0) false := ⟨by kernel_rfl, by kernel_rfl⟩
theorem ty92 : Ty Tryd.prog 92 1 24 (.slice none 0 0) false := ⟨by kernel_rfl, by kernel_rfl⟩
theorem ty94 : Ty Tryd.prog 94 2 32 (.agg ([.slice none 0 0, .int .i64 0]).toArray) true := ⟨by kernel_rfl, by kernel_rfl⟩
theorem ty95 : Ty Tryd.prog 95 1 8 (.int .u64 0) false := ⟨by kernel_rfl, by kernel_rfl⟩
theorem ty104 : Ty Tryd.prog 104 1 24 (.slice none 0 0) false := ⟨by kernel_rfl, by kernel_rfl⟩
theorem ty105 : Ty Tryd.prog 105 1 24 (.slice none 0 0) false := ⟨by kernel_rfl, by kernel_rfl⟩
theorem ty107 : Ty Tryd.prog 107 7 168 (.agg ([.slice none 0 0, .slice none 0 0, .slice none 0 0, .slice none 0 0, .slice none 0 0, .slice none 0 0, .slice none 0 0]).toArray) true := ⟨by kernel_rfl, by kernel_rfl⟩
theorem ty110 : Ty Tryd.prog 110 256 6144 (.agg (repC 256 [.slice none 0 0]).toArray) true := ⟨by kernel_rfl, by kernel_rfl⟩
theorem ty113 : Ty Tryd.prog 113 2 16 (.agg ([.int .i64 0, .int .u8 0]).toArray) true := ⟨by kernel_rfl, by kernel_rfl⟩
theorem st25 : ∃ fs, St Tryd.prog 25 fs [(0, 1), (1, 1), (2, 1)] [.slice none 0 0, .slice none 0 0, .slice none 0 0] := ⟨_, Tryd.underlying25, by kernel_rfl, _, _, _, _, ty25, rfl⟩
theorem st29 : ∃ fs, St Tryd.prog 29 fs [(0, 1), (1, 1), (2, 1)] [.slice none 0 0, .slice none 0 0, .slice none 0 0] := ⟨_, Tryd.underlying29, by kernel_rfl, _, _, _, _, ty29, rfl⟩
theorem st94 : ∃ fs, St Tryd.prog 94 fs [(0, 1), (1, 1)] [.slice none 0 0, .int .i64 0] := ⟨_, Tryd.underlying94, by kernel_rfl, _, _, _, _, ty94, rfl⟩
theorem st107 : ∃ fs, St Tryd.prog 107 fs [(0, 3), (3, 1), (4, 1), (5, 1), (6, 1)] [.slice none 0 0, .slice none 0 0, .slice none 0 0, .slice none 0 0, .slice none 0 0, .slice none 0 0, .slice none 0 0] := ⟨_, Tryd.underlying107, by kernel_rfl, _, _, _, _, ty107, rfl⟩
theorem st113 : ∃ fs, St Tryd.prog 113 fs [(0, 1), (1, 1)] [.int .i64 0, .int .u8 0] := ⟨_, Tryd.underlying113, by kernel_rfl, _, _, _, _, ty113, rfl⟩
theorem fn15 : HasFn Tryd.prog 15 := ⟨_, _, Tryd.func15, by kernel_rfl, rfl⟩
theorem fn17 : HasFn Tryd.prog 17 := ⟨_, _, Tryd.func17, by kernel_rfl, rfl⟩
theorem fn22 : HasFn Tryd.prog 22 := ⟨_, _, Tryd.func22, by kernel_rfl, rfl⟩
theorem fn24 : HasFn Tryd.prog 24 := ⟨_, _, Tryd.func24, by kernel_rfl, rfl⟩
theorem fn26 : HasFn Tryd.prog 26 := ⟨_, _, Tryd.func26, by kernel_rfl, rfl⟩
theorem fn29 : HasFn Tryd.prog 29 := ⟨_, _, Tryd.func29, by kernel_rfl, rfl⟩
theorem fn32 : HasFn Tryd.prog 32 := ⟨_, _, Tryd.func32, by kernel_rfl, rfl⟩
theorem fn33 : HasFn Tryd.prog 33 := ⟨_, _, Tryd.func33, by kernel_rfl, rfl⟩
theorem fn35 : HasFn Tryd.prog 35 := ⟨_, _, Tryd.func35, by kernel_rfl, rfl⟩
theorem fn36 : HasFn Tryd.prog 36 := ⟨_, _, Tryd.func36, by kernel_rfl, rfl⟩
theorem fn42 : HasFn Tryd.prog 42 := ⟨_, _, Tryd.func42, by kernel_rfl, rfl⟩
theorem fn43 : HasFn Tryd.prog 43 := ⟨_, _, Tryd.func43, by kernel_rfl, rfl⟩
theorem fn44 : HasFn Tryd.prog 44 := ⟨_, _, Tryd.func44, by kernel_rfl, rfl⟩
theorem fn45 : HasFn Tryd.prog 45 := ⟨_, _, Tryd.func45, by kernel_rfl, rfl⟩
theorem fn46 : HasFn Tryd.prog 46 := ⟨_, _, Tryd.func46, by kernel_rfl, rfl⟩
theorem fn47 : HasFn Tryd.prog 47 := ⟨_, _, Tryd.func47, by kernel_rfl, rfl⟩
theorem fn48 : HasFn Tryd.prog 48 := ⟨_, _, Tryd.func48, by kernel_rfl, rfl⟩
theorem fn51 : HasFn Tryd.prog 51 := ⟨_, _, Tryd.func51, by kernel_rfl, rfl⟩
theorem fn52 : HasFn Tryd.prog 52 := ⟨_, _, Tryd.func52, by kernel_rfl, rfl⟩
theorem fn57 : HasFn Tryd.prog 57 := ⟨_, _, Tryd.func57, by kernel_rfl, rfl⟩
theorem fn58 : HasFn Tryd.prog 58 := ⟨_, _, Tryd.func58, by kernel_rfl, rfl⟩
theorem fn59 : HasFn Tryd.prog 59 := ⟨_, _, Tryd.func59, by kernel_rfl, rfl⟩
theorem fn62 : HasFn Tryd.prog 62 := ⟨_, _, Tryd.func62, by kernel_rfl, rfl⟩
theorem fn63 : HasFn Tryd.prog 63 := ⟨_, _, Tryd.func63, by kernel_rfl, rfl⟩
theorem fn64 : HasFn Tryd.prog 64 := ⟨_, _, Tryd.func64, by kernel_rfl, rfl⟩
theorem fn65 : HasFn Tryd.prog 65 := ⟨_, _, Tryd.func65, by kernel_rfl, rfl⟩
theorem fn66 : HasFn Tryd.prog 66 := ⟨_, _, Tryd.func66, by kernel_rfl, rfl⟩
theorem fn71 : HasFn Tryd.prog 71 := ⟨_, _, Tryd.func71, by kernel_rfl, rfl⟩
theorem fn72 : HasFn Tryd.prog 72 := ⟨_, _, Tryd.func72, by kernel_rfl, rfl⟩
theorem fn73 : HasFn Tryd.prog 73 := ⟨_, _, Tryd.func73, by kernel_rfl, rfl⟩
theorem fn76 : HasFn Tryd.prog 76 := ⟨_, _, Tryd.func76, by kernel_rfl, rfl⟩
theorem fn77 : HasFn Tryd.prog 77 := ⟨_, _, Tryd.func77, by kernel_rfl, rfl⟩
theorem fn80 : HasFn Tryd.prog 80 := ⟨_, _, Tryd.func80, by kernel_rfl, rfl⟩
theorem fn81 : HasFn Tryd.prog 81 := ⟨_, _, Tryd.func81, by kernel_rfl, rfl⟩
theorem fn82 : HasFn Tryd.prog 82 := ⟨_, _, Tryd.func82, by kernel_rfl, rfl⟩
theorem fn83 : HasFn Tryd.prog 83 := ⟨_, _, Tryd.func83, by kernel_rfl, rfl⟩
theorem fn84 : HasFn Tryd.prog 84 := ⟨_, _, Tryd.func84, by kernel_rfl, rfl⟩
theorem fn85 : HasFn Tryd.prog 85 := ⟨_, _, Tryd.func85, by kernel_rfl, rfl⟩
theorem fn86 : HasFn Tryd.prog 86 := ⟨_, _, Tryd.func86, by kernel_rfl, rfl⟩
theorem fn87 : HasFn Tryd.prog 87 := ⟨_, _, Tryd.func87, by kernel_rfl, rfl⟩
theorem fn89 : HasFn Tryd.prog 89 := ⟨_, _, Tryd.func89, by kernel_rfl, rfl⟩
theorem fn90 : HasFn Tryd.prog 90 := ⟨_, _, Tryd.func90, by kernel_rfl, rfl⟩
theorem fn91 : HasFn Tryd.prog 91 := ⟨_, _, Tryd.func91, by kernel_rfl, rfl⟩
theorem fn92 : HasFn Tryd.prog 92 := ⟨_, _, Tryd.func92, by kernel_rfl, rfl⟩
theorem fn93 : HasFn Tryd.prog 93 := ⟨_, _, Tryd.func93, by kernel_rfl, rfl⟩
theorem c_57 {N : Nat} {C : Cx} {w : World} {ρ : View} {hs : List Hl} {b2 : Nat} {x1 : Int} {x3 : Int} (H : Hp C w ρ (Box b2 [.int .i64 x3] :: hs)) {r : Bool} (hF : F_subset_Right_1 N x1 x3 = some r) :
    Calls Tryd.prog 57 [.int .i64 x1, .pointer (some ⟨b2, 0, none⟩)].toArray w (Rets (fun v w' => (∃ (x7 : Bool), x7 = r ∧ .bool x7 = v ∧ Hp C w' ρ (Box b2 [.int .i64 x3] :: hs)))) := by
  unfold F_subset_Right_1 at hF
  have h0 : Tryd.f57.body = some _ := rfl
  refine fn_calls' Tryd.func57 h0 (n := 11) rfl (by simp) <| C_seq <| R_nd <| nq (Q_assign rfl) rfl rfl <| WL_nil <| x_then ?_
  obtain ⟨o9, ho9, hF⟩ := bnd hF
  refine C_cut (fun a w' => ∃ (x8 : Bool), x8 = o9 ∧ Fr 11 a [(3, .bool x8)] ∧ Hp C w' ρ (Box b2 [.int .i64 x3] :: hs)) ?_ ?_
  · refine R_nd <| nq (Q_move rfl) rfl rfl <| nq (Q_lss rfl rfl) rfl rfl <| nq (Q_move rfl) rfl rfl ?_
    rcases Bool.eq_false_or_eq_true (decide (x1 < 0)) with hb | hb
    · rw [hb]
      replace ho9 := itT hb ho9
      refine gs rfl rfl rfl rfl <| gs rfl rfl rfl rfl <| gs rfl rfl rfl rfl <| nq (Q_pickT rfl rfl) rfl rfl <| nq (Q_assign rfl) rfl rfl <| WL_nil ?_
      obtain rfl := Option.some.inj ho9
      refine x_A fun a hf => ⟨true, rfl, hf.sub ⟨rfl, trivial⟩, H⟩
    · rw [hb]
      replace ho9 := itF hb ho9
      refine gq (Q_move rfl) rfl rfl rfl <| gq (v := .int .i64 x3) (Q_ldB (k := 0) (cs := [.int .i64 x3]) H.ok rfl ty3 rfl rfl rfl (fun _ => rfl) rfl) rfl rfl rfl <| gq (Q_geq rfl rfl) rfl rfl rfl <| nq (Q_pickF rfl rfl) rfl rfl <| nq (Q_assign rfl) rfl rfl <| WL_nil ?_
      obtain rfl := Option.some.inj ho9
      refine x_A fun a hf => ⟨decide (x1 ≥ x3), rfl, hf.sub ⟨rfl, trivial⟩, H⟩
  · rintro a wd10 ⟨x8, rfl, hf, H⟩
    try dsimp only at hF
    refine CW.at hf <| C_ret ?_
    obtain rfl := Option.some.inj hF
    exact fn_ret (l := [.tmp 3]) (vs := [.bool x8]) rfl rfl rfl ⟨x8, rfl, rfl, H⟩
theorem c_80 {N : Nat} {C : Cx} {w : World} {ρ : View} {hs : List Hl} {v1 : Value} {b4 : Nat} {x2 : (List Int)} {x5 : Int} (H : Hp C w ρ (Box b4 [.int .i64 x5] :: hs)) (r3 : RdSl ρ (eI .i64) v1 x2) {r : Int} (hF : F_slices_IndexFunc_int_int N x2 x5 = some r) :
    Calls Tryd.prog 80 [v1, .func (.func 57) #[] [.pointer (some ⟨b4, 0, none⟩)].toArray].toArray w (Rets (fun v w' => (∃ (x88 : Int), x88 = r ∧ .int .i64 x88 = v ∧ Hp C w' ρ (Box b4 [.int .i64 x5] :: hs)))) := by
  unfold F_slices_IndexFunc_int_int at hF
  have h0 : Tryd.f80.body = some _ := rfl
  refine fn_calls' Tryd.func80 h0 (n := 19) rfl (by simp) <| C_seq <| R_nd <| nq (Q_assign rfl) rfl rfl <| WL_nil <| x_then <| C_seq <| C_seq <| R_nd <| nq (Q_move rfl) rfl rfl <| nq (Q_len Tryd.underlying23 rfl r3) rfl rfl <| nq (Q_move rfl) rfl rfl <| WL_nil <| x_then ?_
  obtain ⟨o129, ho129, hF⟩ := bnd hF
  refine C_cutQ (fun a w' => .inl () = o129 ∧ Fr 19 a [] ∧ Hp C w' ρ (Box b4 [.int .i64 x5] :: hs)) ?_ ?_
  · refine C_block ?_
    refine C_iter (f := fun s => F_slices_IndexFunc_int_int_l0 N x2 x5 s) ho129 (fun s a w' => ∃ (x142 : Int), x142 = s ∧ Fr 19 a [(0, v1), (1, .func (.func 57) #[] [.pointer (some ⟨b4, 0, none⟩)].toArray), (7, .int .i64 (x2.length : Int)), (8, .int .i64 x142)] ∧ Hp C w' ρ (Box b4 [.int .i64 x5] :: hs)) ?_ ?_
    · exact fun a hf => ⟨0, rfl, hf.sub ⟨rfl, rfl, rfl, rfl, trivial⟩, H⟩
    · rintro s o155 a wd158 ⟨x142, rfl, hf, H⟩ hB156 hO157
      replace hB156 : F_slices_IndexFunc_int_int_l0 N x2 x5 x142 = some o155 := hB156
      unfold F_slices_IndexFunc_int_int_l0 at hB156
      refine CW.at hf <| C_seq <| R_nd <| nq (Q_lss rfl rfl) rfl rfl <| WL_nil <| x_then <| C_seq ?_
      refine C_cond rfl (fun hb => ?_) (fun hb => ?_)
      · replace hB156 := itT hb hB156
        refine C_skip <| x_then <| C_seq <| C_block <| C_seq <| R_nd <| nq (Q_move rfl) rfl rfl <| nq (Q_assign rfl) rfl rfl <| WL_nil <| x_then <| C_seq <| R_nd <| nq (Q_move rfl) rfl rfl <| nq (Q_move rfl) rfl rfl ?_
        refine nq (Q_move rfl) rfl rfl ?_
        obtain ⟨x159, hx159, hB156⟩ := bnd hB156
        obtain ⟨b160, o161, c162, hc163, ha164, hi165⟩ := idxR r3 hx159
        refine nq (Q_idx hi165 Tryd.underlying23 ty3 rfl rfl) rfl rfl <| nq (v := .int .i64 x159) (Q_ld (show cellsAt _ _ _ [.int .i64 x159] from (show _ = [_] from hc163) ▸ (ha164.up H.ok.view)) ty3 rfl (fun _ => rfl) rfl rfl) rfl rfl ?_
        obtain ⟨q166, hq166, hB156⟩ := bnd hB156
        refine ne (E_callV fn57 rfl rfl (c_57 H   hq166)) rfl rfl ?_
        rintro _ wd169 ⟨x168, rfl, rfl, H⟩
        try dsimp only at hB156
        refine WL_nil <| x_then ?_
        refine C_cond rfl (fun hb => ?_) (fun hb => ?_)
        · replace hB156 := itT hb hB156
          refine C_seq <| R_nd <| nq (Q_move rfl) rfl rfl <| nq (Q_assign rfl) rfl rfl <| WL_nil <| x_then <| C_ret <| x_block_ret <| x_then_ret <| x_then_ret <| x_block_ret <| x_then_ret <| x_then_ret ?_
          obtain rfl := Option.some.inj hB156
          obtain rfl := hO157 _ rfl
          obtain rfl := Option.some.inj (show some _ = some _ from hF)
          exact fn_ret (l := [.tmp 4]) (vs := [.int .i64 x142]) rfl rfl rfl ⟨x142, rfl, rfl, H⟩
        · replace hB156 := itF hb hB156
          refine C_skip <| x_block <| x_then <| R_nd <| nq (Q_add rfl rfl) rfl rfl <| nq (Q_move rfl) rfl rfl <| WL_nil ?_
          obtain rfl := Option.some.inj hB156
          refine x_A fun a hf => ⟨_, rfl, w64 (x142 + 1), rfl, hf.sub ⟨rfl, rfl, rfl, rfl, trivial⟩, H⟩
      · replace hB156 := itF hb hB156
        refine C_exit <| x_then_exit <| x_then_exit <| x_block_exit ?_
        obtain rfl := Option.some.inj hB156
        obtain rfl := hO157 _ rfl
        refine x_A fun a hf => ⟨rfl, hf.sub trivial, H⟩
  · rintro a wd170 ⟨rfl, hf, H⟩
    try dsimp only at hF
    refine XX.at hf <| x_then <| C_seq <| R_nd <| nq (Q_assign rfl) rfl rfl <| WL_nil <| x_then <| C_ret ?_
    obtain rfl := Option.some.inj hF
    exact fn_ret (l := [.tmp 4]) (vs := [.int .i64 (-1)]) rfl rfl rfl ⟨(-1), rfl, rfl, H⟩
theorem c_58 {N : Nat} {C : Cx} {w : World} {ρ : View} {hs : List Hl} {v1 : Value} {b4 : Nat} {x2 : (List Int)} {x5 : Int} (H : Hp C w ρ (Box b4 [.int .i64 x5] :: hs)) (r3 : RdSl ρ (eI .i64) v1 x2) {r : Bool} (hF : F_slices_ContainsFunc_int_int N x2 x5 = some r) :
    Calls Tryd.prog 58 [v1, .func (.func 57) #[] [.pointer (some ⟨b4, 0, none⟩)].toArray].toArray w (Rets (fun v w' => (∃ (x10 : Bool), x10 = r ∧ .bool x10 = v ∧ Hp C w' ρ (Box b4 [.int .i64 x5] :: hs)))) := by
  unfold F_slices_ContainsFunc_int_int at hF
  have h0 : Tryd.f58.body = some _ := rfl
  refine fn_calls' Tryd.func58 h0 (n := 9) rfl (by simp) <| C_seq <| R_nd <| nq (Q_assign rfl) rfl rfl <| WL_nil <| x_then <| C_seq <| R_nd <| nq (Q_move rfl) rfl rfl <| nq (Q_move rfl) rfl rfl ?_
  obtain ⟨q11, hq11, hF⟩ := bnd hF
  refine ne (E_call fn80 rfl (c_80 H  r3 hq11)) rfl rfl ?_
  rintro _ wd14 ⟨x13, rfl, rfl, H⟩
  try dsimp only at hF
  refine nq (Q_geq rfl rfl) rfl rfl <| nq (Q_assign rfl) rfl rfl <| WL_nil <| x_then <| C_ret ?_
  obtain rfl := Option.some.inj hF
  exact fn_ret (l := [.tmp 4]) (vs := [.bool (decide (x13 ≥ 0))]) rfl rfl rfl ⟨decide (x13 ≥ 0), rfl, rfl, H⟩
theorem c_59 {N : Nat} {C : Cx} {w : World} {ρ : View} {hs : List Hl} {x1 : Int} (H : Hp C w ρ (hs)) {r : Bool} (hF : F_subset_Right_2 N x1 = some r) :
    Calls Tryd.prog 59 [.int .i64 x1].toArray w (Rets (fun v w' => (∃ (x5 : Bool), x5 = r ∧ .bool x5 = v ∧ Hp C w' ρ (hs)))) := by
  unfold F_subset_Right_2 at hF
  have h0 : Tryd.f59.body = some _ := rfl
  refine fn_calls' Tryd.func59 h0 (n := 9) rfl (by simp) <| C_seq <| R_nd <| nq (Q_assign rfl) rfl rfl <| WL_nil <| x_then ?_
  obtain ⟨o7, ho7, hF⟩ := bnd hF
  refine C_cut (fun a w' => ∃ (x6 : Bool), x6 = o7 ∧ Fr 9 a [(2, .bool x6)] ∧ Hp C w' ρ (hs)) ?_ ?_
  · refine R_nd <| nq (Q_move rfl) rfl rfl <| nq (Q_lss rfl rfl) rfl rfl <| nq (Q_move rfl) rfl rfl ?_
    rcases Bool.eq_false_or_eq_true (decide (x1 < (-1))) with hb | hb
    · rw [hb]
      replace ho7 := itT hb ho7
      refine gs rfl rfl rfl rfl <| gs rfl rfl rfl rfl <| nq (Q_pickT rfl rfl) rfl rfl <| nq (Q_assign rfl) rfl rfl <| WL_nil ?_
      obtain rfl := Option.some.inj ho7
      refine x_A fun a hf => ⟨true, rfl, hf.sub ⟨rfl, trivial⟩, H⟩
    · rw [hb]
      replace ho7 := itF hb ho7
      refine gq (Q_move rfl) rfl rfl rfl <| gq (Q_geq rfl rfl) rfl rfl rfl <| nq (Q_pickF rfl rfl) rfl rfl <| nq (Q_assign rfl) rfl rfl <| WL_nil ?_
      obtain rfl := Option.some.inj ho7
      refine x_A fun a hf => ⟨decide (x1 ≥ 48), rfl, hf.sub ⟨rfl, trivial⟩, H⟩
  · rintro a wd8 ⟨x6, rfl, hf, H⟩
    try dsimp only at hF
    refine CW.at hf <| C_ret ?_
    obtain rfl := Option.some.inj hF
    exact fn_ret (l := [.tmp 2]) (vs := [.bool x6]) rfl rfl rfl ⟨x6, rfl, rfl, H⟩
theorem c_80_1 {N : Nat} {C : Cx} {w : World} {ρ : View} {hs : List Hl} {v1 : Value} {x2 : (List Int)} (H : Hp C w ρ (hs)) (r3 : RdSl ρ (eI .i64) v1 x2) {r : Int} (hF : F_slices_IndexFunc_int_int_1 N x2 = some r) :
    Calls Tryd.prog 80 [v1, .func (.func 59) #[] [].toArray].toArray w (Rets (fun v w' => (∃ (x86 : Int), x86 = r ∧ .int .i64 x86 = v ∧ Hp C w' ρ (hs)))) := by
  unfold F_slices_IndexFunc_int_int_1 at hF
  have h0 : Tryd.f80.body = some _ := rfl
  refine fn_calls' Tryd.func80 h0 (n := 19) rfl (by simp) <| C_seq <| R_nd <| nq (Q_assign rfl) rfl rfl <| WL_nil <| x_then <| C_seq <| C_seq <| R_nd <| nq (Q_move rfl) rfl rfl <| nq (Q_len Tryd.underlying23 rfl r3) rfl rfl <| nq (Q_move rfl) rfl rfl <| WL_nil <| x_then ?_
  obtain ⟨o127, ho127, hF⟩ := bnd hF
  refine C_cutQ (fun a w' => .inl () = o127 ∧ Fr 19 a [] ∧ Hp C w' ρ (hs)) ?_ ?_
  · refine C_block ?_
    refine C_iter (f := fun s => F_slices_IndexFunc_int_int_1_l0 N x2 s) ho127 (fun s a w' => ∃ (x140 : Int), x140 = s ∧ Fr 19 a [(0, v1), (1, .func (.func 59) #[] [].toArray), (7, .int .i64 (x2.length : Int)), (8, .int .i64 x140)] ∧ Hp C w' ρ (hs)) ?_ ?_
    · exact fun a hf => ⟨0, rfl, hf.sub ⟨rfl, rfl, rfl, rfl, trivial⟩, H⟩
    · rintro s o153 a wd156 ⟨x140, rfl, hf, H⟩ hB154 hO155
      replace hB154 : F_slices_IndexFunc_int_int_1_l0 N x2 x140 = some o153 := hB154
      unfold F_slices_IndexFunc_int_int_1_l0 at hB154
      refine CW.at hf <| C_seq <| R_nd <| nq (Q_lss rfl rfl) rfl rfl <| WL_nil <| x_then <| C_seq ?_
      refine C_cond rfl (fun hb => ?_) (fun hb => ?_)
      · replace hB154 := itT hb hB154
        refine C_skip <| x_then <| C_seq <| C_block <| C_seq <| R_nd <| nq (Q_move rfl) rfl rfl <| nq (Q_assign rfl) rfl rfl <| WL_nil <| x_then <| C_seq <| R_nd <| nq (Q_move rfl) rfl rfl <| nq (Q_move rfl) rfl rfl ?_
        refine nq (Q_move rfl) rfl rfl ?_
        obtain ⟨x157, hx157, hB154⟩ := bnd hB154
        obtain ⟨b158, o159, c160, hc161, ha162, hi163⟩ := idxR r3 hx157
        refine nq (Q_idx hi163 Tryd.underlying23 ty3 rfl rfl) rfl rfl <| nq (v := .int .i64 x157) (Q_ld (show cellsAt _ _ _ [.int .i64 x157] from (show _ = [_] from hc161) ▸ (ha162.up H.ok.view)) ty3 rfl (fun _ => rfl) rfl rfl) rfl rfl ?_
        obtain ⟨q164, hq164, hB154⟩ := bnd hB154
        refine ne (E_callV fn59 rfl rfl (c_59 H   hq164)) rfl rfl ?_
        rintro _ wd167 ⟨x166, rfl, rfl, H⟩
        try dsimp only at hB154
        refine WL_nil <| x_then ?_
        refine C_cond rfl (fun hb => ?_) (fun hb => ?_)
        · replace hB154 := itT hb hB154
          refine C_seq <| R_nd <| nq (Q_move rfl) rfl rfl <| nq (Q_assign rfl) rfl rfl <| WL_nil <| x_then <| C_ret <| x_block_ret <| x_then_ret <| x_then_ret <| x_block_ret <| x_then_ret <| x_then_ret ?_
          obtain rfl := Option.some.inj hB154
          obtain rfl := hO155 _ rfl
          obtain rfl := Option.some.inj (show some _ = some _ from hF)
          exact fn_ret (l := [.tmp 4]) (vs := [.int .i64 x140]) rfl rfl rfl ⟨x140, rfl, rfl, H⟩
        · replace hB154 := itF hb hB154
          refine C_skip <| x_block <| x_then <| R_nd <| nq (Q_add rfl rfl) rfl rfl <| nq (Q_move rfl) rfl rfl <| WL_nil ?_
          obtain rfl := Option.some.inj hB154
          refine x_A fun a hf => ⟨_, rfl, w64 (x140 + 1), rfl, hf.sub ⟨rfl, rfl, rfl, rfl, trivial⟩, H⟩
      · replace hB154 := itF hb hB154
        refine C_exit <| x_then_exit <| x_then_exit <| x_block_exit ?_
        obtain rfl := Option.some.inj hB154
        obtain rfl := hO155 _ rfl
        refine x_A fun a hf => ⟨rfl, hf.sub trivial, H⟩
  · rintro a wd168 ⟨rfl, hf, H⟩
    try dsimp only at hF
    refine XX.at hf <| x_then <| C_seq <| R_nd <| nq (Q_assign rfl) rfl rfl <| WL_nil <| x_then <| C_ret ?_
    obtain rfl := Option.some.inj hF
    exact fn_ret (l := [.tmp 4]) (vs := [.int .i64 (-1)]) rfl rfl rfl ⟨(-1), rfl, rfl, H⟩
theorem c_58_1 {N : Nat} {C : Cx} {w : World} {ρ : View} {hs : List Hl} {v1 : Value} {x2 : (List Int)} (H : Hp C w ρ (hs)) (r3 : RdSl ρ (eI .i64) v1 x2) {r : Bool} (hF : F_slices_ContainsFunc_int_int_1 N x2 = some r) :
    Calls Tryd.prog 58 [v1, .func (.func 59) #[] [].toArray].toArray w (Rets (fun v w' => (∃ (x8 : Bool), x8 = r ∧ .bool x8 = v ∧ Hp C w' ρ (hs)))) := by
  unfold F_slices_ContainsFunc_int_int_1 at hF
  have h0 : Tryd.f58.body = some _ := rfl
  refine fn_calls' Tryd.func58 h0 (n := 9) rfl (by simp) <| C_seq <| R_nd <| nq (Q_assign rfl) rfl rfl <| WL_nil <| x_then <| C_seq <| R_nd <| nq (Q_move rfl) rfl rfl <| nq (Q_move rfl) rfl rfl ?_
  obtain ⟨q9, hq9, hF⟩ := bnd hF
  refine ne (E_call fn80 rfl (c_80_1 H  r3 hq9)) rfl rfl ?_
  rintro _ wd12 ⟨x11, rfl, rfl, H⟩
  try dsimp only at hF
  refine nq (Q_geq rfl rfl) rfl rfl <| nq (Q_assign rfl) rfl rfl <| WL_nil <| x_then <| C_ret ?_
  obtain rfl := Option.some.inj hF
  exact fn_ret (l := [.tmp 4]) (vs := [.bool (decide (x11 ≥ 0))]) rfl rfl rfl ⟨decide (x11 ≥ 0), rfl, rfl, H⟩
theorem c_26 {N : Nat} {C : Cx} {w : World} {ρ : View} {hs : List Hl} {v1 : Value} {v4 : Value} {v7 : Value} {x2 : (List (List Int))} {x5 : (List Int)} {x8 : (List Int)} (H : Hp C w ρ (hs)) (r3 : RdSl ρ (eA 256 (eI .i64)) v1 x2) (r6 : RdSl ρ (eI .i64) v4 x5) (r9 : RdSl ρ (eI .i64) v7 x8) {r : Bool} (hF : F_subset_Right N x2 x5 x8 = some r) :
    Calls Tryd.prog 26 [.agg #[v1, v4, v7]].toArray w (Rets (fun v w' => (∃ (x168 : Bool), x168 = r ∧ .bool x168 = v ∧ Hp C w' ρ (hs)))) := by
  unfold F_subset_Right at hF
  have h0 : Tryd.f26.body = some _ := rfl
  refine fn_calls' Tryd.func26 h0 (n := 71) rfl (by simp) <| C_seq <| R_nd <| ne (E_box H (vs := [v1, v4, v7]) rfl rfl) rfl rfl ?_
  rintro _ wd170 ⟨b169, rfl, H⟩
  refine nq (Q_assign rfl) rfl rfl <| WL_nil <| x_then <| C_seq <| R_nd <| nq (v := .pointer (some ⟨b169, 0, none⟩)) (Q_fld Tryd.underlying25 rfl ty22 (by decide) rfl rfl) rfl rfl <| nq (v := v1) (Q_ldB (k := 0) (cs := [v1]) H.ok rfl ty22 rfl rfl rfl (fun _ => rfl) rfl) rfl rfl <| nq (Q_len Tryd.underlying22 rfl r3) rfl rfl <| ne (E_alloc H ty3 (zs := [.int .i64 0]) rfl) rfl rfl ?_
  rintro _ wd172 ⟨b171, rfl, H⟩
  refine ne (E_stB (k := 0) (cs := [.int .i64 (x2.length : Int)]) (vs' := [.int .i64 (x2.length : Int)]) H rfl ty3 rfl rfl rfl rfl (one_cons rfl one_nil) (by simp) rfl) rfl rfl ?_
  rintro _ wd173 H
  dsimp only [List.set] at H
  refine WL_nil <| x_then <| C_seq ?_
  obtain ⟨o175, ho175, hF⟩ := bnd hF
  refine C_cut (fun a w' => ∃ (x174 : Bool), x174 = o175 ∧ Fr 71 a [(1, .pointer (some ⟨b169, 0, none⟩)), (3, .pointer (some ⟨b171, 0, none⟩)), (35, .bool x174)] ∧ Hp C w' ρ (Box b169 [v1, v4, v7] :: Box b171 [.int .i64 (x2.length : Int)] :: hs)) ?_ ?_
  · refine R_nd <| nq (v := .int .i64 (x2.length : Int)) (Q_ldB (k := 0) (cs := [.int .i64 (x2.length : Int)]) H.ok rfl ty3 rfl rfl rfl (fun _ => rfl) rfl) rfl rfl <| nq (Q_lss rfl rfl) rfl rfl <| nq (Q_move rfl) rfl rfl ?_
    rcases Bool.eq_false_or_eq_true (decide ((x2.length : Int) < 1)) with hb | hb
    · rw [hb]
      replace ho175 := itT hb ho175
      refine gs rfl rfl rfl rfl <| gs rfl rfl rfl rfl <| nq (Q_pickT rfl rfl) rfl rfl <| nq (Q_move rfl) rfl rfl <| gs rfl rfl rfl rfl <| gs rfl rfl rfl rfl <| gs rfl rfl rfl rfl <| gs rfl rfl rfl rfl <| gs rfl rfl rfl rfl <| nq (Q_pickT rfl rfl) rfl rfl <| nq (Q_move rfl) rfl rfl <| gs rfl rfl rfl rfl <| gs rfl rfl rfl rfl <| gs rfl rfl rfl rfl ?_
      refine gs rfl rfl rfl rfl <| nq (Q_pickT rfl rfl) rfl rfl <| nq (Q_move rfl) rfl rfl <| gs rfl rfl rfl rfl <| gs rfl rfl rfl rfl <| gs rfl rfl rfl rfl <| gs rfl rfl rfl rfl <| nq (Q_pickT rfl rfl) rfl rfl <| WL_nil ?_
      replace H := H.front 1 rfl
      dsimp only [List.eraseIdx] at H
      obtain rfl := Option.some.inj ho175
      refine x_A fun a hf => ⟨true, rfl, hf.sub ⟨rfl, rfl, rfl, trivial⟩, H⟩
    · rw [hb]
      replace ho175 := itF hb ho175
      refine gq (v := .int .i64 (x2.length : Int)) (Q_ldB (k := 0) (cs := [.int .i64 (x2.length : Int)]) H.ok rfl ty3 rfl rfl rfl (fun _ => rfl) rfl) rfl rfl rfl <| gq (Q_gtr rfl rfl) rfl rfl rfl <| nq (Q_pickF rfl rfl) rfl rfl <| nq (Q_move rfl) rfl rfl ?_
      rcases Bool.eq_false_or_eq_true (decide ((x2.length : Int) > 200)) with hb | hb
      · rw [hb]
        replace ho175 := itT hb ho175
        refine gs rfl rfl rfl rfl <| gs rfl rfl rfl rfl <| gs rfl rfl rfl rfl <| gs rfl rfl rfl rfl <| gs rfl rfl rfl rfl <| nq (Q_pickT rfl rfl) rfl rfl <| nq (Q_move rfl) rfl rfl <| gs rfl rfl rfl rfl <| gs rfl rfl rfl rfl <| gs rfl rfl rfl rfl <| gs rfl rfl rfl rfl <| nq (Q_pickT rfl rfl) rfl rfl <| nq (Q_move rfl) rfl rfl <| gs rfl rfl rfl rfl ?_
        refine gs rfl rfl rfl rfl <| gs rfl rfl rfl rfl <| gs rfl rfl rfl rfl <| nq (Q_pickT rfl rfl) rfl rfl <| WL_nil ?_
        replace H := H.front 1 rfl
        dsimp only [List.eraseIdx] at H
        obtain rfl := Option.some.inj ho175
        refine x_A fun a hf => ⟨true, rfl, hf.sub ⟨rfl, rfl, rfl, trivial⟩, H⟩
      · rw [hb]
        replace ho175 := itF hb ho175
        refine gq (v := .pointer (some ⟨b169, 1, none⟩)) (Q_fld Tryd.underlying25 rfl ty23 (by decide) rfl rfl) rfl rfl rfl <| gq (v := v4) (Q_ldB (k := 1) (cs := [v4]) H.ok rfl ty23 rfl rfl rfl (fun _ => rfl) rfl) rfl rfl rfl <| gq (Q_len Tryd.underlying23 rfl r6) rfl rfl rfl <| gq (v := .int .i64 (x2.length : Int)) (Q_ldB (k := 0) (cs := [.int .i64 (x2.length : Int)]) H.ok rfl ty3 rfl rfl rfl (fun _ => rfl) rfl) rfl rfl rfl <| gq (Q_neq rfl rfl) rfl rfl rfl <| nq (Q_pickF rfl rfl) rfl rfl <| nq (Q_move rfl) rfl rfl ?_
        rcases Bool.eq_false_or_eq_true ((x5.length : Int) != (x2.length : Int)) with hb | hb
        · rw [hb]
          replace ho175 := itT hb ho175
          refine gs rfl rfl rfl rfl <| gs rfl rfl rfl rfl <| gs rfl rfl rfl rfl <| gs rfl rfl rfl rfl <| nq (Q_pickT rfl rfl) rfl rfl <| nq (Q_move rfl) rfl rfl <| gs rfl rfl rfl rfl <| gs rfl rfl rfl rfl <| gs rfl rfl rfl rfl <| gs rfl rfl rfl rfl <| nq (Q_pickT rfl rfl) rfl rfl <| WL_nil ?_
          replace H := H.front 1 rfl
          dsimp only [List.eraseIdx] at H
          obtain rfl := Option.some.inj ho175
          refine x_A fun a hf => ⟨true, rfl, hf.sub ⟨rfl, rfl, rfl, trivial⟩, H⟩
        · rw [hb]
          replace ho175 := itF hb ho175
          refine gq (v := .pointer (some ⟨b169, 2, none⟩)) (Q_fld Tryd.underlying25 rfl ty23 (by decide) rfl rfl) rfl rfl rfl <| gq (v := v7) (Q_ldB (k := 1) (cs := [v7]) H.ok rfl ty23 rfl rfl rfl (fun _ => rfl) rfl) rfl rfl rfl <| gq (Q_len Tryd.underlying23 rfl r9) rfl rfl rfl <| gq (Q_lss rfl rfl) rfl rfl rfl <| nq (Q_pickF rfl rfl) rfl rfl <| nq (Q_move rfl) rfl rfl ?_
          rcases Bool.eq_false_or_eq_true (decide ((x8.length : Int) < 1)) with hb | hb
          · rw [hb]
            replace ho175 := itT hb ho175
            refine gs rfl rfl rfl rfl <| gs rfl rfl rfl rfl <| gs rfl rfl rfl rfl <| gs rfl rfl rfl rfl <| nq (Q_pickT rfl rfl) rfl rfl <| WL_nil ?_
            replace H := H.front 1 rfl
            dsimp only [List.eraseIdx] at H
            obtain rfl := Option.some.inj ho175
            refine x_A fun a hf => ⟨true, rfl, hf.sub ⟨rfl, rfl, rfl, trivial⟩, H⟩
          · rw [hb]
            replace ho175 := itF hb ho175
            refine gq (v := .pointer (some ⟨b169, 2, none⟩)) (Q_fld Tryd.underlying25 rfl ty23 (by decide) rfl rfl) rfl rfl rfl <| gq (v := v7) (Q_ldB (k := 1) (cs := [v7]) H.ok rfl ty23 rfl rfl rfl (fun _ => rfl) rfl) rfl rfl rfl <| gq (Q_len Tryd.underlying23 rfl r9) rfl rfl rfl <| gq (Q_gtr rfl rfl) rfl rfl rfl <| nq (Q_pickF rfl rfl) rfl rfl <| WL_nil ?_
            replace H := H.front 1 rfl
            dsimp only [List.eraseIdx] at H
            obtain rfl := Option.some.inj ho175
            refine x_A fun a hf => ⟨decide ((x8.length : Int) > 8), rfl, hf.sub ⟨rfl, rfl, rfl, trivial⟩, H⟩
  · rintro a wd176 ⟨x174, rfl, hf, H⟩
    try dsimp only at hF
    refine CW.at hf ?_
    refine C_cond rfl (fun hb => ?_) (fun hb => ?_)
    · replace hF := itT hb hF
      refine C_seq <| R_nd <| nq (Q_assign rfl) rfl rfl <| WL_nil <| x_then <| C_ret <| x_then_ret ?_
      replace H := H.drop 0 rfl
      dsimp only [List.eraseIdx] at H
      replace H := H.drop 0 rfl
      dsimp only [List.eraseIdx] at H
      obtain rfl := Option.some.inj hF
      exact fn_ret (l := [.tmp 2]) (vs := [.bool false]) rfl rfl rfl ⟨false, rfl, rfl, H⟩
    · replace hF := itF hb hF
      refine C_skip <| x_then <| C_seq <| R_nd <| nq (v := .func (.func 57) #[] [.pointer (some ⟨b171, 0, none⟩)].toArray) (Q_func rfl) rfl rfl <| nq (Q_assign rfl) rfl rfl <| WL_nil <| x_then <| C_seq <| C_seq <| R_nd <| nq (v := .pointer (some ⟨b169, 0, none⟩)) (Q_fld Tryd.underlying25 rfl ty22 (by decide) rfl rfl) rfl rfl <| nq (v := v1) (Q_ldB (k := 0) (cs := [v1]) H.ok rfl ty22 rfl rfl rfl (fun _ => rfl) rfl) rfl rfl <| nq (Q_len Tryd.underlying22 rfl r3) rfl rfl ?_
      refine nq (Q_move rfl) rfl rfl <| WL_nil <| x_then ?_
      obtain ⟨o226, ho226, hF⟩ := bnd hF
      refine C_cutQ (fun a w' => .inl () = o226 ∧ Fr 71 a [(1, .pointer (some ⟨b169, 0, none⟩)), (4, .func (.func 57) #[] [.pointer (some ⟨b171, 0, none⟩)].toArray)] ∧ Hp C w' ρ (Box b169 [v1, v4, v7] :: Box b171 [.int .i64 (x2.length : Int)] :: hs)) ?_ ?_
      · refine C_block ?_
        replace H := H.front 1 rfl
        dsimp only [List.eraseIdx] at H
        replace H := H.front 1 rfl
        dsimp only [List.eraseIdx] at H
        refine C_iter (f := fun s => F_subset_Right_l0 N x2 s) ho226 (fun s a w' => ∃ (x242 : Int), x242 = s ∧ Fr 71 a [(1, .pointer (some ⟨b169, 0, none⟩)), (4, .func (.func 57) #[] [.pointer (some ⟨b171, 0, none⟩)].toArray), (38, v1), (39, .int .i64 (x2.length : Int)), (40, .int .i64 x242)] ∧ Hp C w' ρ (Box b169 [v1, v4, v7] :: Box b171 [.int .i64 (x2.length : Int)] :: hs)) ?_ ?_
        · exact fun a hf => ⟨0, rfl, hf.sub ⟨rfl, rfl, rfl, rfl, rfl, trivial⟩, H⟩
        · rintro s o258 a wd261 ⟨x242, rfl, hf, H⟩ hB259 hO260
          replace hB259 : F_subset_Right_l0 N x2 x242 = some o258 := hB259
          unfold F_subset_Right_l0 at hB259
          refine CW.at hf <| C_seq <| R_nd <| nq (Q_lss rfl rfl) rfl rfl <| WL_nil <| x_then <| C_seq ?_
          refine C_cond rfl (fun hb => ?_) (fun hb => ?_)
          · replace hB259 := itT hb hB259
            refine C_skip <| x_then <| C_seq <| C_block <| C_seq <| R_nd ?_
            obtain ⟨x262, hx262, hB259⟩ := bnd hB259
            obtain ⟨b263, o264, c265, hc266, ha267, hi268⟩ := idxR r3 hx262
            refine nq (Q_idx hi268 Tryd.underlying22 ty58 rfl rfl) rfl rfl <| nq (v := .agg c265.toArray) (Q_ld (ha267.up H.ok.view) ty58 ((eA 256 (eI .i64)).len hc266) (fun h => nomatch h) rfl rfl) rfl rfl <| ne (E_allocA (N := 256) (n := 1) (zs := (repC 256 [.int .i64 0])) H ty58 rfl (by simp [repC_length])) rfl rfl ?_
            rintro _ wd270 ⟨b269, rfl, H⟩
            refine ne (E_stW (k := 0) H rfl ty58 rfl rfl (rdL.one hc266.2) (arr_clen (rdL_rep (e:=(eI .i64)) (ρ:=ρ) (rfl) 256) List.length_replicate) (arr_clen hc266.2 hc266.1)) rfl rfl ?_
            rintro _ wd271 H
            dsimp only [List.set] at H
            refine WL_nil <| x_then <| C_seq <| R_nd <| nq (v := (.slice (some ⟨b269, 0, none⟩) 256 256)) (Q_slA Tryd.underlying58 ty3 rfl) rfl rfl <| nq (Q_move rfl) rfl rfl ?_
            replace H := H.front 2 rfl
            dsimp only [List.eraseIdx] at H
            obtain ⟨q272, hq272, hB259⟩ := bnd hB259
            obtain ⟨C', ρ', hl273, HA, hL, hback⟩ := Hp.lend (A := [Box b171 [.int .i64 (x2.length : Int)]]) (L := [Arr (.slice (some ⟨b269, 0, none⟩) 256 256) 1 c265]) (F := Box b169 [v1, v4, v7] :: hs) H
            refine ne (E_call fn58 rfl (c_58 HA  (arr_rd (by decide) hl273 (hL (Arr (.slice (some ⟨b269, 0, none⟩) 256 256) 1 c265) (by simp)) hc266.2) hq272)) rfl rfl ?_
            rintro _ wd275 ⟨x274, rfl, rfl, H⟩
            try dsimp only at hB259
            replace H := hback H
            dsimp only [List.cons_append, List.nil_append] at H
            refine WL_nil <| x_then ?_
            refine C_cond rfl (fun hb => ?_) (fun hb => ?_)
            · replace hB259 := itT hb hB259
              refine C_seq <| R_nd <| nq (Q_assign rfl) rfl rfl <| WL_nil <| x_then <| C_ret <| x_block_ret <| x_then_ret <| x_then_ret <| x_block_ret <| x_then_ret <| x_then_ret ?_
              replace H := H.drop 0 rfl
              dsimp only [List.eraseIdx] at H
              replace H := H.drop 0 rfl
              dsimp only [List.eraseIdx] at H
              replace H := H.drop 0 rfl
              dsimp only [List.eraseIdx] at H
              obtain rfl := Option.some.inj hB259
              obtain rfl := hO260 _ rfl
              obtain rfl := Option.some.inj (show some _ = some _ from hF)
              exact fn_ret (l := [.tmp 2]) (vs := [.bool false]) rfl rfl rfl ⟨false, rfl, rfl, H⟩
            · replace hB259 := itF hb hB259
              refine C_skip <| x_block <| x_then <| R_nd <| nq (Q_add rfl rfl) rfl rfl <| nq (Q_move rfl) rfl rfl <| WL_nil ?_
              replace H := H.front 2 rfl
              dsimp only [List.eraseIdx] at H
              replace H := H.drop 2 rfl
              dsimp only [List.eraseIdx] at H
              obtain rfl := Option.some.inj hB259
              refine x_A fun a hf => ⟨_, rfl, w64 (x242 + 1), rfl, hf.sub ⟨rfl, rfl, rfl, rfl, rfl, trivial⟩, H⟩
          · replace hB259 := itF hb hB259
            refine C_exit <| x_then_exit <| x_then_exit <| x_block_exit ?_
            replace H := H.front 1 rfl
            dsimp only [List.eraseIdx] at H
            replace H := H.front 1 rfl
            dsimp only [List.eraseIdx] at H
            obtain rfl := Option.some.inj hB259
            obtain rfl := hO260 _ rfl
            refine x_A fun a hf => ⟨rfl, hf.sub ⟨rfl, rfl, trivial⟩, H⟩
      · rintro a wd276 ⟨rfl, hf, H⟩
        try dsimp only at hF
        refine XX.at hf <| x_then <| C_seq <| R_nd <| nq (Q_assign rfl) rfl rfl <| WL_nil <| x_then <| C_seq ?_
        obtain ⟨o286, ho286, hF⟩ := bnd hF
        refine C_cut (fun a w' => ∃ (x285 : Bool), x285 = o286 ∧ Fr 71 a [(1, .pointer (some ⟨b169, 0, none⟩)), (57, .bool x285)] ∧ Hp C w' ρ (Box b169 [v1, v4, v7] :: hs)) ?_ ?_
        · refine R_nd <| nq (v := .pointer (some ⟨b169, 1, none⟩)) (Q_fld Tryd.underlying25 rfl ty23 (by decide) rfl rfl) rfl rfl <| nq (v := v4) (Q_ldB (k := 0) (cs := [v4]) H.ok rfl ty23 rfl rfl rfl (fun _ => rfl) rfl) rfl rfl <| nq (Q_move rfl) rfl rfl ?_
          obtain ⟨q287, hq287, ho286⟩ := bnd ho286
          refine ne (E_call fn58 rfl (c_58_1 H  r6 hq287)) rfl rfl ?_
          rintro _ wd290 ⟨x289, rfl, rfl, H⟩
          try dsimp only at ho286
          refine nq (Q_move rfl) rfl rfl ?_
          rcases Bool.eq_false_or_eq_true x289 with hb | hb
          · rw [hb]
            replace ho286 := itT hb ho286
            refine gs rfl rfl rfl rfl <| gs rfl rfl rfl rfl <| gs rfl rfl rfl rfl <| gs rfl rfl rfl rfl <| nq (Q_pickT rfl rfl) rfl rfl <| WL_nil ?_
            replace H := H.drop 1 rfl
            dsimp only [List.eraseIdx] at H
            obtain rfl := Option.some.inj ho286
            refine x_A fun a hf => ⟨true, rfl, hf.sub ⟨rfl, rfl, trivial⟩, H⟩
          · rw [hb]
            replace ho286 := itF hb ho286
            refine gq (v := .pointer (some ⟨b169, 2, none⟩)) (Q_fld Tryd.underlying25 rfl ty23 (by decide) rfl rfl) rfl rfl rfl <| gq (v := v7) (Q_ldB (k := 0) (cs := [v7]) H.ok rfl ty23 rfl rfl rfl (fun _ => rfl) rfl) rfl rfl rfl <| gq (Q_move rfl) rfl rfl rfl ?_
            replace H := H.front 1 rfl
            dsimp only [List.eraseIdx] at H
            obtain ⟨q291, hq291, ho286⟩ := bnd ho286
            refine ge (E_call fn58 rfl (c_58 H  r9 hq291)) rfl rfl rfl ?_
            rintro _ wd294 ⟨x293, rfl, rfl, H⟩
            try dsimp only at ho286
            refine nq (Q_pickF rfl rfl) rfl rfl <| WL_nil ?_
            replace H := H.front 1 rfl
            dsimp only [List.eraseIdx] at H
            replace H := H.drop 1 rfl
            dsimp only [List.eraseIdx] at H
            obtain rfl := Option.some.inj ho286
            refine x_A fun a hf => ⟨x293, rfl, hf.sub ⟨rfl, rfl, trivial⟩, H⟩
        · rintro a wd295 ⟨x285, rfl, hf, H⟩
          try dsimp only at hF
          refine CW.at hf ?_
          refine C_cond rfl (fun hb => ?_) (fun hb => ?_)
          · replace hF := itT hb hF
            refine C_seq <| R_nd <| nq (Q_assign rfl) rfl rfl <| WL_nil <| x_then <| C_ret <| x_then_ret ?_
            replace H := H.drop 0 rfl
            dsimp only [List.eraseIdx] at H
            obtain rfl := Option.some.inj hF
            exact fn_ret (l := [.tmp 2]) (vs := [.bool false]) rfl rfl rfl ⟨false, rfl, rfl, H⟩
          · replace hF := itF hb hF
            refine C_skip <| x_then ?_
            obtain ⟨o311, ho311, hF⟩ := bnd hF
            refine C_cut (fun a w' => ∃ (x310 : Bool), x310 = o311 ∧ Fr 71 a [(2, .bool x310)] ∧ Hp C w' ρ (hs)) ?_ ?_
            · refine R_nd <| nq (v := .pointer (some ⟨b169, 0, none⟩)) (Q_fld Tryd.underlying25 rfl ty22 (by decide) rfl rfl) rfl rfl <| nq (v := v1) (Q_ldB (k := 0) (cs := [v1]) H.ok rfl ty22 rfl rfl rfl (fun _ => rfl) rfl) rfl rfl ?_
              obtain ⟨x312, hx312, ho311⟩ := bnd ho311
              obtain ⟨b313, o314, c315, hc316, ha317, hi318⟩ := idxR r3 hx312
              refine nq (Q_idx hi318 Tryd.underlying22 ty58 rfl rfl) rfl rfl <| nq (v := .agg c315.toArray) (Q_ld (ha317.up H.ok.view) ty58 ((eA 256 (eI .i64)).len hc316) (fun h => nomatch h) rfl rfl) rfl rfl <| nq (v := .agg (repC 256 [.int .i64 0]).toArray) (Q_build0 (zs := (repC 256 [.int .i64 0])) ty58 Tryd.underlying58 ty3 rfl) rfl rfl <| nq (v := .bool (x312 == (List.replicate 256 0))) (Q_eqlA Tryd.underlying58 ty3 (by kernel_rfl) Tryd.underlying3 hc316.2 hc316.1 (rdL_rep (e:=(eI .i64)) (ρ:=ρ) (rfl) 256) List.length_replicate rfl rfl) rfl rfl <| nq (Q_move rfl) rfl rfl ?_
              rcases Bool.eq_false_or_eq_true (x312 == (List.replicate 256 0)) with hb | hb
              · rw [hb]
                replace ho311 := itT hb ho311
                refine gq (v := .pointer (some ⟨b169, 1, none⟩)) (Q_fld Tryd.underlying25 rfl ty23 (by decide) rfl rfl) rfl rfl rfl <| gq (v := v4) (Q_ldB (k := 0) (cs := [v4]) H.ok rfl ty23 rfl rfl rfl (fun _ => rfl) rfl) rfl rfl rfl ?_
                obtain ⟨x319, hx319, ho311⟩ := bnd ho311
                obtain ⟨b320, o321, c322, hc323, ha324, hi325⟩ := idxR r6 hx319
                refine gq (Q_idx hi325 Tryd.underlying23 ty3 rfl rfl) rfl rfl rfl <| gq (v := .int .i64 x319) (Q_ld (show cellsAt _ _ _ [.int .i64 x319] from (show _ = [_] from hc323) ▸ (ha324.up H.ok.view)) ty3 rfl (fun _ => rfl) rfl rfl) rfl rfl rfl <| gq (Q_eql rfl rfl) rfl rfl rfl <| nq (Q_pickT rfl rfl) rfl rfl <| nq (Q_assign rfl) rfl rfl <| WL_nil ?_
                replace H := H.drop 0 rfl
                dsimp only [List.eraseIdx] at H
                obtain rfl := Option.some.inj ho311
                refine x_A fun a hf => ⟨x319 == (-1), rfl, hf.sub ⟨rfl, trivial⟩, H⟩
              · rw [hb]
                replace ho311 := itF hb ho311
                refine gs rfl rfl rfl rfl <| gs rfl rfl rfl rfl <| gs rfl rfl rfl rfl <| gs rfl rfl rfl rfl <| gs rfl rfl rfl rfl <| nq (Q_pickF rfl rfl) rfl rfl <| nq (Q_assign rfl) rfl rfl <| WL_nil ?_
                replace H := H.drop 0 rfl
                dsimp only [List.eraseIdx] at H
                obtain rfl := Option.some.inj ho311
                refine x_A fun a hf => ⟨false, rfl, hf.sub ⟨rfl, trivial⟩, H⟩
            · rintro a wd326 ⟨x310, rfl, hf, H⟩
              try dsimp only at hF
              refine CW.at hf <| C_ret ?_
              obtain rfl := Option.some.inj hF
              exact fn_ret (l := [.tmp 2]) (vs := [.bool x310]) rfl rfl rfl ⟨x310, rfl, rfl, H⟩
theorem c_51 {N : Nat} {C : Cx} {w : World} {ρ : View} {hs : List Hl} {x1 : Int} (H : Hp C w ρ (hs)) {ge0 : Value} (gl0 : GErr ρ 0 ge0) {r : (Unit ⊕ (List Int))} (hF : F_marks_New N x1 = some r) :
    Calls Tryd.prog 51 [.int .i64 x1].toArray w (Rets (fun v w' => (.inl () = r ∧ .tuple [.pointer none, ge0].toArray = v ∧ Hp C w' ρ (hs)) ∨ (∃ (b11 : Nat) (v12 : Value) (c13 : (List Value)) (x14 : (List Int)), .inr x14 = r ∧ .tuple [.pointer (some ⟨b11, 0, none⟩), .nilIface].toArray = v ∧ rdL (eI .u64) ρ x14 c13 ∧ Hp C w' ρ (Box b11 [v12, .int .i64 x1] :: Arr v12 1 c13 :: hs)))) := by
  unfold F_marks_New at hF
  have h0 : Tryd.f51.body = some _ := rfl
  refine fn_calls' Tryd.func51 h0 (n := 19) rfl (by simp) <| C_seq <| R_nd <| nq (Q_assign rfl) rfl rfl <| nq (Q_assign rfl) rfl rfl <| WL_nil <| x_then <| C_seq ?_
  obtain ⟨o17, ho17, hF⟩ := bnd hF
  refine C_cut (fun a w' => ∃ (x16 : Bool), x16 = o17 ∧ Fr 19 a [(0, .int .i64 x1), (9, .bool x16)] ∧ Hp C w' ρ (hs)) ?_ ?_
  · refine R_nd <| nq (Q_move rfl) rfl rfl <| nq (Q_lss rfl rfl) rfl rfl <| nq (Q_move rfl) rfl rfl ?_
    rcases Bool.eq_false_or_eq_true (decide (x1 < 0)) with hb | hb
    · rw [hb]
      replace ho17 := itT hb ho17
      refine gs rfl rfl rfl rfl <| gs rfl rfl rfl rfl <| nq (Q_pickT rfl rfl) rfl rfl <| WL_nil ?_
      obtain rfl := Option.some.inj ho17
      refine x_A fun a hf => ⟨true, rfl, hf.sub ⟨rfl, rfl, trivial⟩, H⟩
    · rw [hb]
      replace ho17 := itF hb ho17
      refine gq (Q_move rfl) rfl rfl rfl <| gq (Q_gtr rfl rfl) rfl rfl rfl <| nq (Q_pickF rfl rfl) rfl rfl <| WL_nil ?_
      obtain rfl := Option.some.inj ho17
      refine x_A fun a hf => ⟨decide (x1 > 65536), rfl, hf.sub ⟨rfl, rfl, trivial⟩, H⟩
  · rintro a wd18 ⟨x16, rfl, hf, H⟩
    try dsimp only at hF
    refine CW.at hf ?_
    refine C_cond rfl (fun hb => ?_) (fun hb => ?_)
    · replace hF := itT hb hF
      refine C_seq <| R_dr (.take 0 (.take 1 (.take 2 .done))) (fun w' => Ok w' ρ []) (by kernel_rfl) (by kernel_rfl) (by kernel_rfl) (H.drew.okS (by simp)) ?_
      replace H := H.drew
      refine dq rfl (fun _ hw => Q_ldG hw gl0 ty63) rfl rfl <| dq rfl (fun _ _ => Q_assign rfl) rfl rfl <| dq rfl (fun _ _ => Q_assign rfl) rfl rfl <| DL_nil <| x_then <| C_ret <| x_then_ret ?_
      obtain rfl := Option.some.inj hF
      exact fn_ret (l := [.tmp 2, .tmp 3]) (vs := [.pointer none, ge0]) rfl rfl rfl (.inl ⟨rfl, rfl, H⟩)
    · replace hF := itF hb hF
      refine C_skip <| x_then <| C_seq <| R_nd <| nq (Q_move rfl) rfl rfl <| nq (Q_add rfl rfl) rfl rfl <| nq (Q_sub rfl rfl) rfl rfl <| nq (Q_quo rfl rfl (by decide)) rfl rfl ?_
      obtain ⟨x19, hx19, hF⟩ := bnd hF
      obtain ⟨hm21a, hm21b, hm21c⟩ := mk_some hx19
      refine ne (E_make H Tryd.underlying92 ty95 (zs := [.int .u64 0]) rfl rfl (by decide) (by decide) rfl hm21a hm21b) rfl rfl ?_
      rintro _ wd22 ⟨b20, rfl, H⟩
      refine nq (Q_move rfl) rfl rfl <| nq (v := .agg #[(.slice (some ⟨b20, 0, none⟩) (w64 ((w64 ((w64 (x1 + 64)) - 1)).tdiv 64)).toNat (w64 ((w64 ((w64 (x1 + 64)) - 1)).tdiv 64)).toNat), .int .i64 x1]) (Q_buildS st94.choose_spec (ps := [(0, [(.slice (some ⟨b20, 0, none⟩) (w64 ((w64 ((w64 (x1 + 64)) - 1)).tdiv 64)).toNat (w64 ((w64 ((w64 (x1 + 64)) - 1)).tdiv 64)).toNat)]), (1, [.int .i64 x1])]) rfl ⟨rfl, (arr_cells (H.ok.get (k := 0) rfl)).1, by simp, ⟨rfl, rfl, by simp, trivial⟩⟩ rfl) rfl rfl <| ne (E_box H (vs := [(.slice (some ⟨b20, 0, none⟩) (w64 ((w64 ((w64 (x1 + 64)) - 1)).tdiv 64)).toNat (w64 ((w64 ((w64 (x1 + 64)) - 1)).tdiv 64)).toNat), .int .i64 x1]) rfl rfl) rfl rfl ?_
      rintro _ wd24 ⟨b23, rfl, H⟩
      refine nq (Q_assign rfl) rfl rfl <| nq (Q_assign rfl) rfl rfl <| WL_nil <| x_then <| C_ret ?_
      replace H := H.front 1 rfl
      dsimp only [List.eraseIdx] at H
      replace H := H.front 1 rfl
      dsimp only [List.eraseIdx] at H
      obtain rfl := Option.some.inj hF
      exact fn_ret (l := [.tmp 2, .tmp 3]) (vs := [.pointer (some ⟨b23, 0, none⟩), .nilIface]) rfl rfl rfl (.inr ⟨b23, (.slice (some ⟨b20, 0, none⟩) (w64 ((w64 ((w64 (x1 + 64)) - 1)).tdiv 64)).toNat (w64 ((w64 ((w64 (x1 + 64)) - 1)).tdiv 64)).toNat), (repC (w64 ((w64 ((w64 (x1 + 64)) - 1)).tdiv 64)).toNat [.int .u64 0]), x19, rfl, rfl, (hm21c ▸ rdL_rep (e := (eI .u64)) (ρ := ρ) (rfl) _), H⟩)
theorem c_87 {N : Nat} {C : Cx} {w : World} {ρ : View} {hs : List Hl} {b1 : Nat} {c2 : List Value} {v5 : Value} {x3 : (List Int)} {x6 : Int} (H : Hp C w ρ (Box b1 [v5, .int .i64 x6] :: Arr v5 1 c2 :: hs)) (_r4 : rdL (eI .u64) ρ x3 c2) {r : Unit} (hF : F_marks_Marks_Size N x3 x6 = some r) :
    Calls Tryd.prog 87 [.pointer (some ⟨b1, 0, none⟩)].toArray w (Rets (fun v w' => (() = r ∧ .int .i64 x6 = v ∧ Hp C w' ρ (Box b1 [v5, .int .i64 x6] :: Arr v5 1 c2 :: hs)))) := by
  unfold F_marks_Marks_Size at hF
  have h0 : Tryd.f87.body = some _ := rfl
  refine fn_calls' Tryd.func87 h0 (n := 9) rfl (by simp) <| C_seq <| R_nd <| nq (Q_assign rfl) rfl rfl <| WL_nil <| x_then <| C_seq <| C_seq <| R_nd <| nq (Q_move rfl) rfl rfl <| nq (v := .bool false) (Q_eqlP (o := (some ⟨b1, 0, none⟩)) Tryd.underlying61 rfl) rfl rfl <| WL_nil <| x_then ?_
  refine C_cond rfl (fun h => nomatch h) (fun _ => ?_)
  refine C_skip <| x_then <| C_seq <| R_nd <| nq (Q_move rfl) rfl rfl <| nq (Q_nilP rfl) rfl rfl <| nq (v := .pointer (some ⟨b1, 1, none⟩)) (Q_fld Tryd.underlying94 rfl ty3 (by decide) rfl rfl) rfl rfl <| nq (v := .int .i64 x6) (Q_ldB (k := 0) (cs := [.int .i64 x6]) H.ok rfl ty3 rfl rfl rfl (fun _ => rfl) rfl) rfl rfl <| nq (Q_assign rfl) rfl rfl <| WL_nil <| x_then <| C_ret ?_
  replace H := H.front 1 rfl
  dsimp only [List.eraseIdx] at H
  replace H := H.front 1 rfl
  dsimp only [List.eraseIdx] at H
  obtain rfl := Option.some.inj hF
  exact fn_ret (l := [.tmp 2]) (vs := [.int .i64 x6]) rfl rfl rfl ⟨rfl, rfl, H⟩
theorem c_76 {N : Nat} {C : Cx} {w : World} {ρ : View} {hs : List Hl} {b1 : Nat} {c2 : List Value} {v5 : Value} {x3 : (List Int)} {x6 : Int} {x7 : Int} (H : Hp C w ρ (Box b1 [v5, .int .i64 x6] :: Arr v5 1 c2 :: hs)) (r4 : rdL (eI .u64) ρ x3 c2) {r : (Int × Int × Bool)} (hF : F_marks_Marks_at N x3 x6 x7 = some r) :
    Calls Tryd.prog 76 [.pointer (some ⟨b1, 0, none⟩), .int .i64 x7].toArray w (Rets (fun v w' => (∃ (x21 : Int) (x22 : Int) (x23 : Bool), (x21, x22, x23) = r ∧ .tuple [.int .i64 x21, .int .u64 x22, .bool x23].toArray = v ∧ Hp C w' ρ (Box b1 [v5, .int .i64 x6] :: Arr v5 1 c2 :: hs)))) := by
  unfold F_marks_Marks_at at hF
  have h0 : Tryd.f76.body = some _ := rfl
  refine fn_calls' Tryd.func76 h0 (n := 21) rfl (by simp) <| C_seq <| R_nd <| nq (Q_assign rfl) rfl rfl <| nq (Q_assign rfl) rfl rfl <| nq (Q_assign rfl) rfl rfl <| WL_nil <| x_then ?_
  obtain ⟨o31, ho31, hF⟩ := bnd hF
  refine C_cut (fun a w' => ∃ (x28 : Int) (x29 : Int) (x30 : Bool), (x28, x29, x30) = o31 ∧ Fr 21 a [(4, .int .i64 x28), (5, .int .u64 x29), (6, .bool x30)] ∧ Hp C w' ρ (Box b1 [v5, .int .i64 x6] :: Arr v5 1 c2 :: hs)) ?_ ?_
  · refine R_nd <| nq (Q_move rfl) rfl rfl <| nq (Q_quo rfl rfl (by decide)) rfl rfl <| nq (Q_move rfl) rfl rfl <| nq (Q_cvI ⟨_, Tryd.underlying3⟩ Tryd.underlying59 rfl) rfl rfl <| nq (Q_rem rfl rfl (by decide)) rfl rfl ?_
    obtain ⟨x32, hx32, ho31⟩ := bnd ho31
    refine nq (Q_shl rfl rfl (nn_some hx32)) rfl rfl <| nq (Q_move rfl) rfl rfl <| nq (Q_geq rfl rfl) rfl rfl <| nq (Q_move rfl) rfl rfl ?_
    rcases Bool.eq_false_or_eq_true (decide (x7 ≥ 0)) with hb | hb
    · rw [hb]
      replace ho31 := itT hb ho31
      refine gq (Q_move rfl) rfl rfl rfl <| gq (Q_move rfl) rfl rfl rfl ?_
      replace H := H.front 1 rfl
      dsimp only [List.eraseIdx] at H
      replace H := H.front 1 rfl
      dsimp only [List.eraseIdx] at H
      obtain ⟨q33, hq33, ho31⟩ := bnd ho31
      refine ge (E_call fn87 rfl (c_87 H  r4 hq33)) rfl rfl rfl ?_
      rintro _ wd35 ⟨rfl, rfl, H⟩
      try dsimp only at ho31
      refine gq (Q_lss rfl rfl) rfl rfl rfl <| nq (Q_pickT rfl rfl) rfl rfl <| nq (Q_assign rfl) rfl rfl <| nq (Q_assign rfl) rfl rfl <| nq (Q_assign rfl) rfl rfl <| WL_nil ?_
      replace H := H.front 1 rfl
      dsimp only [List.eraseIdx] at H
      replace H := H.front 1 rfl
      dsimp only [List.eraseIdx] at H
      obtain rfl := Option.some.inj ho31
      refine x_A fun a hf => ⟨w64 (x7.tdiv 64), shlI .u64 1 ((IntKind.wrap .u64 x7).tmod 64), decide (x7 < x6), rfl, hf.sub ⟨rfl, rfl, rfl, trivial⟩, H⟩
    · rw [hb]
      replace ho31 := itF hb ho31
      refine gs rfl rfl rfl rfl <| gs rfl rfl rfl rfl <| gs rfl rfl rfl rfl <| gs rfl rfl rfl rfl <| nq (Q_pickF rfl rfl) rfl rfl <| nq (Q_assign rfl) rfl rfl <| nq (Q_assign rfl) rfl rfl <| nq (Q_assign rfl) rfl rfl <| WL_nil ?_
      replace H := H.front 1 rfl
      dsimp only [List.eraseIdx] at H
      replace H := H.front 1 rfl
      dsimp only [List.eraseIdx] at H
      obtain rfl := Option.some.inj ho31
      refine x_A fun a hf => ⟨w64 (x7.tdiv 64), shlI .u64 1 ((IntKind.wrap .u64 x7).tmod 64), false, rfl, hf.sub ⟨rfl, rfl, rfl, trivial⟩, H⟩
  · rintro a wd36 ⟨x28, x29, x30, rfl, hf, H⟩
    try dsimp only at hF
    refine CW.at hf <| C_ret ?_
    replace H := H.front 1 rfl
    dsimp only [List.eraseIdx] at H
    replace H := H.front 1 rfl
    dsimp only [List.eraseIdx] at H
    obtain rfl := Option.some.inj hF
    exact fn_ret (l := [.tmp 4, .tmp 5, .tmp 6]) (vs := [.int .i64 x28, .int .u64 x29, .bool x30]) rfl rfl rfl ⟨x28, x29, x30, rfl, rfl, H⟩
theorem c_52 {N : Nat} {C : Cx} {w : World} {ρ : View} {hs : List Hl} {b1 : Nat} {c2 : List Value} {v5 : Value} {x3 : (List Int)} {x6 : Int} {x7 : Int} (H : Hp C w ρ (Box b1 [v5, .int .i64 x6] :: Arr v5 1 c2 :: hs)) (r4 : rdL (eI .u64) ρ x3 c2) {r : ((List Int) × Bool)} (hF : F_marks_Marks_Put N x3 x6 x7 = some r) :
    Calls Tryd.prog 52 [.pointer (some ⟨b1, 0, none⟩), .int .i64 x7].toArray w (Rets (fun v w' => (∃ (c49 : (List Value)) (x50 : (List Int)) (x52 : Bool), (x50, x52) = r ∧ .bool x52 = v ∧ rdL (eI .u64) ρ x50 c49 ∧ Hp C w' ρ (Box b1 [v5, .int .i64 x6] :: Arr v5 1 c49 :: hs)))) := by
  unfold F_marks_Marks_Put at hF
  have h0 : Tryd.f52.body = some _ := rfl
  refine fn_calls' Tryd.func52 h0 (n := 39) rfl (by simp) <| C_seq <| R_nd <| nq (Q_assign rfl) rfl rfl <| WL_nil <| x_then <| C_seq <| R_nd <| nq (Q_move rfl) rfl rfl <| nq (Q_move rfl) rfl rfl ?_
  replace H := H.front 1 rfl
  dsimp only [List.eraseIdx] at H
  replace H := H.front 1 rfl
  dsimp only [List.eraseIdx] at H
  obtain ⟨q53, hq53, hF⟩ := bnd hF
  refine ne (E_call fn76 rfl (c_76 H  r4 hq53)) rfl rfl ?_
  rintro _ wd58 ⟨x55, x56, x57, rfl, rfl, H⟩
  try dsimp only at hF
  refine nq (Q_move rfl) rfl rfl <| nq (Q_extract rfl rfl) rfl rfl <| nq (Q_extract rfl rfl) rfl rfl <| nq (Q_extract rfl rfl) rfl rfl <| nq (Q_assign rfl) rfl rfl <| nq (Q_assign rfl) rfl rfl <| nq (Q_assign rfl) rfl rfl <| WL_nil <| x_then <| C_seq ?_
  obtain ⟨o67, ho67, hF⟩ := bnd hF
  refine C_cut (fun a w' => ∃ (x66 : Bool), x66 = o67 ∧ Fr 39 a [(0, .pointer (some ⟨b1, 0, none⟩)), (5, .int .i64 x55), (6, .int .u64 x56), (28, .bool x66)] ∧ Hp C w' ρ (Box b1 [v5, .int .i64 x6] :: Arr v5 1 c2 :: hs)) ?_ ?_
  · refine R_nd <| nq (Q_move rfl) rfl rfl <| nq (Q_not rfl) rfl rfl <| nq (Q_move rfl) rfl rfl ?_
    rcases Bool.eq_false_or_eq_true (!x57) with hb | hb
    · rw [hb]
      replace ho67 := itT hb ho67
      refine gs rfl rfl rfl rfl <| gs rfl rfl rfl rfl <| gs rfl rfl rfl rfl <| gs rfl rfl rfl rfl <| gs rfl rfl rfl rfl <| gs rfl rfl rfl rfl <| gs rfl rfl rfl rfl <| gs rfl rfl rfl rfl <| gs rfl rfl rfl rfl <| gs rfl rfl rfl rfl <| nq (Q_pickT rfl rfl) rfl rfl <| WL_nil ?_
      replace H := H.front 1 rfl
      dsimp only [List.eraseIdx] at H
      replace H := H.front 1 rfl
      dsimp only [List.eraseIdx] at H
      obtain rfl := Option.some.inj ho67
      refine x_A fun a hf => ⟨true, rfl, hf.sub ⟨rfl, rfl, rfl, rfl, trivial⟩, H⟩
    · rw [hb]
      replace ho67 := itF hb ho67
      refine gq (Q_move rfl) rfl rfl rfl <| gq (Q_nilP rfl) rfl rfl rfl <| gq (v := .pointer (some ⟨b1, 0, none⟩)) (Q_fld Tryd.underlying94 rfl ty92 (by decide) rfl rfl) rfl rfl rfl <| gq (v := v5) (Q_ldB (k := 0) (cs := [v5]) H.ok rfl ty92 rfl rfl rfl (fun _ => rfl) rfl) rfl rfl rfl <| gq (Q_move rfl) rfl rfl rfl ?_
      obtain ⟨x68, hx68, ho67⟩ := bnd ho67
      obtain ⟨b69, o70, hi74, hc72, ha73⟩ := arr_at (hs := [Arr v5 1 c2]) (k := 0) (by decide) (H.okS (by simp)) rfl r4 hx68
      refine gq (Q_idx hi74 Tryd.underlying92 ty95 rfl rfl) rfl rfl rfl <| gq (v := .int .u64 x68) (Q_ld (show cellsAt _ _ _ [.int .u64 x68] from (show _ = [_] from hc72) ▸ (ha73 _ (Ok.subS (by simp) H.ok))) ty95 rfl (fun _ => rfl) rfl rfl) rfl rfl rfl <| gq (Q_move rfl) rfl rfl rfl <| gq (Q_and rfl rfl) rfl rfl rfl <| gq (Q_neq rfl rfl) rfl rfl rfl <| nq (Q_pickF rfl rfl) rfl rfl <| WL_nil ?_
      replace H := H.front 1 rfl
      dsimp only [List.eraseIdx] at H
      replace H := H.front 1 rfl
      dsimp only [List.eraseIdx] at H
      obtain rfl := Option.some.inj ho67
      refine x_A fun a hf => ⟨(iand .u64 x68 x56) != 0, rfl, hf.sub ⟨rfl, rfl, rfl, rfl, trivial⟩, H⟩
  · rintro a wd75 ⟨x66, rfl, hf, H⟩
    try dsimp only at hF
    refine CW.at hf ?_
    refine C_cond rfl (fun hb => ?_) (fun hb => ?_)
    · replace hF := itT hb hF
      refine C_seq <| R_nd <| nq (Q_assign rfl) rfl rfl <| WL_nil <| x_then <| C_ret <| x_then_ret ?_
      replace H := H.front 1 rfl
      dsimp only [List.eraseIdx] at H
      replace H := H.front 1 rfl
      dsimp only [List.eraseIdx] at H
      obtain rfl := Option.some.inj hF
      exact fn_ret (l := [.tmp 4]) (vs := [.bool false]) rfl rfl rfl ⟨c2, x3, false, rfl, rfl, r4, H⟩
    · replace hF := itF hb hF
      refine C_skip <| x_then <| C_seq <| R_nd <| nq (Q_move rfl) rfl rfl <| nq (Q_nilP rfl) rfl rfl <| nq (v := .pointer (some ⟨b1, 0, none⟩)) (Q_fld Tryd.underlying94 rfl ty92 (by decide) rfl rfl) rfl rfl <| nq (v := v5) (Q_ldB (k := 0) (cs := [v5]) H.ok rfl ty92 rfl rfl rfl (fun _ => rfl) rfl) rfl rfl <| nq (Q_move rfl) rfl rfl ?_
      obtain ⟨x76, hx76, hF⟩ := bnd hF
      obtain ⟨b77, o78, hi82, hc80, ha81⟩ := arr_at (hs := [Arr v5 1 c2]) (k := 0) (by decide) (H.okS (by simp)) rfl r4 hx76
      refine nq (Q_idx hi82 Tryd.underlying92 ty95 rfl rfl) rfl rfl <| nq (v := .int .u64 x76) (Q_ld (show cellsAt _ _ _ [.int .u64 x76] from (show _ = [_] from hc80) ▸ (ha81 _ (Ok.subS (by simp) H.ok))) ty95 rfl (fun _ => rfl) rfl rfl) rfl rfl <| nq (Q_move rfl) rfl rfl <| nq (Q_or rfl rfl) rfl rfl ?_
      obtain ⟨x83, hx83, hF⟩ := bnd hF
      obtain ⟨b84, o85, hi89, hc87, ha88⟩ := arr_at (hs := [Arr v5 1 c2]) (k := 0) (by decide) (H.okS (by simp)) rfl r4 hx83
      refine nq (Q_idx hi89 Tryd.underlying92 ty95 rfl rfl) rfl rfl ?_
      obtain ⟨x90, hx90, hF⟩ := bnd hF
      obtain ⟨hs91a, hs91b, hs91c⟩ := setI_some hx90
      have r92 : rdL (eI .u64) ρ x90 (setC c2 (x55.toNat * 1 + 0) [.int .u64 (ior .u64 x76 x56)]) := hs91c ▸ rdL.set r4 hs91b (rfl)
      refine ne (E_stA (k := 1) (j := 0) (c := [.int .u64 (ior .u64 x76 x56)]) H rfl ty95 hi89 rfl rfl rfl rfl (one_cons rfl one_nil) (by decide)) rfl rfl ?_
      rintro _ wd93 H
      dsimp only [List.set] at H
      refine WL_nil <| x_then <| C_seq <| R_nd <| nq (Q_assign rfl) rfl rfl <| WL_nil <| x_then <| C_ret ?_
      replace H := H.front 1 rfl
      dsimp only [List.eraseIdx] at H
      replace H := H.front 1 rfl
      dsimp only [List.eraseIdx] at H
      obtain rfl := Option.some.inj hF
      exact fn_ret (l := [.tmp 4]) (vs := [.bool true]) rfl rfl rfl ⟨(setC c2 (x55.toNat * 1 + 0) [.int .u64 (ior .u64 x76 x56)]), x90, true, rfl, rfl, r92, H⟩
theorem c_22 {N : Nat} {C : Cx} {w : World} {ρ : View} {hs : List Hl} {v1 : Value} {v4 : Value} {x2 : (List Int)} {x5 : (List Int)} (H : Hp C w ρ (hs)) (r3 : RdSl ρ (eI .i64) v1 x2) (r6 : RdSl ρ (eI .i64) v4 x5) {r : Bool} (hF : F_doffernum_SameInts N x2 x5 = some r) :
    Calls Tryd.prog 22 [v1, v4].toArray w (Rets (fun v w' => (∃ (x107 : Bool), x107 = r ∧ .bool x107 = v ∧ Hp C w' ρ (hs)))) := by
  unfold F_doffernum_SameInts at hF
  have h0 : Tryd.f22.body = some _ := rfl
  refine fn_calls' Tryd.func22 h0 (n := 26) rfl (by simp) <| C_seq <| R_nd <| nq (Q_assign rfl) rfl rfl <| WL_nil <| x_then <| C_seq <| C_seq <| R_nd <| nq (Q_move rfl) rfl rfl <| nq (Q_len Tryd.underlying23 rfl r3) rfl rfl <| nq (Q_move rfl) rfl rfl <| nq (Q_len Tryd.underlying23 rfl r6) rfl rfl <| nq (Q_neq rfl rfl) rfl rfl ?_
  refine WL_nil <| x_then ?_
  refine C_cond rfl (fun hb => ?_) (fun hb => ?_)
  · replace hF := itT hb hF
    refine C_seq <| R_nd <| nq (Q_assign rfl) rfl rfl <| WL_nil <| x_then <| C_ret <| x_then_ret ?_
    obtain rfl := Option.some.inj hF
    exact fn_ret (l := [.tmp 4]) (vs := [.bool false]) rfl rfl rfl ⟨false, rfl, rfl, H⟩
  · replace hF := itF hb hF
    refine C_skip <| x_then <| C_seq <| C_seq <| R_nd <| nq (Q_move rfl) rfl rfl <| nq (Q_len Tryd.underlying23 rfl r3) rfl rfl <| nq (Q_move rfl) rfl rfl <| WL_nil <| x_then ?_
    obtain ⟨o157, ho157, hF⟩ := bnd hF
    refine C_cutQ (fun a w' => .inl () = o157 ∧ Fr 26 a [] ∧ Hp C w' ρ (hs)) ?_ ?_
    · refine C_block ?_
      refine C_iter (f := fun s => F_doffernum_SameInts_l0 N x2 x5 s) ho157 (fun s a w' => ∃ (x173 : Int), x173 = s ∧ Fr 26 a [(0, v1), (1, v4), (12, .int .i64 (x2.length : Int)), (13, .int .i64 x173)] ∧ Hp C w' ρ (hs)) ?_ ?_
      · exact fun a hf => ⟨0, rfl, hf.sub ⟨rfl, rfl, rfl, rfl, trivial⟩, H⟩
      · rintro s o189 a wd192 ⟨x173, rfl, hf, H⟩ hB190 hO191
        replace hB190 : F_doffernum_SameInts_l0 N x2 x5 x173 = some o189 := hB190
        unfold F_doffernum_SameInts_l0 at hB190
        refine CW.at hf <| C_seq <| R_nd <| nq (Q_lss rfl rfl) rfl rfl <| WL_nil <| x_then <| C_seq ?_
        refine C_cond rfl (fun hb => ?_) (fun hb => ?_)
        · replace hB190 := itT hb hB190
          refine C_skip <| x_then <| C_seq <| C_block <| C_seq <| R_nd <| nq (Q_move rfl) rfl rfl <| nq (Q_assign rfl) rfl rfl <| WL_nil <| x_then <| C_seq <| R_dr (.take 0 (.take 1 (.take 2 (.take 3 (.take 4 (.take 5 (.take 6 (.take 7 (.take 8 .done))))))))) (fun w' => Ok w' ρ []) (by kernel_rfl) (by kernel_rfl) (by kernel_rfl) (H.drew.okS (by simp)) ?_
          replace H := H.drew
          refine dq rfl (fun _ _ => Q_move rfl) rfl rfl <| dq rfl (fun _ _ => Q_move rfl) rfl rfl ?_
          obtain ⟨x193, hx193, hB190⟩ := bnd hB190
          obtain ⟨b194, o195, c196, hc197, ha198, hi199⟩ := idxR r3 hx193
          refine dq rfl (fun _ _ => Q_idx hi199 Tryd.underlying23 ty3 rfl rfl) rfl rfl <| dq (v := .int .i64 x193) rfl (fun _ hw => Q_ld (show cellsAt _ _ _ [.int .i64 x193] from (show _ = [_] from hc197) ▸ (ha198.up hw.view)) ty3 rfl (fun _ => rfl) rfl rfl) rfl rfl <| dq rfl (fun _ _ => Q_move rfl) rfl rfl <| dq rfl (fun _ _ => Q_move rfl) rfl rfl ?_
          obtain ⟨x200, hx200, hB190⟩ := bnd hB190
          obtain ⟨b201, o202, c203, hc204, ha205, hi206⟩ := idxR r6 hx200
          refine dq rfl (fun _ _ => Q_idx hi206 Tryd.underlying23 ty3 rfl rfl) rfl rfl <| dq (v := .int .i64 x200) rfl (fun _ hw => Q_ld (show cellsAt _ _ _ [.int .i64 x200] from (show _ = [_] from hc204) ▸ (ha205.up hw.view)) ty3 rfl (fun _ => rfl) rfl rfl) rfl rfl <| dq rfl (fun _ _ => Q_neq rfl rfl) rfl rfl <| DL_nil <| x_then ?_
          refine C_cond rfl (fun hb => ?_) (fun hb => ?_)
          · replace hB190 := itT hb hB190
            refine C_seq <| R_nd <| nq (Q_assign rfl) rfl rfl <| WL_nil <| x_then <| C_ret <| x_block_ret <| x_then_ret <| x_then_ret <| x_block_ret <| x_then_ret <| x_then_ret ?_
            obtain rfl := Option.some.inj hB190
            obtain rfl := hO191 _ rfl
            obtain rfl := Option.some.inj (show some _ = some _ from hF)
            exact fn_ret (l := [.tmp 4]) (vs := [.bool false]) rfl rfl rfl ⟨false, rfl, rfl, H⟩
          · replace hB190 := itF hb hB190
            refine C_skip <| x_block <| x_then <| R_nd <| nq (Q_add rfl rfl) rfl rfl <| nq (Q_move rfl) rfl rfl <| WL_nil ?_
            obtain rfl := Option.some.inj hB190
            refine x_A fun a hf => ⟨_, rfl, w64 (x173 + 1), rfl, hf.sub ⟨rfl, rfl, rfl, rfl, trivial⟩, H⟩
        · replace hB190 := itF hb hB190
          refine C_exit <| x_then_exit <| x_then_exit <| x_block_exit ?_
          obtain rfl := Option.some.inj hB190
          obtain rfl := hO191 _ rfl
          refine x_A fun a hf => ⟨rfl, hf.sub trivial, H⟩
    · rintro a wd207 ⟨rfl, hf, H⟩
      try dsimp only at hF
      refine XX.at hf <| x_then <| C_seq <| R_nd <| nq (Q_assign rfl) rfl rfl <| WL_nil <| x_then <| C_ret ?_
      obtain rfl := Option.some.inj hF
      exact fn_ret (l := [.tmp 4]) (vs := [.bool true]) rfl rfl rfl ⟨true, rfl, rfl, H⟩
theorem c_15 {N : Nat} {C : Cx} {w : World} {ρ : View} {hs : List Hl} {v1 : Value} {v4 : Value} {v7 : Value} {x2 : (List (List Int))} {x5 : (List Int)} {x8 : (List Int)} {x10 : Int} (H : Hp C w ρ (hs)) (r3 : RdSl ρ (eA 256 (eI .i64)) v1 x2) (r6 : RdSl ρ (eI .i64) v4 x5) (r9 : RdSl ρ (eI .i64) v7 x8) {r : ((List (List Int)) × Bool)} (hF : F_dofferlaw17_Of N x2 x5 x8 x10 = some r) :
    Calls Tryd.prog 15 [.agg #[v1, v4, v7], .int .i64 x10].toArray w (Rets (fun v w' => (∃ (v181 : Value) (c182 : (List Value)) (x183 : (List (List Int))) (x185 : Bool), (x183, x185) = r ∧ .tuple [.agg #[v181, v4, v7], .bool x185].toArray = v ∧ rdL (eA 256 (eI .i64)) ρ x183 c182 ∧ Hp C w' ρ (Arr v181 256 c182 :: hs)))) := by
  unfold F_dofferlaw17_Of at hF
  have h0 : Tryd.f15.body = some _ := rfl
  refine fn_calls' Tryd.func15 h0 (n := 48) rfl (by simp) <| C_seq <| R_nd <| ne (E_box H (vs := [v1, v4, v7]) rfl rfl) rfl rfl ?_
  rintro _ wd187 ⟨b186, rfl, H⟩
  refine ne (E_alloc H ty29 (zs := [.slice none 0 0, .slice none 0 0, .slice none 0 0]) rfl) rfl rfl ?_
  rintro _ wd189 ⟨b188, rfl, H⟩
  refine nq (Q_assign rfl) rfl rfl <| WL_nil <| x_then <| C_seq <| R_nd <| nq (v := .pointer (some ⟨b186, 1, none⟩)) (Q_fld Tryd.underlying25 rfl ty23 (by decide) rfl rfl) rfl rfl <| nq (v := v4) (Q_ldB (k := 1) (cs := [v4]) H.ok rfl ty23 rfl rfl rfl (fun _ => rfl) rfl) rfl rfl <| nq (v := .pointer (some ⟨b186, 2, none⟩)) (Q_fld Tryd.underlying25 rfl ty23 (by decide) rfl rfl) rfl rfl <| nq (v := v7) (Q_ldB (k := 1) (cs := [v7]) H.ok rfl ty23 rfl rfl rfl (fun _ => rfl) rfl) rfl rfl <| nq (v := .agg #[.slice none 0 0, v4, v7]) (Q_buildS st29.choose_spec (ps := [(1, [v4]), (2, [v7])]) rfl ⟨rfl, (RdSl.cells r6), by simp, ⟨rfl, (RdSl.cells r9), by simp, trivial⟩⟩ rfl) rfl rfl <| ne (E_alloc H ty29 (zs := [.slice none 0 0, .slice none 0 0, .slice none 0 0]) rfl) rfl rfl ?_
  rintro _ wd191 ⟨b190, rfl, H⟩
  refine ne (E_stB (k := 0) (cs := [.slice none 0 0, v4, v7]) (vs' := [.slice none 0 0, v4, v7]) H rfl ty29 rfl rfl rfl rfl (one_cons rfl (one_cons (RdSl.one r6) (one_cons (RdSl.one r9) one_nil))) (by simp) rfl) rfl rfl ?_
  rintro _ wd192 H
  dsimp only [List.set] at H
  refine WL_nil <| x_then <| C_seq ?_
  obtain ⟨o194, ho194, hF⟩ := bnd hF
  refine C_cut (fun a w' => ∃ (x193 : Bool), x193 = o194 ∧ Fr 48 a [(2, .pointer (some ⟨b186, 0, none⟩)), (4, .pointer (some ⟨b188, 0, none⟩)), (6, .pointer (some ⟨b190, 0, none⟩)), (31, .bool x193)] ∧ Hp C w' ρ (Box b186 [v1, v4, v7] :: Box b188 [.slice none 0 0, .slice none 0 0, .slice none 0 0] :: Box b190 [.slice none 0 0, v4, v7] :: hs)) ?_ ?_
  · refine R_nd <| nq (v := .pointer (some ⟨b186, 0, none⟩)) (Q_fld Tryd.underlying25 rfl ty22 (by decide) rfl rfl) rfl rfl <| nq (v := v1) (Q_ldB (k := 2) (cs := [v1]) H.ok rfl ty22 rfl rfl rfl (fun _ => rfl) rfl) rfl rfl <| nq (Q_len Tryd.underlying22 rfl r3) rfl rfl <| nq (Q_move rfl) rfl rfl <| nq (Q_gtr rfl rfl) rfl rfl <| nq (Q_move rfl) rfl rfl ?_
    rcases Bool.eq_false_or_eq_true (decide ((x2.length : Int) > x10)) with hb | hb
    · rw [hb]
      replace ho194 := itT hb ho194
      refine gs rfl rfl rfl rfl <| gs rfl rfl rfl rfl <| gs rfl rfl rfl rfl <| gs rfl rfl rfl rfl <| gs rfl rfl rfl rfl <| nq (Q_pickT rfl rfl) rfl rfl <| nq (Q_move rfl) rfl rfl <| gs rfl rfl rfl rfl <| gs rfl rfl rfl rfl <| gs rfl rfl rfl rfl <| gs rfl rfl rfl rfl <| nq (Q_pickT rfl rfl) rfl rfl <| WL_nil ?_
      replace H := H.front 1 rfl
      dsimp only [List.eraseIdx] at H
      replace H := H.front 2 rfl
      dsimp only [List.eraseIdx] at H
      obtain rfl := Option.some.inj ho194
      refine x_A fun a hf => ⟨true, rfl, hf.sub ⟨rfl, rfl, rfl, rfl, trivial⟩, H⟩
    · rw [hb]
      replace ho194 := itF hb ho194
      refine gq (v := .pointer (some ⟨b186, 1, none⟩)) (Q_fld Tryd.underlying25 rfl ty23 (by decide) rfl rfl) rfl rfl rfl <| gq (v := v4) (Q_ldB (k := 2) (cs := [v4]) H.ok rfl ty23 rfl rfl rfl (fun _ => rfl) rfl) rfl rfl rfl <| gq (Q_len Tryd.underlying23 rfl r6) rfl rfl rfl <| gq (Q_move rfl) rfl rfl rfl <| gq (Q_gtr rfl rfl) rfl rfl rfl <| nq (Q_pickF rfl rfl) rfl rfl <| nq (Q_move rfl) rfl rfl ?_
      rcases Bool.eq_false_or_eq_true (decide ((x5.length : Int) > x10)) with hb | hb
      · rw [hb]
        replace ho194 := itT hb ho194
        refine gs rfl rfl rfl rfl <| gs rfl rfl rfl rfl <| gs rfl rfl rfl rfl <| gs rfl rfl rfl rfl <| nq (Q_pickT rfl rfl) rfl rfl <| WL_nil ?_
        replace H := H.front 1 rfl
        dsimp only [List.eraseIdx] at H
        replace H := H.front 2 rfl
        dsimp only [List.eraseIdx] at H
        obtain rfl := Option.some.inj ho194
        refine x_A fun a hf => ⟨true, rfl, hf.sub ⟨rfl, rfl, rfl, rfl, trivial⟩, H⟩
      · rw [hb]
        replace ho194 := itF hb ho194
        refine gq (v := .pointer (some ⟨b186, 2, none⟩)) (Q_fld Tryd.underlying25 rfl ty23 (by decide) rfl rfl) rfl rfl rfl <| gq (v := v7) (Q_ldB (k := 2) (cs := [v7]) H.ok rfl ty23 rfl rfl rfl (fun _ => rfl) rfl) rfl rfl rfl <| gq (Q_len Tryd.underlying23 rfl r9) rfl rfl rfl <| gq (Q_gtr rfl rfl) rfl rfl rfl <| nq (Q_pickF rfl rfl) rfl rfl <| WL_nil ?_
        replace H := H.front 1 rfl
        dsimp only [List.eraseIdx] at H
        replace H := H.front 2 rfl
        dsimp only [List.eraseIdx] at H
        obtain rfl := Option.some.inj ho194
        refine x_A fun a hf => ⟨decide ((x8.length : Int) > 20), rfl, hf.sub ⟨rfl, rfl, rfl, rfl, trivial⟩, H⟩
  · rintro a wd195 ⟨x193, rfl, hf, H⟩
    try dsimp only at hF
    refine CW.at hf ?_
    refine C_cond rfl (fun hb => ?_) (fun hb => ?_)
    · replace hF := itT hb hF
      refine C_seq <| R_nd <| nq (v := .agg #[.slice none 0 0, v4, v7]) (Q_ldB (k := 2) (cs := [.slice none 0 0, v4, v7]) H.ok rfl ty29 rfl rfl rfl (fun h => nomatch h) rfl) rfl rfl <| ne (E_stB (k := 1) (cs := [.slice none 0 0, v4, v7]) (vs' := [.slice none 0 0, v4, v7]) H rfl ty29 rfl rfl rfl rfl (one_cons rfl (one_cons (RdSl.one r6) (one_cons (RdSl.one r9) one_nil))) (by simp) rfl) rfl rfl ?_
      rintro _ wd196 H
      dsimp only [List.set] at H
      refine nq (Q_assign rfl) rfl rfl <| WL_nil <| x_then <| C_ret <| x_then_ret ?_
      have H := H.nilArr 256
      have hRV : RV Tryd.prog wd196 [(4, .pointer (some ⟨b188, 0, none⟩)), (5, .bool false)] [.cell 4 29, .tmp 5] [.agg #[(.slice none 0 0), v4, v7], .bool false] := ⟨⟨_, rfl, run_ldv ty29 rfl (fun h => nomatch h) (box_at (H.ok.get (k := 2) rfl) 0 3)⟩, rfl, trivial⟩
      replace H := H.drop 1 rfl
      dsimp only [List.eraseIdx] at H
      replace H := H.drop 1 rfl
      dsimp only [List.eraseIdx] at H
      replace H := H.drop 1 rfl
      dsimp only [List.eraseIdx] at H
      obtain rfl := Option.some.inj hF
      exact fn_retV (rs := [.cell 4 29, .tmp 5]) (vs := [.agg #[(.slice none 0 0), v4, v7], .bool false]) rfl hRV ⟨(.slice none 0 0), [], [], false, rfl, rfl, rdL.nil, H⟩
    · replace hF := itF hb hF
      refine C_skip <| x_then <| C_seq <| C_seq <| R_nd <| nq (v := .pointer (some ⟨b186, 0, none⟩)) (Q_fld Tryd.underlying25 rfl ty22 (by decide) rfl rfl) rfl rfl <| nq (v := v1) (Q_ldB (k := 0) (cs := [v1]) H.ok rfl ty22 rfl rfl rfl (fun _ => rfl) rfl) rfl rfl <| nq (Q_len Tryd.underlying22 rfl r3) rfl rfl <| nq (Q_move rfl) rfl rfl <| WL_nil <| x_then ?_
      obtain ⟨o277, ho277, hF⟩ := bnd hF
      refine C_cutQ (fun a w' => ∃ (v273 : Value) (c274 : (List Value)) (x275 : (List (List Int))), x275 = o277 ∧ rdL (eA 256 (eI .i64)) ρ x275 c274 ∧ Fr 48 a [(4, .pointer (some ⟨b188, 0, none⟩)), (6, .pointer (some ⟨b190, 0, none⟩))] ∧ Hp C w' ρ (Box b188 [.slice none 0 0, .slice none 0 0, .slice none 0 0] :: Box b190 [v273, v4, v7] :: Arr v273 256 c274 :: hs)) ?_ ?_
      · refine C_block ?_
        have H := H.nilArr 256
        replace H := H.front 3 rfl
        dsimp only [List.eraseIdx] at H
        replace H := H.front 3 rfl
        dsimp only [List.eraseIdx] at H
        replace H := H.drop 3 rfl
        dsimp only [List.eraseIdx] at H
        refine C_iter (f := fun s => F_dofferlaw17_Of_l0 N x2 s.1 s.2) ho277 (fun s a w' => ∃ (v303 : Value) (c304 : (List Value)) (x302 : Int) (x305 : (List (List Int))), (x302, x305) = s ∧ rdL (eA 256 (eI .i64)) ρ x305 c304 ∧ Fr 48 a [(4, .pointer (some ⟨b188, 0, none⟩)), (6, .pointer (some ⟨b190, 0, none⟩)), (34, v1), (35, .int .i64 (x2.length : Int)), (36, .int .i64 x302)] ∧ Hp C w' ρ (Box b188 [.slice none 0 0, .slice none 0 0, .slice none 0 0] :: Box b190 [v303, v4, v7] :: Arr v303 256 c304 :: hs)) ?_ ?_
        · exact fun a hf => ⟨(.slice none 0 0), [], 0, [], rfl, rdL.nil, hf.sub ⟨rfl, rfl, rfl, rfl, rfl, trivial⟩, H⟩
        · rintro s o331 a wd334 ⟨v303, c304, x302, x305, rfl, r306, hf, H⟩ hB332 hO333
          replace hB332 : F_dofferlaw17_Of_l0 N x2 x302 x305 = some o331 := hB332
          unfold F_dofferlaw17_Of_l0 at hB332
          refine CW.at hf <| C_seq <| R_nd <| nq (Q_lss rfl rfl) rfl rfl <| WL_nil <| x_then <| C_seq ?_
          refine C_cond rfl (fun hb => ?_) (fun hb => ?_)
          · replace hB332 := itT hb hB332
            refine C_skip <| x_then <| C_seq <| C_block <| C_seq <| R_nd ?_
            obtain ⟨x335, hx335, hB332⟩ := bnd hB332
            obtain ⟨b336, o337, c338, hc339, ha340, hi341⟩ := idxR r3 hx335
            refine nq (Q_idx hi341 Tryd.underlying22 ty58 rfl rfl) rfl rfl <| nq (v := .agg c338.toArray) (Q_ld (ha340.up H.ok.view) ty58 ((eA 256 (eI .i64)).len hc339) (fun h => nomatch h) rfl rfl) rfl rfl <| ne (E_allocA (N := 256) (n := 1) (zs := (repC 256 [.int .i64 0])) H ty58 rfl (by simp [repC_length])) rfl rfl ?_
            rintro _ wd343 ⟨b342, rfl, H⟩
            refine ne (E_stW (k := 0) H rfl ty58 rfl rfl (rdL.one hc339.2) (arr_clen (rdL_rep (e:=(eI .i64)) (ρ:=ρ) (rfl) 256) List.length_replicate) (arr_clen hc339.2 hc339.1)) rfl rfl ?_
            rintro _ wd344 H
            dsimp only [List.set] at H
            refine WL_nil <| x_then <| R_nd <| nq (v := .pointer (some ⟨b190, 0, none⟩)) (Q_fld Tryd.underlying29 rfl ty27 (by decide) rfl rfl) rfl rfl <| nq (v := v303) (Q_ldB (k := 2) (cs := [v303]) H.ok rfl ty27 rfl rfl rfl (fun _ => rfl) rfl) rfl rfl <| nq (Q_ldW (k := 0) H.ok rfl ty58 rfl (arr_clen hc339.2 hc339.1)) rfl rfl <| ne (E_bslice (xs := [.tmp 42]) (vs := [.agg c338.toArray]) H Tryd.underlying27 ty57 (by decide) (cs := c338) rfl (sz_cons (arr_clen hc339.2 hc339.1) sz_nil) (by simp [Value.cells]) (by simp) (by simp) rfl rfl) rfl rfl ?_
            rintro _ wd346 ⟨b345, rfl, H⟩
            obtain ⟨x347, hx347, hB332⟩ := bnd hB332
            obtain ⟨ha348a, ha348b⟩ := app_some hx347
            have r350 : rdL (eA 256 (eI .i64)) ρ x347 (c304 ++ c338) := ha348b ▸ rdL.app r306 (show rdL (eA 256 (eI .i64)) ρ ([x335]) c338 from rdL.single ⟨hc339.1, hc339.2⟩)
            refine ne (E_append (k := 4) H rfl Tryd.underlying27 ty57 rfl (by decide) (by decide) rfl rfl (Src.ofArr (k := 0) H.ok rfl) (rdL.one (show rdL (eA 256 (eI .i64)) ρ ([x335]) c338 from rdL.single ⟨hc339.1, hc339.2⟩)) (app_fit r306 (show rdL (eA 256 (eI .i64)) ρ ([x335]) c338 from rdL.single ⟨hc339.1, hc339.2⟩) ha348a)) rfl rfl ?_
            rintro v349 wd352 ⟨H, hc351⟩
            dsimp only [List.set] at H
            refine nq (v := .pointer (some ⟨b190, 0, none⟩)) (Q_fld Tryd.underlying29 rfl ty27 (by decide) rfl rfl) rfl rfl <| ne (E_stB (k := 3) (cs := [v349]) (vs' := [v349, v4, v7]) H rfl ty27 rfl rfl (arr_cells (H.ok.get (k := 4) rfl)).1 rfl (one_cons (arr_cells (H.ok.get (k := 4) rfl)).2 one_nil) (by simp) rfl) rfl rfl ?_
            rintro _ wd353 H
            dsimp only [List.set] at H
            refine WL_nil <| x_block <| x_then <| R_nd <| nq (Q_add rfl rfl) rfl rfl <| nq (Q_move rfl) rfl rfl <| WL_nil ?_
            replace H := H.front 4 rfl
            dsimp only [List.eraseIdx] at H
            replace H := H.front 4 rfl
            dsimp only [List.eraseIdx] at H
            replace H := H.front 4 rfl
            dsimp only [List.eraseIdx] at H
            replace H := H.drop 3 rfl
            dsimp only [List.eraseIdx] at H
            replace H := H.drop 3 rfl
            dsimp only [List.eraseIdx] at H
            obtain rfl := Option.some.inj hB332
            refine x_A fun a hf => ⟨_, rfl, v349, (c304 ++ c338), w64 (x302 + 1), x347, rfl, r350, hf.sub ⟨rfl, rfl, rfl, rfl, rfl, trivial⟩, H⟩
          · replace hB332 := itF hb hB332
            refine C_exit <| x_then_exit <| x_then_exit <| x_block_exit ?_
            replace H := H.front 2 rfl
            dsimp only [List.eraseIdx] at H
            replace H := H.front 2 rfl
            dsimp only [List.eraseIdx] at H
            replace H := H.front 2 rfl
            dsimp only [List.eraseIdx] at H
            obtain rfl := Option.some.inj hB332
            obtain rfl := hO333 _ rfl
            refine x_A fun a hf => ⟨v303, c304, x305, rfl, r306, hf.sub ⟨rfl, rfl, trivial⟩, H⟩
      · rintro a wd354 ⟨v273, c274, x275, rfl, r276, hf, H⟩
        try dsimp only at hF
        refine XX.at hf <| x_then <| C_seq <| R_nd <| nq (v := .agg #[v273, v4, v7]) (Q_ldB (k := 1) (cs := [v273, v4, v7]) H.ok rfl ty29 rfl rfl rfl (fun h => nomatch h) rfl) rfl rfl <| ne (E_stB (k := 0) (cs := [v273, v4, v7]) (vs' := [v273, v4, v7]) H rfl ty29 rfl rfl rfl rfl (one_cons (arr_cells (H.ok.get (k := 2) rfl)).2 (one_cons (RdSl.one r6) (one_cons (RdSl.one r9) one_nil))) (by simp) rfl) rfl rfl ?_
        rintro _ wd355 H
        dsimp only [List.set] at H
        refine nq (Q_assign rfl) rfl rfl <| WL_nil <| x_then <| C_ret ?_
        have hRV : RV Tryd.prog wd355 [(4, .pointer (some ⟨b188, 0, none⟩)), (5, .bool true)] [.cell 4 29, .tmp 5] [.agg #[v273, v4, v7], .bool true] := ⟨⟨_, rfl, run_ldv ty29 rfl (fun h => nomatch h) (box_at (H.ok.get (k := 0) rfl) 0 3)⟩, rfl, trivial⟩
        replace H := H.front 2 rfl
        dsimp only [List.eraseIdx] at H
        replace H := H.drop 1 rfl
        dsimp only [List.eraseIdx] at H
        replace H := H.drop 1 rfl
        dsimp only [List.eraseIdx] at H
        obtain rfl := Option.some.inj hF
        exact fn_retV (rs := [.cell 4 29, .tmp 5]) (vs := [.agg #[v273, v4, v7], .bool true]) rfl hRV ⟨v273, c274, x275, true, rfl, rfl, r276, H⟩
theorem c_17 {N : Nat} {C : Cx} {w : World} {ρ : View} {hs : List Hl} {v1 : Value} {v4 : Value} {v7 : Value} {x2 : (List (List Int))} {x5 : (List Int)} {x8 : (List Int)} (H : Hp C w ρ (hs)) (r3 : RdSl ρ (eA 256 (eI .i64)) v1 x2) (r6 : RdSl ρ (eI .i64) v4 x5) (r9 : RdSl ρ (eI .i64) v7 x8) {r : Bool} (hF : F_dofferref17_Right N x2 x5 x8 = some r) :
    Calls Tryd.prog 17 [.agg #[v1, v4, v7]].toArray w (Rets (fun v w' => (∃ (x600 : Bool), x600 = r ∧ .bool x600 = v ∧ Hp C w' ρ (hs)))) := by
  unfold F_dofferref17_Right at hF
  have h0 : Tryd.f17.body = some _ := rfl
  refine fn_calls' Tryd.func17 h0 (n := 101) rfl (by simp) <| C_seq <| R_nd <| ne (E_box H (vs := [v1, v4, v7]) rfl rfl) rfl rfl ?_
  rintro _ wd602 ⟨b601, rfl, H⟩
  refine nq (Q_assign rfl) rfl rfl <| WL_nil <| x_then <| C_seq <| R_nd <| nq (v := .pointer (some ⟨b601, 0, none⟩)) (Q_fld Tryd.underlying29 rfl ty27 (by decide) rfl rfl) rfl rfl <| nq (v := v1) (Q_ldB (k := 0) (cs := [v1]) H.ok rfl ty27 rfl rfl rfl (fun _ => rfl) rfl) rfl rfl <| nq (Q_len Tryd.underlying27 rfl r3) rfl rfl <| nq (Q_assign rfl) rfl rfl <| WL_nil <| x_then <| C_seq ?_
  obtain ⟨o604, ho604, hF⟩ := bnd hF
  refine C_cut (fun a w' => ∃ (x603 : Bool), x603 = o604 ∧ Fr 101 a [(1, .pointer (some ⟨b601, 0, none⟩)), (3, .int .i64 (x2.length : Int)), (37, .bool x603)] ∧ Hp C w' ρ (Box b601 [v1, v4, v7] :: hs)) ?_ ?_
  · refine R_nd <| nq (Q_move rfl) rfl rfl <| nq (Q_lss rfl rfl) rfl rfl <| nq (Q_move rfl) rfl rfl ?_
    rcases Bool.eq_false_or_eq_true (decide ((x2.length : Int) < 1)) with hb | hb
    · rw [hb]
      replace ho604 := itT hb ho604
      refine gs rfl rfl rfl rfl <| gs rfl rfl rfl rfl <| nq (Q_pickT rfl rfl) rfl rfl <| nq (Q_move rfl) rfl rfl <| gs rfl rfl rfl rfl <| gs rfl rfl rfl rfl <| gs rfl rfl rfl rfl <| gs rfl rfl rfl rfl <| gs rfl rfl rfl rfl <| nq (Q_pickT rfl rfl) rfl rfl <| nq (Q_move rfl) rfl rfl <| gs rfl rfl rfl rfl <| gs rfl rfl rfl rfl <| gs rfl rfl rfl rfl ?_
      refine gs rfl rfl rfl rfl <| nq (Q_pickT rfl rfl) rfl rfl <| nq (Q_move rfl) rfl rfl <| gs rfl rfl rfl rfl <| gs rfl rfl rfl rfl <| gs rfl rfl rfl rfl <| gs rfl rfl rfl rfl <| nq (Q_pickT rfl rfl) rfl rfl <| WL_nil ?_
      obtain rfl := Option.some.inj ho604
      refine x_A fun a hf => ⟨true, rfl, hf.sub ⟨rfl, rfl, rfl, trivial⟩, H⟩
    · rw [hb]
      replace ho604 := itF hb ho604
      refine gq (Q_move rfl) rfl rfl rfl <| gq (Q_gtr rfl rfl) rfl rfl rfl <| nq (Q_pickF rfl rfl) rfl rfl <| nq (Q_move rfl) rfl rfl ?_
      rcases Bool.eq_false_or_eq_true (decide ((x2.length : Int) > 200)) with hb | hb
      · rw [hb]
        replace ho604 := itT hb ho604
        refine gs rfl rfl rfl rfl <| gs rfl rfl rfl rfl <| gs rfl rfl rfl rfl <| gs rfl rfl rfl rfl <| gs rfl rfl rfl rfl <| nq (Q_pickT rfl rfl) rfl rfl <| nq (Q_move rfl) rfl rfl <| gs rfl rfl rfl rfl <| gs rfl rfl rfl rfl <| gs rfl rfl rfl rfl <| gs rfl rfl rfl rfl <| nq (Q_pickT rfl rfl) rfl rfl <| nq (Q_move rfl) rfl rfl <| gs rfl rfl rfl rfl ?_
        refine gs rfl rfl rfl rfl <| gs rfl rfl rfl rfl <| gs rfl rfl rfl rfl <| nq (Q_pickT rfl rfl) rfl rfl <| WL_nil ?_
        obtain rfl := Option.some.inj ho604
        refine x_A fun a hf => ⟨true, rfl, hf.sub ⟨rfl, rfl, rfl, trivial⟩, H⟩
      · rw [hb]
        replace ho604 := itF hb ho604
        refine gq (v := .pointer (some ⟨b601, 1, none⟩)) (Q_fld Tryd.underlying29 rfl ty23 (by decide) rfl rfl) rfl rfl rfl <| gq (v := v4) (Q_ldB (k := 0) (cs := [v4]) H.ok rfl ty23 rfl rfl rfl (fun _ => rfl) rfl) rfl rfl rfl <| gq (Q_len Tryd.underlying23 rfl r6) rfl rfl rfl <| gq (Q_move rfl) rfl rfl rfl <| gq (Q_neq rfl rfl) rfl rfl rfl <| nq (Q_pickF rfl rfl) rfl rfl <| nq (Q_move rfl) rfl rfl ?_
        rcases Bool.eq_false_or_eq_true ((x5.length : Int) != (x2.length : Int)) with hb | hb
        · rw [hb]
          replace ho604 := itT hb ho604
          refine gs rfl rfl rfl rfl <| gs rfl rfl rfl rfl <| gs rfl rfl rfl rfl <| gs rfl rfl rfl rfl <| nq (Q_pickT rfl rfl) rfl rfl <| nq (Q_move rfl) rfl rfl <| gs rfl rfl rfl rfl <| gs rfl rfl rfl rfl <| gs rfl rfl rfl rfl <| gs rfl rfl rfl rfl <| nq (Q_pickT rfl rfl) rfl rfl <| WL_nil ?_
          obtain rfl := Option.some.inj ho604
          refine x_A fun a hf => ⟨true, rfl, hf.sub ⟨rfl, rfl, rfl, trivial⟩, H⟩
        · rw [hb]
          replace ho604 := itF hb ho604
          refine gq (v := .pointer (some ⟨b601, 2, none⟩)) (Q_fld Tryd.underlying29 rfl ty23 (by decide) rfl rfl) rfl rfl rfl <| gq (v := v7) (Q_ldB (k := 0) (cs := [v7]) H.ok rfl ty23 rfl rfl rfl (fun _ => rfl) rfl) rfl rfl rfl <| gq (Q_len Tryd.underlying23 rfl r9) rfl rfl rfl <| gq (Q_lss rfl rfl) rfl rfl rfl <| nq (Q_pickF rfl rfl) rfl rfl <| nq (Q_move rfl) rfl rfl ?_
          rcases Bool.eq_false_or_eq_true (decide ((x8.length : Int) < 1)) with hb | hb
          · rw [hb]
            replace ho604 := itT hb ho604
            refine gs rfl rfl rfl rfl <| gs rfl rfl rfl rfl <| gs rfl rfl rfl rfl <| gs rfl rfl rfl rfl <| nq (Q_pickT rfl rfl) rfl rfl <| WL_nil ?_
            obtain rfl := Option.some.inj ho604
            refine x_A fun a hf => ⟨true, rfl, hf.sub ⟨rfl, rfl, rfl, trivial⟩, H⟩
          · rw [hb]
            replace ho604 := itF hb ho604
            refine gq (v := .pointer (some ⟨b601, 2, none⟩)) (Q_fld Tryd.underlying29 rfl ty23 (by decide) rfl rfl) rfl rfl rfl <| gq (v := v7) (Q_ldB (k := 0) (cs := [v7]) H.ok rfl ty23 rfl rfl rfl (fun _ => rfl) rfl) rfl rfl rfl <| gq (Q_len Tryd.underlying23 rfl r9) rfl rfl rfl <| gq (Q_gtr rfl rfl) rfl rfl rfl <| nq (Q_pickF rfl rfl) rfl rfl <| WL_nil ?_
            obtain rfl := Option.some.inj ho604
            refine x_A fun a hf => ⟨decide ((x8.length : Int) > 8), rfl, hf.sub ⟨rfl, rfl, rfl, trivial⟩, H⟩
  · rintro a wd605 ⟨x603, rfl, hf, H⟩
    try dsimp only at hF
    refine CW.at hf ?_
    refine C_cond rfl (fun hb => ?_) (fun hb => ?_)
    · replace hF := itT hb hF
      refine C_seq <| R_nd <| nq (Q_assign rfl) rfl rfl <| WL_nil <| x_then <| C_ret <| x_then_ret ?_
      replace H := H.drop 0 rfl
      dsimp only [List.eraseIdx] at H
      obtain rfl := Option.some.inj hF
      exact fn_ret (l := [.tmp 2]) (vs := [.bool false]) rfl rfl rfl ⟨false, rfl, rfl, H⟩
    · replace hF := itF hb hF
      refine C_skip <| x_then <| C_seq <| C_seq <| R_nd <| nq (v := .pointer (some ⟨b601, 0, none⟩)) (Q_fld Tryd.underlying29 rfl ty27 (by decide) rfl rfl) rfl rfl <| nq (v := v1) (Q_ldB (k := 0) (cs := [v1]) H.ok rfl ty27 rfl rfl rfl (fun _ => rfl) rfl) rfl rfl <| nq (Q_len Tryd.underlying27 rfl r3) rfl rfl <| nq (Q_move rfl) rfl rfl <| WL_nil <| x_then ?_
      obtain ⟨o856, ho856, hF⟩ := bnd hF
      refine C_cutQ (fun a w' => .inl () = o856 ∧ Fr 101 a [(1, .pointer (some ⟨b601, 0, none⟩)), (3, .int .i64 (x2.length : Int))] ∧ Hp C w' ρ (Box b601 [v1, v4, v7] :: hs)) ?_ ?_
      · refine C_block ?_
        refine C_iter (f := fun s => F_dofferref17_Right_l0 N x2 x5 s) ho856 (fun s a w' => ∃ (x939 : Int), x939 = s ∧ Fr 101 a [(1, .pointer (some ⟨b601, 0, none⟩)), (3, .int .i64 (x2.length : Int)), (39, v1), (40, .int .i64 (x2.length : Int)), (41, .int .i64 x939)] ∧ Hp C w' ρ (Box b601 [v1, v4, v7] :: hs)) ?_ ?_
        · exact fun a hf => ⟨0, rfl, hf.sub ⟨rfl, rfl, rfl, rfl, rfl, trivial⟩, H⟩
        · rintro s o1022 a wd1025 ⟨x939, rfl, hf, H⟩ hB1023 hO1024
          replace hB1023 : F_dofferref17_Right_l0 N x2 x5 x939 = some o1022 := hB1023
          unfold F_dofferref17_Right_l0 at hB1023
          refine CW.at hf <| C_seq <| R_nd <| nq (Q_lss rfl rfl) rfl rfl <| WL_nil <| x_then <| C_seq ?_
          refine C_cond rfl (fun hb => ?_) (fun hb => ?_)
          · replace hB1023 := itT hb hB1023
            refine C_skip <| x_then <| C_seq <| C_block <| C_seq <| R_nd <| nq (Q_move rfl) rfl rfl ?_
            obtain ⟨x1026, hx1026, hB1023⟩ := bnd hB1023
            obtain ⟨b1027, o1028, c1029, hc1030, ha1031, hi1032⟩ := idxR r3 hx1026
            refine nq (Q_idx hi1032 Tryd.underlying27 ty57 rfl rfl) rfl rfl <| nq (v := .agg c1029.toArray) (Q_ld (ha1031.up H.ok.view) ty57 ((eA 256 (eI .i64)).len hc1030) (fun h => nomatch h) rfl rfl) rfl rfl <| ne (E_allocA (N := 256) (n := 1) (zs := (repC 256 [.int .i64 0])) H ty57 rfl (by simp [repC_length])) rfl rfl ?_
            rintro _ wd1034 ⟨b1033, rfl, H⟩
            refine nq (Q_assign rfl) rfl rfl <| ne (E_stW (k := 0) H rfl ty57 rfl rfl (rdL.one hc1030.2) (arr_clen (rdL_rep (e:=(eI .i64)) (ρ:=ρ) (rfl) 256) List.length_replicate) (arr_clen hc1030.2 hc1030.1)) rfl rfl ?_
            rintro _ wd1035 H
            dsimp only [List.set] at H
            refine WL_nil <| x_then <| C_seq ?_
            obtain ⟨o1051, ho1051, hB1023⟩ := bnd hB1023
            refine C_cut (fun a w' => ∃ (x1050 : Bool), x1050 = o1051 ∧ Fr 101 a [(1, .pointer (some ⟨b601, 0, none⟩)), (3, .int .i64 (x2.length : Int)), (4, .int .i64 x939), (5, .pointer (some ⟨b1033, 0, none⟩)), (39, v1), (40, .int .i64 (x2.length : Int)), (41, .int .i64 x939), (59, .bool x1050)] ∧ Hp C w' ρ (Box b601 [v1, v4, v7] :: Arr (.slice (some ⟨b1033, 0, none⟩) 256 256) 1 c1029 :: hs)) ?_ ?_
            · refine R_nd <| nq (v := .pointer (some ⟨b601, 1, none⟩)) (Q_fld Tryd.underlying29 rfl ty23 (by decide) rfl rfl) rfl rfl <| nq (v := v4) (Q_ldB (k := 1) (cs := [v4]) H.ok rfl ty23 rfl rfl rfl (fun _ => rfl) rfl) rfl rfl <| nq (Q_move rfl) rfl rfl ?_
              obtain ⟨x1052, hx1052, ho1051⟩ := bnd ho1051
              obtain ⟨b1053, o1054, c1055, hc1056, ha1057, hi1058⟩ := idxR r6 hx1052
              refine nq (Q_idx hi1058 Tryd.underlying23 ty3 rfl rfl) rfl rfl <| nq (v := .int .i64 x1052) (Q_ld (show cellsAt _ _ _ [.int .i64 x1052] from (show _ = [_] from hc1056) ▸ (ha1057.up H.ok.view)) ty3 rfl (fun _ => rfl) rfl rfl) rfl rfl <| nq (Q_lss rfl rfl) rfl rfl <| nq (Q_move rfl) rfl rfl ?_
              rcases Bool.eq_false_or_eq_true (decide (x1052 < (-1))) with hb | hb
              · rw [hb]
                replace ho1051 := itT hb ho1051
                refine gs rfl rfl rfl rfl <| gs rfl rfl rfl rfl <| gs rfl rfl rfl rfl <| gs rfl rfl rfl rfl <| gs rfl rfl rfl rfl <| gs rfl rfl rfl rfl <| nq (Q_pickT rfl rfl) rfl rfl <| WL_nil ?_
                replace H := H.front 1 rfl
                dsimp only [List.eraseIdx] at H
                obtain rfl := Option.some.inj ho1051
                refine x_A fun a hf => ⟨true, rfl, hf.sub ⟨rfl, rfl, rfl, rfl, rfl, rfl, rfl, rfl, trivial⟩, H⟩
              · rw [hb]
                replace ho1051 := itF hb ho1051
                refine gq (v := .pointer (some ⟨b601, 1, none⟩)) (Q_fld Tryd.underlying29 rfl ty23 (by decide) rfl rfl) rfl rfl rfl <| gq (v := v4) (Q_ldB (k := 1) (cs := [v4]) H.ok rfl ty23 rfl rfl rfl (fun _ => rfl) rfl) rfl rfl rfl <| gq (Q_move rfl) rfl rfl rfl ?_
                obtain ⟨x1059, hx1059, ho1051⟩ := bnd ho1051
                obtain ⟨b1060, o1061, c1062, hc1063, ha1064, hi1065⟩ := idxR r6 hx1059
                refine gq (Q_idx hi1065 Tryd.underlying23 ty3 rfl rfl) rfl rfl rfl <| gq (v := .int .i64 x1059) (Q_ld (show cellsAt _ _ _ [.int .i64 x1059] from (show _ = [_] from hc1063) ▸ (ha1064.up H.ok.view)) ty3 rfl (fun _ => rfl) rfl rfl) rfl rfl rfl <| gq (Q_gtr rfl rfl) rfl rfl rfl <| nq (Q_pickF rfl rfl) rfl rfl <| WL_nil ?_
                replace H := H.front 1 rfl
                dsimp only [List.eraseIdx] at H
                obtain rfl := Option.some.inj ho1051
                refine x_A fun a hf => ⟨decide (x1059 > 47), rfl, hf.sub ⟨rfl, rfl, rfl, rfl, rfl, rfl, rfl, rfl, trivial⟩, H⟩
            · rintro a wd1066 ⟨x1050, rfl, hf, H⟩
              try dsimp only at hB1023
              refine CW.at hf ?_
              refine C_cond rfl (fun hb => ?_) (fun hb => ?_)
              · replace hB1023 := itT hb hB1023
                refine C_seq <| R_nd <| nq (Q_assign rfl) rfl rfl <| WL_nil <| x_then <| C_ret <| x_then_ret <| x_block_ret <| x_then_ret <| x_then_ret <| x_block_ret <| x_then_ret <| x_then_ret ?_
                replace H := H.drop 0 rfl
                dsimp only [List.eraseIdx] at H
                replace H := H.drop 0 rfl
                dsimp only [List.eraseIdx] at H
                obtain rfl := Option.some.inj hB1023
                obtain rfl := hO1024 _ rfl
                obtain rfl := Option.some.inj (show some _ = some _ from hF)
                exact fn_ret (l := [.tmp 2]) (vs := [.bool false]) rfl rfl rfl ⟨false, rfl, rfl, H⟩
              · replace hB1023 := itF hb hB1023
                refine C_skip <| x_then <| C_seq <| R_nd <| nq (Q_ldW (k := 1) H.ok rfl ty57 rfl (arr_clen hc1030.2 hc1030.1)) rfl rfl <| nq (Q_move rfl) rfl rfl <| WL_nil <| x_then ?_
                obtain ⟨o1086, ho1086, hB1023⟩ := bnd hB1023
                refine C_cutQ (fun a w' => .inl () = o1086 ∧ Fr 101 a [(1, .pointer (some ⟨b601, 0, none⟩)), (3, .int .i64 (x2.length : Int)), (39, v1), (40, .int .i64 (x2.length : Int)), (41, .int .i64 x939)] ∧ Hp C w' ρ (Box b601 [v1, v4, v7] :: hs)) ?_ ?_
                · refine C_block ?_
                  replace H := H.drop 1 rfl
                  dsimp only [List.eraseIdx] at H
                  refine C_iter (f := fun s => F_dofferref17_Right_l1 N x2 x939 x1026 s) ho1086 (fun s a w' => ∃ (x1092 : Int), x1092 = s ∧ Fr 101 a [(1, .pointer (some ⟨b601, 0, none⟩)), (3, .int .i64 (x2.length : Int)), (4, .int .i64 x939), (39, v1), (40, .int .i64 (x2.length : Int)), (41, .int .i64 x939), (60, .agg c1029.toArray), (61, .int .i64 x1092)] ∧ Hp C w' ρ (Box b601 [v1, v4, v7] :: hs)) ?_ ?_
                  · exact fun a hf => ⟨0, rfl, hf.sub ⟨rfl, rfl, rfl, rfl, rfl, rfl, rfl, rfl, trivial⟩, H⟩
                  · rintro s o1098 a wd1101 ⟨x1092, rfl, hf, H⟩ hB1099 hO1100
                    replace hB1099 : F_dofferref17_Right_l1 N x2 x939 x1026 x1092 = some o1098 := hB1099
                    unfold F_dofferref17_Right_l1 at hB1099
                    refine CW.at hf <| C_seq <| R_nd <| nq (Q_lss rfl rfl) rfl rfl <| WL_nil <| x_then <| C_seq ?_
                    refine C_cond rfl (fun hb => ?_) (fun hb => ?_)
                    · replace hB1099 := itT hb hB1099
                      refine C_skip <| x_then <| C_seq <| C_block <| C_seq <| R_nd ?_
                      obtain ⟨x1102, hx1102, hB1099⟩ := bnd hB1099
                      refine nq (Q_ixI hc1030.2 hc1030.1 hx1102 Tryd.underlying57 rfl rfl ty3 rfl) rfl rfl <| nq (Q_assign rfl) rfl rfl <| WL_nil <| x_then ?_
                      obtain ⟨o1104, ho1104, hB1099⟩ := bnd hB1099
                      refine C_cut (fun a w' => ∃ (x1103 : Bool), x1103 = o1104 ∧ Fr 101 a [(1, .pointer (some ⟨b601, 0, none⟩)), (3, .int .i64 (x2.length : Int)), (4, .int .i64 x939), (39, v1), (40, .int .i64 (x2.length : Int)), (41, .int .i64 x939), (60, .agg c1029.toArray), (61, .int .i64 x1092), (78, .bool x1103)] ∧ Hp C w' ρ (Box b601 [v1, v4, v7] :: hs)) ?_ ?_
                      · refine R_nd <| nq (Q_move rfl) rfl rfl <| nq (Q_lss rfl rfl) rfl rfl <| nq (Q_move rfl) rfl rfl ?_
                        rcases Bool.eq_false_or_eq_true (decide (x1102 < 0)) with hb | hb
                        · rw [hb]
                          replace ho1104 := itT hb ho1104
                          refine gs rfl rfl rfl rfl <| gs rfl rfl rfl rfl <| gs rfl rfl rfl rfl <| nq (Q_pickT rfl rfl) rfl rfl <| nq (Q_move rfl) rfl rfl <| gs rfl rfl rfl rfl <| gs rfl rfl rfl rfl <| gs rfl rfl rfl rfl <| gsu rfl ⟨_, _, rfl, rfl, rfl⟩ rfl <| gsu rfl ⟨_, _, rfl, rfl, rfl⟩ rfl <| gs rfl rfl rfl rfl <| nq (Q_pickT rfl rfl) rfl rfl <| WL_nil ?_
                          obtain rfl := Option.some.inj ho1104
                          refine x_A fun a hf => ⟨true, rfl, hf.sub ⟨rfl, rfl, rfl, rfl, rfl, rfl, rfl, rfl, rfl, trivial⟩, H⟩
                        · rw [hb]
                          replace ho1104 := itF hb ho1104
                          refine gq (Q_move rfl) rfl rfl rfl <| gq (Q_move rfl) rfl rfl rfl <| gq (Q_geq rfl rfl) rfl rfl rfl <| nq (Q_pickF rfl rfl) rfl rfl <| nq (Q_move rfl) rfl rfl ?_
                          rcases Bool.eq_false_or_eq_true (decide (x1102 ≥ (x2.length : Int))) with hb | hb
                          · rw [hb]
                            replace ho1104 := itT hb ho1104
                            refine gs rfl rfl rfl rfl <| gs rfl rfl rfl rfl <| gs rfl rfl rfl rfl <| gsu rfl ⟨_, _, rfl, rfl, rfl⟩ rfl <| gsu rfl ⟨_, _, rfl, rfl, rfl⟩ rfl <| gs rfl rfl rfl rfl <| nq (Q_pickT rfl rfl) rfl rfl <| WL_nil ?_
                            obtain rfl := Option.some.inj ho1104
                            refine x_A fun a hf => ⟨true, rfl, hf.sub ⟨rfl, rfl, rfl, rfl, rfl, rfl, rfl, rfl, rfl, trivial⟩, H⟩
                          · rw [hb]
                            replace ho1104 := itF hb ho1104
                            refine gq (Q_move rfl) rfl rfl rfl <| gq (Q_eql rfl rfl) rfl rfl rfl <| gq (Q_move rfl) rfl rfl rfl ?_
                            rcases Bool.eq_false_or_eq_true (x939 == 0) with hb | hb
                            · rw [hb]
                              replace ho1104 := itT hb ho1104
                              refine gq (Q_move rfl) rfl rfl rfl <| gq (Q_neq rfl rfl) rfl rfl rfl <| gq (Q_pickT rfl rfl) rfl rfl rfl <| nq (Q_pickF rfl rfl) rfl rfl <| WL_nil ?_
                              obtain rfl := Option.some.inj ho1104
                              refine x_A fun a hf => ⟨x1102 != 0, rfl, hf.sub ⟨rfl, rfl, rfl, rfl, rfl, rfl, rfl, rfl, rfl, trivial⟩, H⟩
                            · rw [hb]
                              replace ho1104 := itF hb ho1104
                              refine gs rfl rfl rfl rfl <| gs rfl rfl rfl rfl <| gq (Q_pickF rfl rfl) rfl rfl rfl <| nq (Q_pickF rfl rfl) rfl rfl <| WL_nil ?_
                              obtain rfl := Option.some.inj ho1104
                              refine x_A fun a hf => ⟨false, rfl, hf.sub ⟨rfl, rfl, rfl, rfl, rfl, rfl, rfl, rfl, rfl, trivial⟩, H⟩
                      · rintro a wd1105 ⟨x1103, rfl, hf, H⟩
                        try dsimp only at hB1099
                        refine CW.at hf ?_
                        refine C_cond rfl (fun hb => ?_) (fun hb => ?_)
                        · replace hB1099 := itT hb hB1099
                          refine C_seq <| R_nd <| nq (Q_assign rfl) rfl rfl <| WL_nil <| x_then <| C_ret <| x_block_ret <| x_then_ret <| x_then_ret <| x_block_ret <| x_then_ret <| x_block_ret <| x_then_ret <| x_then_ret ?_
                          refine x_block_ret <| x_then_ret <| x_then_ret ?_
                          replace H := H.drop 0 rfl
                          dsimp only [List.eraseIdx] at H
                          obtain rfl := Option.some.inj hB1099
                          obtain rfl := hO1100 _ rfl
                          obtain rfl := Option.some.inj (show some _ = some _ from hB1023)
                          obtain rfl := hO1024 _ rfl
                          obtain rfl := Option.some.inj (show some _ = some _ from hF)
                          exact fn_ret (l := [.tmp 2]) (vs := [.bool false]) rfl rfl rfl ⟨false, rfl, rfl, H⟩
                        · replace hB1099 := itF hb hB1099
                          refine C_skip <| x_block <| x_then <| R_nd <| nq (Q_add rfl rfl) rfl rfl <| nq (Q_move rfl) rfl rfl <| WL_nil ?_
                          obtain rfl := Option.some.inj hB1099
                          refine x_A fun a hf => ⟨_, rfl, w64 (x1092 + 1), rfl, hf.sub ⟨rfl, rfl, rfl, rfl, rfl, rfl, rfl, rfl, trivial⟩, H⟩
                    · replace hB1099 := itF hb hB1099
                      refine C_exit <| x_then_exit <| x_then_exit <| x_block_exit ?_
                      obtain rfl := Option.some.inj hB1099
                      obtain rfl := hO1100 _ rfl
                      refine x_A fun a hf => ⟨rfl, hf.sub ⟨rfl, rfl, rfl, rfl, rfl, trivial⟩, H⟩
                · rintro a wd1106 ⟨rfl, hf, H⟩
                  try dsimp only at hB1023
                  refine XX.at hf <| x_block <| x_then <| R_nd <| nq (Q_add rfl rfl) rfl rfl <| nq (Q_move rfl) rfl rfl <| WL_nil ?_
                  obtain rfl := Option.some.inj hB1023
                  refine x_A fun a hf => ⟨_, rfl, w64 (x939 + 1), rfl, hf.sub ⟨rfl, rfl, rfl, rfl, rfl, trivial⟩, H⟩
          · replace hB1023 := itF hb hB1023
            refine C_exit <| x_then_exit <| x_then_exit <| x_block_exit ?_
            obtain rfl := Option.some.inj hB1023
            obtain rfl := hO1024 _ rfl
            refine x_A fun a hf => ⟨rfl, hf.sub ⟨rfl, rfl, trivial⟩, H⟩
      · rintro a wd1107 ⟨rfl, hf, H⟩
        try dsimp only at hF
        refine XX.at hf <| x_then <| C_seq <| C_seq <| R_nd <| nq (v := .pointer (some ⟨b601, 2, none⟩)) (Q_fld Tryd.underlying29 rfl ty23 (by decide) rfl rfl) rfl rfl <| nq (v := v7) (Q_ldB (k := 0) (cs := [v7]) H.ok rfl ty23 rfl rfl rfl (fun _ => rfl) rfl) rfl rfl <| nq (Q_len Tryd.underlying23 rfl r9) rfl rfl <| nq (Q_move rfl) rfl rfl <| WL_nil <| x_then ?_
        obtain ⟨o1145, ho1145, hF⟩ := bnd hF
        refine C_cutQ (fun a w' => .inl () = o1145 ∧ Fr 101 a [(1, .pointer (some ⟨b601, 0, none⟩))] ∧ Hp C w' ρ (Box b601 [v1, v4, v7] :: hs)) ?_ ?_
        · refine C_block ?_
          refine C_iter (f := fun s => F_dofferref17_Right_l2 N x2 x8 s) ho1145 (fun s a w' => ∃ (x1157 : Int), x1157 = s ∧ Fr 101 a [(1, .pointer (some ⟨b601, 0, none⟩)), (3, .int .i64 (x2.length : Int)), (82, v7), (83, .int .i64 (x8.length : Int)), (84, .int .i64 x1157)] ∧ Hp C w' ρ (Box b601 [v1, v4, v7] :: hs)) ?_ ?_
          · exact fun a hf => ⟨0, rfl, hf.sub ⟨rfl, rfl, rfl, rfl, rfl, trivial⟩, H⟩
          · rintro s o1169 a wd1172 ⟨x1157, rfl, hf, H⟩ hB1170 hO1171
            replace hB1170 : F_dofferref17_Right_l2 N x2 x8 x1157 = some o1169 := hB1170
            unfold F_dofferref17_Right_l2 at hB1170
            refine CW.at hf <| C_seq <| R_nd <| nq (Q_lss rfl rfl) rfl rfl <| WL_nil <| x_then <| C_seq ?_
            refine C_cond rfl (fun hb => ?_) (fun hb => ?_)
            · replace hB1170 := itT hb hB1170
              refine C_skip <| x_then <| C_seq <| C_block <| C_seq <| R_nd ?_
              obtain ⟨x1173, hx1173, hB1170⟩ := bnd hB1170
              obtain ⟨b1174, o1175, c1176, hc1177, ha1178, hi1179⟩ := idxR r9 hx1173
              refine nq (Q_idx hi1179 Tryd.underlying23 ty3 rfl rfl) rfl rfl <| nq (v := .int .i64 x1173) (Q_ld (show cellsAt _ _ _ [.int .i64 x1173] from (show _ = [_] from hc1177) ▸ (ha1178.up H.ok.view)) ty3 rfl (fun _ => rfl) rfl rfl) rfl rfl <| nq (Q_assign rfl) rfl rfl <| WL_nil <| x_then ?_
              obtain ⟨o1181, ho1181, hB1170⟩ := bnd hB1170
              refine C_cut (fun a w' => ∃ (x1180 : Bool), x1180 = o1181 ∧ Fr 101 a [(1, .pointer (some ⟨b601, 0, none⟩)), (3, .int .i64 (x2.length : Int)), (82, v7), (83, .int .i64 (x8.length : Int)), (84, .int .i64 x1157), (94, .bool x1180)] ∧ Hp C w' ρ (Box b601 [v1, v4, v7] :: hs)) ?_ ?_
              · refine R_nd <| nq (Q_move rfl) rfl rfl <| nq (Q_lss rfl rfl) rfl rfl <| nq (Q_move rfl) rfl rfl ?_
                rcases Bool.eq_false_or_eq_true (decide (x1173 < 0)) with hb | hb
                · rw [hb]
                  replace ho1181 := itT hb ho1181
                  refine gs rfl rfl rfl rfl <| gs rfl rfl rfl rfl <| gs rfl rfl rfl rfl <| nq (Q_pickT rfl rfl) rfl rfl <| WL_nil ?_
                  obtain rfl := Option.some.inj ho1181
                  refine x_A fun a hf => ⟨true, rfl, hf.sub ⟨rfl, rfl, rfl, rfl, rfl, rfl, trivial⟩, H⟩
                · rw [hb]
                  replace ho1181 := itF hb ho1181
                  refine gq (Q_move rfl) rfl rfl rfl <| gq (Q_move rfl) rfl rfl rfl <| gq (Q_geq rfl rfl) rfl rfl rfl <| nq (Q_pickF rfl rfl) rfl rfl <| WL_nil ?_
                  obtain rfl := Option.some.inj ho1181
                  refine x_A fun a hf => ⟨decide (x1173 ≥ (x2.length : Int)), rfl, hf.sub ⟨rfl, rfl, rfl, rfl, rfl, rfl, trivial⟩, H⟩
              · rintro a wd1182 ⟨x1180, rfl, hf, H⟩
                try dsimp only at hB1170
                refine CW.at hf ?_
                refine C_cond rfl (fun hb => ?_) (fun hb => ?_)
                · replace hB1170 := itT hb hB1170
                  refine C_seq <| R_nd <| nq (Q_assign rfl) rfl rfl <| WL_nil <| x_then <| C_ret <| x_block_ret <| x_then_ret <| x_then_ret <| x_block_ret <| x_then_ret <| x_then_ret ?_
                  replace H := H.drop 0 rfl
                  dsimp only [List.eraseIdx] at H
                  obtain rfl := Option.some.inj hB1170
                  obtain rfl := hO1171 _ rfl
                  obtain rfl := Option.some.inj (show some _ = some _ from hF)
                  exact fn_ret (l := [.tmp 2]) (vs := [.bool false]) rfl rfl rfl ⟨false, rfl, rfl, H⟩
                · replace hB1170 := itF hb hB1170
                  refine C_skip <| x_block <| x_then <| R_nd <| nq (Q_add rfl rfl) rfl rfl <| nq (Q_move rfl) rfl rfl <| WL_nil ?_
                  obtain rfl := Option.some.inj hB1170
                  refine x_A fun a hf => ⟨_, rfl, w64 (x1157 + 1), rfl, hf.sub ⟨rfl, rfl, rfl, rfl, rfl, trivial⟩, H⟩
            · replace hB1170 := itF hb hB1170
              refine C_exit <| x_then_exit <| x_then_exit <| x_block_exit ?_
              obtain rfl := Option.some.inj hB1170
              obtain rfl := hO1171 _ rfl
              refine x_A fun a hf => ⟨rfl, hf.sub ⟨rfl, trivial⟩, H⟩
        · rintro a wd1183 ⟨rfl, hf, H⟩
          try dsimp only at hF
          refine XX.at hf <| x_then <| C_seq <| R_nd <| nq (v := .pointer (some ⟨b601, 1, none⟩)) (Q_fld Tryd.underlying29 rfl ty23 (by decide) rfl rfl) rfl rfl <| nq (v := v4) (Q_ldB (k := 0) (cs := [v4]) H.ok rfl ty23 rfl rfl rfl (fun _ => rfl) rfl) rfl rfl ?_
          obtain ⟨x1184, hx1184, hF⟩ := bnd hF
          obtain ⟨b1185, o1186, c1187, hc1188, ha1189, hi1190⟩ := idxR r6 hx1184
          refine nq (Q_idx hi1190 Tryd.underlying23 ty3 rfl rfl) rfl rfl <| nq (v := .int .i64 x1184) (Q_ld (show cellsAt _ _ _ [.int .i64 x1184] from (show _ = [_] from hc1188) ▸ (ha1189.up H.ok.view)) ty3 rfl (fun _ => rfl) rfl rfl) rfl rfl <| nq (Q_eql rfl rfl) rfl rfl <| nq (Q_assign rfl) rfl rfl <| WL_nil <| x_then <| C_ret ?_
          replace H := H.drop 0 rfl
          dsimp only [List.eraseIdx] at H
          obtain rfl := Option.some.inj hF
          exact fn_ret (l := [.tmp 2]) (vs := [.bool (x1184 == (-1))]) rfl rfl rfl ⟨x1184 == (-1), rfl, rfl, H⟩
theorem c_77 {N : Nat} {C : Cx} {w : World} {ρ : View} {hs : List Hl} {b1 : Nat} {c2 : List Value} {v5 : Value} {x3 : (List Int)} {x6 : Int} (H : Hp C w ρ (Box b1 [v5, .int .i64 x6] :: Arr v5 1 c2 :: hs)) (_r4 : rdL (eI .u64) ρ x3 c2) {r : Unit} (hF : F_marks_Marks_own N x3 x6 = some r) :
    Calls Tryd.prog 77 [.pointer (some ⟨b1, 0, none⟩)].toArray w (Rets (fun v w' => (() = r ∧ v5 = v ∧ Hp C w' ρ (Box b1 [v5, .int .i64 x6] :: Arr v5 1 c2 :: hs)))) := by
  unfold F_marks_Marks_own at hF
  have h0 : Tryd.f77.body = some _ := rfl
  refine fn_calls' Tryd.func77 h0 (n := 9) rfl (by simp) <| C_seq <| R_nd <| nq (Q_assign rfl) rfl rfl <| WL_nil <| x_then <| C_seq <| C_seq <| R_nd <| nq (Q_move rfl) rfl rfl <| nq (v := .bool false) (Q_eqlP (o := (some ⟨b1, 0, none⟩)) Tryd.underlying61 rfl) rfl rfl <| WL_nil <| x_then ?_
  refine C_cond rfl (fun h => nomatch h) (fun _ => ?_)
  refine C_skip <| x_then <| C_seq <| R_nd <| nq (Q_move rfl) rfl rfl <| nq (Q_nilP rfl) rfl rfl <| nq (v := .pointer (some ⟨b1, 0, none⟩)) (Q_fld Tryd.underlying94 rfl ty92 (by decide) rfl rfl) rfl rfl <| nq (v := v5) (Q_ldB (k := 0) (cs := [v5]) H.ok rfl ty92 rfl rfl rfl (fun _ => rfl) rfl) rfl rfl <| nq (Q_assign rfl) rfl rfl <| WL_nil <| x_then <| C_ret ?_
  replace H := H.front 1 rfl
  dsimp only [List.eraseIdx] at H
  replace H := H.front 1 rfl
  dsimp only [List.eraseIdx] at H
  obtain rfl := Option.some.inj hF
  exact fn_ret (l := [.tmp 2]) (vs := [v5]) rfl rfl rfl ⟨rfl, rfl, H⟩
theorem c_24 {N : Nat} {C : Cx} {w : World} {ρ : View} {hs : List Hl} {v1 : Value} {v4 : Value} {v7 : Value} {v10 : Value} {v13 : Value} {v16 : Value} {x2 : (List (List Int))} {x5 : (List Int)} {x8 : (List Int)} {x11 : (List (List Int))} {x14 : (List Int)} {x17 : (List Int)} (H : Hp C w ρ (hs)) (r3 : RdSl ρ (eA 256 (eI .i64)) v1 x2) (r6 : RdSl ρ (eI .i64) v4 x5) (r9 : RdSl ρ (eI .i64) v7 x8) (r12 : RdSl ρ (eA 256 (eI .i64)) v10 x11) (r15 : RdSl ρ (eI .i64) v13 x14) (r18 : RdSl ρ (eI .i64) v16 x17) {r : Bool} (hF : F_dofferref17_Same N x2 x5 x8 x11 x14 x17 = some r) :
    Calls Tryd.prog 24 [.agg #[v1, v4, v7], .agg #[v10, v13, v16]].toArray w (Rets (fun v w' => (∃ (x142 : Bool), x142 = r ∧ .bool x142 = v ∧ Hp C w' ρ (hs)))) := by
  unfold F_dofferref17_Same at hF
  have h0 : Tryd.f24.body = some _ := rfl
  refine fn_calls' Tryd.func24 h0 (n := 47) rfl (by simp) <| C_seq <| R_nd <| ne (E_box H (vs := [v1, v4, v7]) rfl rfl) rfl rfl ?_
  rintro _ wd144 ⟨b143, rfl, H⟩
  refine ne (E_box H (vs := [v10, v13, v16]) rfl rfl) rfl rfl ?_
  rintro _ wd146 ⟨b145, rfl, H⟩
  refine nq (Q_assign rfl) rfl rfl <| WL_nil <| x_then <| C_seq ?_
  obtain ⟨o156, ho156, hF⟩ := bnd hF
  refine C_cut (fun a w' => ∃ (x155 : Bool), x155 = o156 ∧ Fr 47 a [(2, .pointer (some ⟨b143, 0, none⟩)), (3, .pointer (some ⟨b145, 0, none⟩)), (28, .bool x155)] ∧ Hp C w' ρ (Box b143 [v1, v4, v7] :: Box b145 [v10, v13, v16] :: hs)) ?_ ?_
  · refine R_nd <| nq (v := .pointer (some ⟨b143, 0, none⟩)) (Q_fld Tryd.underlying29 rfl ty27 (by decide) rfl rfl) rfl rfl <| nq (v := v1) (Q_ldB (k := 1) (cs := [v1]) H.ok rfl ty27 rfl rfl rfl (fun _ => rfl) rfl) rfl rfl <| nq (Q_len Tryd.underlying27 rfl r3) rfl rfl <| nq (v := .pointer (some ⟨b145, 0, none⟩)) (Q_fld Tryd.underlying29 rfl ty27 (by decide) rfl rfl) rfl rfl <| nq (v := v10) (Q_ldB (k := 0) (cs := [v10]) H.ok rfl ty27 rfl rfl rfl (fun _ => rfl) rfl) rfl rfl <| nq (Q_len Tryd.underlying27 rfl r12) rfl rfl <| nq (Q_neq rfl rfl) rfl rfl <| nq (Q_move rfl) rfl rfl ?_
    rcases Bool.eq_false_or_eq_true ((x2.length : Int) != (x11.length : Int)) with hb | hb
    · rw [hb]
      replace ho156 := itT hb ho156
      refine gs rfl rfl rfl rfl <| gs rfl rfl rfl rfl <| gs rfl rfl rfl rfl <| gs rfl rfl rfl rfl <| gs rfl rfl rfl rfl <| gs rfl rfl rfl rfl <| nq (Q_pickT rfl rfl) rfl rfl <| nq (Q_move rfl) rfl rfl <| gs rfl rfl rfl rfl <| gs rfl rfl rfl rfl <| gs rfl rfl rfl rfl <| gs rfl rfl rfl rfl <| gs rfl rfl rfl rfl <| gs rfl rfl rfl rfl ?_
      refine nq (Q_pickT rfl rfl) rfl rfl <| WL_nil ?_
      replace H := H.front 1 rfl
      dsimp only [List.eraseIdx] at H
      obtain rfl := Option.some.inj ho156
      refine x_A fun a hf => ⟨true, rfl, hf.sub ⟨rfl, rfl, rfl, trivial⟩, H⟩
    · rw [hb]
      replace ho156 := itF hb ho156
      refine gq (v := .pointer (some ⟨b143, 1, none⟩)) (Q_fld Tryd.underlying29 rfl ty23 (by decide) rfl rfl) rfl rfl rfl <| gq (v := v4) (Q_ldB (k := 1) (cs := [v4]) H.ok rfl ty23 rfl rfl rfl (fun _ => rfl) rfl) rfl rfl rfl <| gq (v := .pointer (some ⟨b145, 1, none⟩)) (Q_fld Tryd.underlying29 rfl ty23 (by decide) rfl rfl) rfl rfl rfl <| gq (v := v13) (Q_ldB (k := 0) (cs := [v13]) H.ok rfl ty23 rfl rfl rfl (fun _ => rfl) rfl) rfl rfl rfl ?_
      obtain ⟨q157, hq157, ho156⟩ := bnd ho156
      refine ge (E_call fn22 rfl (c_22 H  r6 r15 hq157)) rfl rfl rfl ?_
      rintro _ wd160 ⟨x159, rfl, rfl, H⟩
      try dsimp only at ho156
      refine gq (Q_not rfl) rfl rfl rfl <| nq (Q_pickF rfl rfl) rfl rfl <| nq (Q_move rfl) rfl rfl ?_
      rcases Bool.eq_false_or_eq_true (!x159) with hb | hb
      · rw [hb]
        replace ho156 := itT hb ho156
        refine gs rfl rfl rfl rfl <| gs rfl rfl rfl rfl <| gs rfl rfl rfl rfl <| gs rfl rfl rfl rfl <| gs rfl rfl rfl rfl <| gs rfl rfl rfl rfl <| nq (Q_pickT rfl rfl) rfl rfl <| WL_nil ?_
        replace H := H.front 1 rfl
        dsimp only [List.eraseIdx] at H
        obtain rfl := Option.some.inj ho156
        refine x_A fun a hf => ⟨true, rfl, hf.sub ⟨rfl, rfl, rfl, trivial⟩, H⟩
      · rw [hb]
        replace ho156 := itF hb ho156
        refine gq (v := .pointer (some ⟨b143, 2, none⟩)) (Q_fld Tryd.underlying29 rfl ty23 (by decide) rfl rfl) rfl rfl rfl <| gq (v := v7) (Q_ldB (k := 1) (cs := [v7]) H.ok rfl ty23 rfl rfl rfl (fun _ => rfl) rfl) rfl rfl rfl <| gq (v := .pointer (some ⟨b145, 2, none⟩)) (Q_fld Tryd.underlying29 rfl ty23 (by decide) rfl rfl) rfl rfl rfl <| gq (v := v16) (Q_ldB (k := 0) (cs := [v16]) H.ok rfl ty23 rfl rfl rfl (fun _ => rfl) rfl) rfl rfl rfl ?_
        obtain ⟨q161, hq161, ho156⟩ := bnd ho156
        refine ge (E_call fn22 rfl (c_22 H  r9 r18 hq161)) rfl rfl rfl ?_
        rintro _ wd164 ⟨x163, rfl, rfl, H⟩
        try dsimp only at ho156
        refine gq (Q_not rfl) rfl rfl rfl <| nq (Q_pickF rfl rfl) rfl rfl <| WL_nil ?_
        replace H := H.front 1 rfl
        dsimp only [List.eraseIdx] at H
        obtain rfl := Option.some.inj ho156
        refine x_A fun a hf => ⟨!x163, rfl, hf.sub ⟨rfl, rfl, rfl, trivial⟩, H⟩
  · rintro a wd165 ⟨x155, rfl, hf, H⟩
    try dsimp only at hF
    refine CW.at hf ?_
    refine C_cond rfl (fun hb => ?_) (fun hb => ?_)
    · replace hF := itT hb hF
      refine C_seq <| R_nd <| nq (Q_assign rfl) rfl rfl <| WL_nil <| x_then <| C_ret <| x_then_ret ?_
      replace H := H.drop 0 rfl
      dsimp only [List.eraseIdx] at H
      replace H := H.drop 0 rfl
      dsimp only [List.eraseIdx] at H
      obtain rfl := Option.some.inj hF
      exact fn_ret (l := [.tmp 4]) (vs := [.bool false]) rfl rfl rfl ⟨false, rfl, rfl, H⟩
    · replace hF := itF hb hF
      refine C_skip <| x_then <| C_seq <| C_seq <| R_nd <| nq (v := .pointer (some ⟨b143, 0, none⟩)) (Q_fld Tryd.underlying29 rfl ty27 (by decide) rfl rfl) rfl rfl <| nq (v := v1) (Q_ldB (k := 0) (cs := [v1]) H.ok rfl ty27 rfl rfl rfl (fun _ => rfl) rfl) rfl rfl <| nq (Q_len Tryd.underlying27 rfl r3) rfl rfl <| nq (Q_move rfl) rfl rfl <| WL_nil <| x_then ?_
      obtain ⟨o215, ho215, hF⟩ := bnd hF
      refine C_cutQ (fun a w' => .inl () = o215 ∧ Fr 47 a [] ∧ Hp C w' ρ (hs)) ?_ ?_
      · refine C_block ?_
        replace H := H.front 1 rfl
        dsimp only [List.eraseIdx] at H
        replace H := H.front 1 rfl
        dsimp only [List.eraseIdx] at H
        refine C_iter (f := fun s => F_dofferref17_Same_l0 N x2 x11 s) ho215 (fun s a w' => ∃ (x231 : Int), x231 = s ∧ Fr 47 a [(2, .pointer (some ⟨b143, 0, none⟩)), (3, .pointer (some ⟨b145, 0, none⟩)), (31, .int .i64 (x2.length : Int)), (32, .int .i64 x231)] ∧ Hp C w' ρ (Box b143 [v1, v4, v7] :: Box b145 [v10, v13, v16] :: hs)) ?_ ?_
        · exact fun a hf => ⟨0, rfl, hf.sub ⟨rfl, rfl, rfl, rfl, trivial⟩, H⟩
        · rintro s o247 a wd250 ⟨x231, rfl, hf, H⟩ hB248 hO249
          replace hB248 : F_dofferref17_Same_l0 N x2 x11 x231 = some o247 := hB248
          unfold F_dofferref17_Same_l0 at hB248
          refine CW.at hf <| C_seq <| R_nd <| nq (Q_lss rfl rfl) rfl rfl <| WL_nil <| x_then <| C_seq ?_
          refine C_cond rfl (fun hb => ?_) (fun hb => ?_)
          · replace hB248 := itT hb hB248
            refine C_skip <| x_then <| C_seq <| C_block <| C_seq <| R_nd <| nq (Q_move rfl) rfl rfl <| nq (Q_assign rfl) rfl rfl <| WL_nil <| x_then <| C_seq <| R_dr (.take 0 (.take 1 (.take 2 (.take 3 (.take 4 (.take 5 (.take 6 (.take 7 (.take 8 (.take 9 (.take 10 .done))))))))))) (fun w' => Ok w' ρ [Box b143 [v1, v4, v7], Box b145 [v10, v13, v16]]) (by kernel_rfl) (by kernel_rfl) (by kernel_rfl) (H.drew.okS (by simp)) ?_
            replace H := H.drew
            refine dq (v := .pointer (some ⟨b143, 0, none⟩)) rfl (fun _ _ => Q_fld Tryd.underlying29 rfl ty27 (by decide) rfl rfl) rfl rfl <| dq (v := v1) rfl (fun _ hw => Q_ldB (k := 0) (cs := [v1]) hw rfl ty27 rfl rfl rfl (fun _ => rfl) rfl) rfl rfl <| dq rfl (fun _ _ => Q_move rfl) rfl rfl ?_
            obtain ⟨x251, hx251, hB248⟩ := bnd hB248
            obtain ⟨b252, o253, c254, hc255, ha256, hi257⟩ := idxR r3 hx251
            refine dq rfl (fun _ _ => Q_idx hi257 Tryd.underlying27 ty57 rfl rfl) rfl rfl <| dq (v := .agg c254.toArray) rfl (fun _ hw => Q_ld (ha256.up hw.view) ty57 ((eA 256 (eI .i64)).len hc255) (fun h => nomatch h) rfl rfl) rfl rfl <| dq (v := .pointer (some ⟨b145, 0, none⟩)) rfl (fun _ _ => Q_fld Tryd.underlying29 rfl ty27 (by decide) rfl rfl) rfl rfl <| dq (v := v10) rfl (fun _ hw => Q_ldB (k := 1) (cs := [v10]) hw rfl ty27 rfl rfl rfl (fun _ => rfl) rfl) rfl rfl <| dq rfl (fun _ _ => Q_move rfl) rfl rfl ?_
            obtain ⟨x258, hx258, hB248⟩ := bnd hB248
            obtain ⟨b259, o260, c261, hc262, ha263, hi264⟩ := idxR r12 hx258
            refine dq rfl (fun _ _ => Q_idx hi264 Tryd.underlying27 ty57 rfl rfl) rfl rfl <| dq (v := .agg c261.toArray) rfl (fun _ hw => Q_ld (ha263.up hw.view) ty57 ((eA 256 (eI .i64)).len hc262) (fun h => nomatch h) rfl rfl) rfl rfl <| dq (v := .bool (x251 != x258)) rfl (fun _ _ => Q_neqA Tryd.underlying57 ty3 (by kernel_rfl) Tryd.underlying3 hc255.2 hc255.1 hc262.2 hc262.1 rfl rfl) rfl rfl <| DL_nil <| x_then ?_
            refine C_cond rfl (fun hb => ?_) (fun hb => ?_)
            · replace hB248 := itT hb hB248
              refine C_seq <| R_nd <| nq (Q_assign rfl) rfl rfl <| WL_nil <| x_then <| C_ret <| x_block_ret <| x_then_ret <| x_then_ret <| x_block_ret <| x_then_ret <| x_then_ret ?_
              replace H := H.drop 0 rfl
              dsimp only [List.eraseIdx] at H
              replace H := H.drop 0 rfl
              dsimp only [List.eraseIdx] at H
              obtain rfl := Option.some.inj hB248
              obtain rfl := hO249 _ rfl
              obtain rfl := Option.some.inj (show some _ = some _ from hF)
              exact fn_ret (l := [.tmp 4]) (vs := [.bool false]) rfl rfl rfl ⟨false, rfl, rfl, H⟩
            · replace hB248 := itF hb hB248
              refine C_skip <| x_block <| x_then <| R_nd <| nq (Q_add rfl rfl) rfl rfl <| nq (Q_move rfl) rfl rfl <| WL_nil ?_
              replace H := H.front 1 rfl
              dsimp only [List.eraseIdx] at H
              replace H := H.front 1 rfl
              dsimp only [List.eraseIdx] at H
              obtain rfl := Option.some.inj hB248
              refine x_A fun a hf => ⟨_, rfl, w64 (x231 + 1), rfl, hf.sub ⟨rfl, rfl, rfl, rfl, trivial⟩, H⟩
          · replace hB248 := itF hb hB248
            refine C_exit <| x_then_exit <| x_then_exit <| x_block_exit ?_
            replace H := H.drop 0 rfl
            dsimp only [List.eraseIdx] at H
            replace H := H.drop 0 rfl
            dsimp only [List.eraseIdx] at H
            obtain rfl := Option.some.inj hB248
            obtain rfl := hO249 _ rfl
            refine x_A fun a hf => ⟨rfl, hf.sub trivial, H⟩
      · rintro a wd265 ⟨rfl, hf, H⟩
        try dsimp only at hF
        refine XX.at hf <| x_then <| C_seq <| R_nd <| nq (Q_assign rfl) rfl rfl <| WL_nil <| x_then <| C_ret ?_
        obtain rfl := Option.some.inj hF
        exact fn_ret (l := [.tmp 4]) (vs := [.bool true]) rfl rfl rfl ⟨true, rfl, rfl, H⟩
theorem c_66 {N : Nat} {C : Cx} {w : World} {ρ : View} {hs : List Hl} {v1 : Value} {v4 : Value} {v7 : Value} {v10 : Value} {x2 : (List (List Int))} {x5 : (List Int)} {x8 : (List Int)} {x11 : (List Int)} (H : Hp C w ρ (hs)) {ge0 : Value} (gl0 : GErr ρ 0 ge0) (r3 : RdSl ρ (eA 256 (eI .i64)) v1 x2) (_r6 : RdSl ρ (eI .i64) v4 x5) (_r9 : RdSl ρ (eI .i64) v7 x8) (r12 : RdSl ρ (eI .i64) v10 x11) {r : (Unit ⊕ (List Int))} (hF : F_trim_marked N x2 x5 x8 x11 = some r) :
    Calls Tryd.prog 66 [.agg #[v1, v4, v7], v10].toArray w (Rets (fun v w' => (.inl () = r ∧ .pointer none = v ∧ Hp C w' ρ (hs)) ∨ (∃ (b144 : Nat) (v145 : Value) (c146 : (List Value)) (x147 : (List Int)), .inr x147 = r ∧ .pointer (some ⟨b144, 0, none⟩) = v ∧ rdL (eI .u64) ρ x147 c146 ∧ Hp C w' ρ (Box b144 [v145, .int .i64 (x2.length : Int)] :: Arr v145 1 c146 :: hs)))) := by
  unfold F_trim_marked at hF
  have h0 : Tryd.f66.body = some _ := rfl
  refine fn_calls' Tryd.func66 h0 (n := 29) rfl (by simp) <| C_seq <| R_nd <| ne (E_box H (vs := [v1, v4, v7]) rfl rfl) rfl rfl ?_
  rintro _ wd150 ⟨b149, rfl, H⟩
  refine nq (Q_assign rfl) rfl rfl <| WL_nil <| x_then <| C_seq <| R_nd <| nq (v := .pointer (some ⟨b149, 0, none⟩)) (Q_fld Tryd.underlying25 rfl ty22 (by decide) rfl rfl) rfl rfl <| nq (v := v1) (Q_ldB (k := 0) (cs := [v1]) H.ok rfl ty22 rfl rfl rfl (fun _ => rfl) rfl) rfl rfl <| nq (Q_len Tryd.underlying22 rfl r3) rfl rfl ?_
  obtain ⟨q151, hq151, hF⟩ := bnd hF
  refine ne (E_call fn51 rfl (c_51 H gl0  hq151)) rfl rfl ?_
  rintro _ wd158 (⟨rfl, rfl, H⟩ | ⟨b153, v154, c155, x156, rfl, rfl, r157, H⟩)
  · try dsimp only at hF
    refine nq (Q_move rfl) rfl rfl <| nq (Q_extract rfl rfl) rfl rfl <| nq (Q_extract rfl rfl) rfl rfl <| nq (Q_assign rfl) rfl rfl <| nq (Q_assign rfl) rfl rfl <| WL_nil <| x_then <| C_seq <| C_seq <| R_nd <| nq (Q_move rfl) rfl rfl <| nq (v := .bool true) (Q_neqE Tryd.underlying63 gl0 rfl) rfl rfl <| WL_nil <| x_then ?_
    refine C_cond rfl (fun _ => ?_) (fun h => nomatch h)
    refine C_seq <| R_nd <| nq (Q_assign rfl) rfl rfl <| WL_nil <| x_then <| C_ret <| x_then_ret ?_
    replace H := H.drop 0 rfl
    dsimp only [List.eraseIdx] at H
    obtain rfl := Option.some.inj hF
    exact fn_ret (l := [.tmp 4]) (vs := [.pointer none]) rfl rfl rfl (.inl ⟨rfl, rfl, H⟩)
  · try dsimp only at hF
    refine nq (Q_move rfl) rfl rfl <| nq (Q_extract rfl rfl) rfl rfl <| nq (Q_extract rfl rfl) rfl rfl <| nq (Q_assign rfl) rfl rfl <| nq (Q_assign rfl) rfl rfl <| WL_nil <| x_then <| C_seq <| C_seq <| R_nd <| nq (Q_move rfl) rfl rfl <| nq (v := .bool false) (Q_neqN Tryd.underlying63 rfl) rfl rfl <| WL_nil <| x_then ?_
    refine C_cond rfl (fun h => nomatch h) (fun _ => ?_)
    refine C_skip <| x_then <| C_seq <| C_seq <| R_nd <| nq (Q_move rfl) rfl rfl <| nq (Q_len Tryd.underlying23 rfl r12) rfl rfl <| nq (Q_move rfl) rfl rfl <| WL_nil <| x_then ?_
    obtain ⟨o220, ho220, hF⟩ := bnd hF
    refine C_cutQ (fun a w' => ∃ (c217 : (List Value)) (x218 : (List Int)), x218 = o220 ∧ rdL (eI .u64) ρ x218 c217 ∧ Fr 29 a [(5, .pointer (some ⟨b153, 0, none⟩))] ∧ Hp C w' ρ (Box b153 [v154, .int .i64 (x2.length : Int)] :: Arr v154 1 c217 :: hs)) ?_ ?_
    · refine C_block ?_
      replace H := H.front 1 rfl
      dsimp only [List.eraseIdx] at H
      replace H := H.front 1 rfl
      dsimp only [List.eraseIdx] at H
      replace H := H.drop 2 rfl
      dsimp only [List.eraseIdx] at H
      refine C_iter (f := fun s => F_trim_marked_l0 N x2 x11 s.1 s.2) ho220 (fun s a w' => ∃ (c240 : (List Value)) (x239 : Int) (x241 : (List Int)), (x239, x241) = s ∧ rdL (eI .u64) ρ x241 c240 ∧ Fr 29 a [(5, .pointer (some ⟨b153, 0, none⟩)), (18, v10), (19, .int .i64 (x11.length : Int)), (20, .int .i64 x239)] ∧ Hp C w' ρ (Box b153 [v154, .int .i64 (x2.length : Int)] :: Arr v154 1 c240 :: hs)) ?_ ?_
      · exact fun a hf => ⟨c155, 0, x156, rfl, r157, hf.sub ⟨rfl, rfl, rfl, rfl, trivial⟩, H⟩
      · rintro s o261 a wd264 ⟨c240, x239, x241, rfl, r242, hf, H⟩ hB262 hO263
        replace hB262 : F_trim_marked_l0 N x2 x11 x239 x241 = some o261 := hB262
        unfold F_trim_marked_l0 at hB262
        refine CW.at hf <| C_seq <| R_nd <| nq (Q_lss rfl rfl) rfl rfl <| WL_nil <| x_then <| C_seq ?_
        refine C_cond rfl (fun hb => ?_) (fun hb => ?_)
        · replace hB262 := itT hb hB262
          refine C_skip <| x_then <| C_seq <| C_block <| C_seq <| R_nd ?_
          obtain ⟨x265, hx265, hB262⟩ := bnd hB262
          obtain ⟨b266, o267, c268, hc269, ha270, hi271⟩ := idxR r12 hx265
          refine nq (Q_idx hi271 Tryd.underlying23 ty3 rfl rfl) rfl rfl <| nq (v := .int .i64 x265) (Q_ld (show cellsAt _ _ _ [.int .i64 x265] from (show _ = [_] from hc269) ▸ (ha270.up H.ok.view)) ty3 rfl (fun _ => rfl) rfl rfl) rfl rfl <| nq (Q_assign rfl) rfl rfl <| WL_nil <| x_then <| R_nd <| nq (Q_move rfl) rfl rfl <| nq (Q_move rfl) rfl rfl ?_
          replace H := H.front 1 rfl
          dsimp only [List.eraseIdx] at H
          replace H := H.front 1 rfl
          dsimp only [List.eraseIdx] at H
          obtain ⟨q272, hq272, hB262⟩ := bnd hB262
          refine ne (E_call fn52 rfl (c_52 H  r242 hq272)) rfl rfl ?_
          rintro _ wd278 ⟨c274, x275, x276, rfl, rfl, r277, H⟩
          try dsimp only at hB262
          refine WL_nil <| x_block <| x_then <| R_nd <| nq (Q_add rfl rfl) rfl rfl <| nq (Q_move rfl) rfl rfl <| WL_nil ?_
          replace H := H.front 1 rfl
          dsimp only [List.eraseIdx] at H
          replace H := H.front 1 rfl
          dsimp only [List.eraseIdx] at H
          obtain rfl := Option.some.inj hB262
          refine x_A fun a hf => ⟨_, rfl, c274, w64 (x239 + 1), x275, rfl, r277, hf.sub ⟨rfl, rfl, rfl, rfl, trivial⟩, H⟩
        · replace hB262 := itF hb hB262
          refine C_exit <| x_then_exit <| x_then_exit <| x_block_exit ?_
          replace H := H.front 1 rfl
          dsimp only [List.eraseIdx] at H
          replace H := H.front 1 rfl
          dsimp only [List.eraseIdx] at H
          obtain rfl := Option.some.inj hB262
          obtain rfl := hO263 _ rfl
          refine x_A fun a hf => ⟨c240, x241, rfl, r242, hf.sub ⟨rfl, trivial⟩, H⟩
    · rintro a wd279 ⟨c217, x218, rfl, r219, hf, H⟩
      try dsimp only at hF
      refine XX.at hf <| x_then <| C_seq <| R_nd <| nq (Q_move rfl) rfl rfl <| nq (Q_assign rfl) rfl rfl <| WL_nil <| x_then <| C_ret ?_
      replace H := H.front 1 rfl
      dsimp only [List.eraseIdx] at H
      replace H := H.front 1 rfl
      dsimp only [List.eraseIdx] at H
      obtain rfl := Option.some.inj hF
      exact fn_ret (l := [.tmp 4]) (vs := [.pointer (some ⟨b153, 0, none⟩)]) rfl rfl rfl (.inr ⟨b153, v154, c217, x218, rfl, rfl, r219, H⟩)
theorem c_82 {N : Nat} {C : Cx} {w : World} {ρ : View} {hs : List Hl} {v : Value} {x : (List Int)} (H : Hp C w ρ (hs)) (r3 : RdSl ρ (eI .i64) v x) {r : (List Int)} (hF : F_clone_82 N x = some r) :
    Calls Tryd.prog 82 [v].toArray w (Rets (fun v w' => (∃ (v1 : Value) (c1 : List Value) (x1 : (List Int)), x1 = r ∧ v1 = v ∧ rdL (eI .i64) ρ x1 c1 ∧ Hp C w' ρ (Arr v1 1 c1 :: hs)))) := by
  unfold F_clone_82 at hF
  refine fn_calls' (args := [v]) Tryd.func82 rfl (n := 8) rfl (by simp) ?_
  refine C_seq ?_
  refine R_nd ?_
  refine nq (v := .slice none 0 0) (Q_assign rfl) rfl rfl ?_
  refine WL_nil ?_
  refine x_then ?_
  refine C_seq ?_
  refine C_seq ?_
  refine R_nd ?_
  refine nq (v := v) (Q_move rfl) rfl rfl ?_
  obtain ⟨o, c, news, rfl, hn, hs3⟩ : ∃ o c news, v = .slice o x.length c ∧ rdL (eI .i64) ρ x news ∧ (o = none → x = []) ∧ ∀ h', View.le ρ h' → Src h' v 1 news := by
    rcases r3 with ⟨ad, cap, rfl, rfl⟩ | ⟨b, o, cap, cs, rfl, _, h2, h3⟩
    · exact ⟨ad, cap, [], rfl, rdL.nil, fun _ => rfl, fun _ _ => .inl ⟨ad, cap, rfl, rfl⟩⟩
    · exact ⟨_, cap, cs, rfl, h2, fun h => (nomatch h), fun _ hl => .inr ⟨b, o, _, cap, rfl, h2.len, h3.up hl⟩⟩
  obtain ⟨hs3, hs4⟩ := hs3
  cases o with
  | none =>
    obtain rfl := hs3 rfl
    refine nq (v := .bool true) (Q_eqlS (o := none) Tryd.underlying23 rfl) rfl rfl ?_
    refine WL_nil ?_
    refine x_then ?_
    refine C_cond rfl (fun _ => ?_) (fun h => nomatch h)
    refine C_seq ?_
    refine R_nd ?_
    refine nq (v := .slice none 0 0) (Q_assign rfl) rfl rfl ?_
    refine WL_nil ?_
    refine x_then ?_
    refine C_ret ?_
    refine x_then_ret ?_
    obtain ⟨_, rfl⟩ := app_some hF
    exact fn_ret (l := [.tmp 2]) (vs := [.slice none 0 0]) rfl rfl rfl ⟨_, [], _, rfl, rfl, rdL.nil, H.nilArr 1⟩
  | some a =>
    refine nq (v := .bool false) (Q_eqlS (o := some a) Tryd.underlying23 rfl) rfl rfl ?_
    refine WL_nil ?_
    refine x_then ?_
    refine C_cond rfl (fun h => nomatch h) (fun _ => ?_)
    refine C_skip ?_
    refine x_then ?_
    obtain ⟨ha, rfl⟩ := app_some hF
    refine C_seq ?_
    refine R_nd ?_
    refine ne (E_bslice0 H Tryd.underlying23 ty3) rfl rfl ?_
    rintro _ w1 ⟨b1, rfl, H1⟩
    refine nq (Q_move rfl) rfl rfl ?_
    have hs5 := hs4 _ H1.view
    refine ne (E_append (k := 0) (cs := []) (news := news) H1 rfl Tryd.underlying23 ty3 rfl (by decide) (by decide) rfl rfl hs5 (rdL.one hn) (app_fit rdL.nil hn ha)) rfl rfl ?_
    rintro v2 w2 ⟨H2, _⟩
    refine nq (v := v2) (Q_assign rfl) rfl rfl ?_
    refine WL_nil ?_
    refine x_then ?_
    refine C_ret ?_
    exact fn_ret (l := [.tmp 2]) (vs := [v2]) rfl rfl rfl ⟨v2, _, _, rfl, rfl, rdL.app rdL.nil hn, H2⟩
theorem c_87_1 {N : Nat} {C : Cx} {w : World} {ρ : View} {hs : List Hl} (H : Hp C w ρ (hs)) {r : Unit} (hF : F_marks_Marks_Size_1 N = some r) :
    Calls Tryd.prog 87 [.pointer none].toArray w (Rets (fun v w' => (() = r ∧ .int .i64 0 = v ∧ Hp C w' ρ (hs)))) := by
  unfold F_marks_Marks_Size_1 at hF
  have h0 : Tryd.f87.body = some _ := rfl
  refine fn_calls' Tryd.func87 h0 (n := 9) rfl (by simp) <| C_seq <| R_nd <| nq (Q_assign rfl) rfl rfl <| WL_nil <| x_then <| C_seq <| C_seq <| R_nd <| nq (Q_move rfl) rfl rfl <| nq (v := .bool true) (Q_eqlP (o := none) Tryd.underlying61 rfl) rfl rfl <| WL_nil <| x_then ?_
  refine C_cond rfl (fun _ => ?_) (fun h => nomatch h)
  refine C_seq <| R_nd <| nq (Q_assign rfl) rfl rfl <| WL_nil <| x_then <| C_ret <| x_then_ret ?_
  obtain rfl := Option.some.inj hF
  exact fn_ret (l := [.tmp 2]) (vs := [.int .i64 0]) rfl rfl rfl ⟨rfl, rfl, H⟩
theorem c_76_1 {N : Nat} {C : Cx} {w : World} {ρ : View} {hs : List Hl} {x1 : Int} (H : Hp C w ρ (hs)) {r : (Int × Int × Bool)} (hF : F_marks_Marks_at_1 N x1 = some r) :
    Calls Tryd.prog 76 [.pointer none, .int .i64 x1].toArray w (Rets (fun v w' => (∃ (x15 : Int) (x16 : Int) (x17 : Bool), (x15, x16, x17) = r ∧ .tuple [.int .i64 x15, .int .u64 x16, .bool x17].toArray = v ∧ Hp C w' ρ (hs)))) := by
  unfold F_marks_Marks_at_1 at hF
  have h0 : Tryd.f76.body = some _ := rfl
  refine fn_calls' Tryd.func76 h0 (n := 21) rfl (by simp) <| C_seq <| R_nd <| nq (Q_assign rfl) rfl rfl <| nq (Q_assign rfl) rfl rfl <| nq (Q_assign rfl) rfl rfl <| WL_nil <| x_then ?_
  obtain ⟨o25, ho25, hF⟩ := bnd hF
  refine C_cut (fun a w' => ∃ (x22 : Int) (x23 : Int) (x24 : Bool), (x22, x23, x24) = o25 ∧ Fr 21 a [(4, .int .i64 x22), (5, .int .u64 x23), (6, .bool x24)] ∧ Hp C w' ρ (hs)) ?_ ?_
  · refine R_nd <| nq (Q_move rfl) rfl rfl <| nq (Q_quo rfl rfl (by decide)) rfl rfl <| nq (Q_move rfl) rfl rfl <| nq (Q_cvI ⟨_, Tryd.underlying3⟩ Tryd.underlying59 rfl) rfl rfl <| nq (Q_rem rfl rfl (by decide)) rfl rfl ?_
    obtain ⟨x26, hx26, ho25⟩ := bnd ho25
    refine nq (Q_shl rfl rfl (nn_some hx26)) rfl rfl <| nq (Q_move rfl) rfl rfl <| nq (Q_geq rfl rfl) rfl rfl <| nq (Q_move rfl) rfl rfl ?_
    rcases Bool.eq_false_or_eq_true (decide (x1 ≥ 0)) with hb | hb
    · rw [hb]
      replace ho25 := itT hb ho25
      refine gq (Q_move rfl) rfl rfl rfl <| gq (Q_move rfl) rfl rfl rfl ?_
      obtain ⟨q27, hq27, ho25⟩ := bnd ho25
      refine ge (E_call fn87 rfl (c_87_1 H   hq27)) rfl rfl rfl ?_
      rintro _ wd29 ⟨rfl, rfl, H⟩
      try dsimp only at ho25
      refine gq (Q_lss rfl rfl) rfl rfl rfl <| nq (Q_pickT rfl rfl) rfl rfl <| nq (Q_assign rfl) rfl rfl <| nq (Q_assign rfl) rfl rfl <| nq (Q_assign rfl) rfl rfl <| WL_nil ?_
      obtain rfl := Option.some.inj ho25
      refine x_A fun a hf => ⟨w64 (x1.tdiv 64), shlI .u64 1 ((IntKind.wrap .u64 x1).tmod 64), decide (x1 < 0), rfl, hf.sub ⟨rfl, rfl, rfl, trivial⟩, H⟩
    · rw [hb]
      replace ho25 := itF hb ho25
      refine gs rfl rfl rfl rfl <| gs rfl rfl rfl rfl <| gs rfl rfl rfl rfl <| gs rfl rfl rfl rfl <| nq (Q_pickF rfl rfl) rfl rfl <| nq (Q_assign rfl) rfl rfl <| nq (Q_assign rfl) rfl rfl <| nq (Q_assign rfl) rfl rfl <| WL_nil ?_
      obtain rfl := Option.some.inj ho25
      refine x_A fun a hf => ⟨w64 (x1.tdiv 64), shlI .u64 1 ((IntKind.wrap .u64 x1).tmod 64), false, rfl, hf.sub ⟨rfl, rfl, rfl, trivial⟩, H⟩
  · rintro a wd30 ⟨x22, x23, x24, rfl, hf, H⟩
    try dsimp only at hF
    refine CW.at hf <| C_ret ?_
    obtain rfl := Option.some.inj hF
    exact fn_ret (l := [.tmp 4, .tmp 5, .tmp 6]) (vs := [.int .i64 x22, .int .u64 x23, .bool x24]) rfl rfl rfl ⟨x22, x23, x24, rfl, rfl, H⟩
theorem c_52_1 {N : Nat} {C : Cx} {w : World} {ρ : View} {hs : List Hl} {x1 : Int} (H : Hp C w ρ (hs)) {r : Unit} (hF : F_marks_Marks_Put_1 N x1 = some r) :
    Calls Tryd.prog 52 [.pointer none, .int .i64 x1].toArray w (Rets (fun v w' => (() = r ∧ .bool false = v ∧ Hp C w' ρ (hs)))) := by
  unfold F_marks_Marks_Put_1 at hF
  have h0 : Tryd.f52.body = some _ := rfl
  refine fn_calls' Tryd.func52 h0 (n := 39) rfl (by simp) <| C_seq <| R_nd <| nq (Q_assign rfl) rfl rfl <| WL_nil <| x_then <| C_seq <| R_nd <| nq (Q_move rfl) rfl rfl <| nq (Q_move rfl) rfl rfl ?_
  obtain ⟨q10, hq10, hF⟩ := bnd hF
  refine ne (E_call fn76 rfl (c_76_1 H   hq10)) rfl rfl ?_
  rintro _ wd15 ⟨x12, x13, x14, rfl, rfl, H⟩
  try dsimp only at hF
  refine nq (Q_move rfl) rfl rfl <| nq (Q_extract rfl rfl) rfl rfl <| nq (Q_extract rfl rfl) rfl rfl <| nq (Q_extract rfl rfl) rfl rfl <| nq (Q_assign rfl) rfl rfl <| nq (Q_assign rfl) rfl rfl <| nq (Q_assign rfl) rfl rfl <| WL_nil <| x_then <| C_seq ?_
  obtain ⟨o16, ho16, hF⟩ := bnd hF
  refine C_cut (fun a w' => Fr 39 a [(0, .pointer none), (5, .int .i64 x12), (6, .int .u64 x13), (28, .bool true)] ∧ Hp C w' ρ (hs)) ?_ ?_
  · refine R_nd <| nq (Q_move rfl) rfl rfl <| nq (Q_not rfl) rfl rfl <| nq (Q_move rfl) rfl rfl ?_
    rcases Bool.eq_false_or_eq_true (!x14) with hb | hb
    · rw [hb]
      replace ho16 := itT hb ho16
      refine gs rfl rfl rfl rfl <| gs rfl rfl rfl rfl <| gs rfl rfl rfl rfl <| gs rfl rfl rfl rfl <| gs rfl rfl rfl rfl <| gs rfl rfl rfl rfl <| gs rfl rfl rfl rfl <| gs rfl rfl rfl rfl <| gs rfl rfl rfl rfl <| gs rfl rfl rfl rfl <| nq (Q_pickT rfl rfl) rfl rfl <| WL_nil ?_
      obtain rfl := Option.some.inj ho16
      refine x_A fun a hf => ⟨hf.sub ⟨rfl, rfl, rfl, rfl, trivial⟩, H⟩
    · rw [hb]
      replace ho16 := itF hb ho16
      refine gq (Q_move rfl) rfl rfl rfl ?_
      cases ho16
  · rintro a wd17 ⟨hf, H⟩
    try dsimp only at hF
    refine CW.at hf ?_
    refine C_cond rfl (fun _ => ?_) (fun h => nomatch h)
    refine C_seq <| R_nd <| nq (Q_assign rfl) rfl rfl <| WL_nil <| x_then <| C_ret <| x_then_ret ?_
    obtain rfl := Option.some.inj hF
    exact fn_ret (l := [.tmp 4]) (vs := [.bool false]) rfl rfl rfl ⟨rfl, rfl, H⟩
theorem c_63 {N : Nat} {C : Cx} {w : World} {ρ : View} {hs : List Hl} {v1 : Value} {v4 : Value} {v7 : Value} {x2 : (List (List Int))} {x5 : (List Int)} {x8 : (List Int)} (H : Hp C w ρ (hs)) {ge0 : Value} (gl0 : GErr ρ 0 ge0) (r3 : RdSl ρ (eA 256 (eI .i64)) v1 x2) (r6 : RdSl ρ (eI .i64) v4 x5) (r9 : RdSl ρ (eI .i64) v7 x8) {r : (Unit ⊕ (List Int))} (hF : F_trim_reached N x2 x5 x8 = some r) :
    Calls Tryd.prog 63 [.agg #[v1, v4, v7]].toArray w (Rets (fun v w' => (.inl () = r ∧ .pointer none = v ∧ Hp C w' ρ (hs)) ∨ (∃ (b1151 : Nat) (v1152 : Value) (c1153 : (List Value)) (x1154 : (List Int)), .inr x1154 = r ∧ .pointer (some ⟨b1151, 0, none⟩) = v ∧ rdL (eI .u64) ρ x1154 c1153 ∧ Hp C w' ρ (Box b1151 [v1152, .int .i64 (x2.length : Int)] :: Arr v1152 1 c1153 :: hs)))) := by
  unfold F_trim_reached at hF
  have h0 : Tryd.f63.body = some _ := rfl
  refine fn_calls' Tryd.func63 h0 (n := 31) rfl (by simp) <| C_seq <| R_nd <| ne (E_box H (vs := [v1, v4, v7]) rfl rfl) rfl rfl ?_
  rintro _ wd1157 ⟨b1156, rfl, H⟩
  refine nq (Q_assign rfl) rfl rfl <| WL_nil <| x_then <| C_seq <| R_nd <| nq (v := .agg #[v1, v4, v7]) (Q_ldB (k := 0) (cs := [v1, v4, v7]) H.ok rfl ty25 rfl rfl rfl (fun h => nomatch h) rfl) rfl rfl <| ne (E_bslice (xs := [.const (.int .i64 0)]) (vs := [.int .i64 0]) H Tryd.underlying23 ty3 (by decide) (cs := [.int .i64 0]) rfl (sz_cons rfl sz_nil) rfl (by simp) (by simp) rfl rfl) rfl rfl ?_
  rintro _ wd1159 ⟨b1158, rfl, H⟩
  obtain ⟨q1160, hq1160, hF⟩ := bnd hF
  obtain ⟨C', ρ', hl1161, HA, hL, hback⟩ := Hp.lend (A := []) (L := [Arr (.slice (some ⟨b1158, 0, none⟩) 1 1) 1 ([.int .i64 0])]) (F := Box b1156 [v1, v4, v7] :: hs) H
  refine ne (E_call fn66 rfl (c_66 HA (gl0.up hl1161) (r3.up hl1161) (r6.up hl1161) (r9.up hl1161) (arr_rd (by decide) hl1161 (hL (Arr (.slice (some ⟨b1158, 0, none⟩) 1 1) 1 ([.int .i64 0])) (by simp)) (show rdL (eI .i64) ρ ([0]) ([.int .i64 0]) from ⟨([.int .i64 0]), _, rfl, rfl, rdL.nil⟩)) hq1160)) rfl rfl ?_
  rintro _ wd1167 (⟨rfl, rfl, H⟩ | ⟨b1162, v1163, c1164, x1165, rfl, rfl, r1166, H⟩)
  · try dsimp only at hF
    replace H := hback H
    dsimp only [List.cons_append, List.nil_append] at H
    refine nq (Q_assign rfl) rfl rfl <| WL_nil <| x_then <| C_seq <| R_nd <| nq (v := .pointer (some ⟨b1156, 2, none⟩)) (Q_fld Tryd.underlying25 rfl ty23 (by decide) rfl rfl) rfl rfl <| nq (v := v7) (Q_ldB (k := 1) (cs := [v7]) H.ok rfl ty23 rfl rfl rfl (fun _ => rfl) rfl) rfl rfl ?_
    obtain ⟨q1168, hq1168, hF⟩ := bnd hF
    refine ne (E_call fn82 rfl (c_82 H  r9 hq1168)) rfl rfl ?_
    rintro _ wd1174 ⟨v1170, c1171, x1172, rfl, rfl, r1173, H⟩
    try dsimp only at hF
    refine nq (Q_assign rfl) rfl rfl <| WL_nil <| x_then ?_
    obtain ⟨o1323, ho1323, hF⟩ := bnd hF
    refine C_cut (fun a w' => Fr 31 a [(3, .pointer none)] ∧ Hp C w' ρ (hs)) ?_ ?_
    · refine C_block ?_
      replace H := H.front 2 rfl
      dsimp only [List.eraseIdx] at H
      replace H := H.drop 2 rfl
      dsimp only [List.eraseIdx] at H
      refine C_iter (f := fun s => F_trim_reached_l0 N s) ho1323 (fun s a w' => ∃ (v1372 : Value) (c1373 : (List Value)) (x1374 : (List Int)), x1374 = s ∧ rdL (eI .i64) ρ x1374 c1373 ∧ Fr 31 a [(1, .pointer (some ⟨b1156, 0, none⟩)), (3, .pointer none), (4, v1372)] ∧ Hp C w' ρ (Box b1156 [v1, v4, v7] :: Arr v1372 1 c1373 :: hs)) ?_ ?_
      · exact fun a hf => ⟨v1170, c1171, x1172, rfl, r1173, hf.sub ⟨rfl, rfl, rfl, trivial⟩, H⟩
      · rintro s o1424 a wd1427 ⟨v1372, c1373, x1374, rfl, r1375, hf, H⟩ hB1425 hO1426
        replace hB1425 : F_trim_reached_l0 N x1374 = some o1424 := hB1425
        unfold F_trim_reached_l0 at hB1425
        refine CW.at hf <| C_seq <| C_seq <| R_nd <| nq (Q_move rfl) rfl rfl <| nq (Q_lenA (k := 1) H.ok rfl r1375 (by decide) Tryd.underlying23 rfl) rfl rfl <| nq (Q_gtr rfl rfl) rfl rfl <| WL_nil <| x_then ?_
        refine C_cond rfl (fun hb => ?_) (fun hb => ?_)
        · replace hB1425 := itT hb hB1425
          refine C_skip <| x_then ?_
          obtain ⟨o1451, ho1451, hB1425⟩ := bnd hB1425
          refine C_cutQ (fun a w' => ∃ (v1447 : Value) (c1448 : (List Value)) (x1449 : (List Int)), x1449 = o1451 ∧ rdL (eI .i64) ρ x1449 c1448 ∧ Fr 31 a [(1, .pointer (some ⟨b1156, 0, none⟩)), (3, .pointer none), (4, v1447)] ∧ Hp C w' ρ (Box b1156 [v1, v4, v7] :: Arr v1447 1 c1448 :: hs)) ?_ ?_
          · refine C_block <| C_seq <| R_nd <| nq (Q_move rfl) rfl rfl ?_
            obtain ⟨x1452, hx1452, ho1451⟩ := bnd ho1451
            obtain ⟨b1453, o1454, hi1458, hc1456, ha1457⟩ := arr_at (hs := [Arr v1372 1 c1373]) (k := 0) (by decide) (H.okS (by simp)) rfl r1375 hx1452
            refine nq (Q_idx hi1458 Tryd.underlying23 ty3 rfl rfl) rfl rfl <| nq (v := .int .i64 x1452) (Q_ld (show cellsAt _ _ _ [.int .i64 x1452] from (show _ = [_] from hc1456) ▸ (ha1457 _ (Ok.subS (by simp) H.ok))) ty3 rfl (fun _ => rfl) rfl rfl) rfl rfl <| nq (Q_assign rfl) rfl rfl <| WL_nil <| x_then <| C_seq <| R_nd <| nq (Q_move rfl) rfl rfl ?_
            obtain ⟨x1459, hx1459, ho1451⟩ := bnd ho1451
            obtain ⟨v1461, c1464, H, r1462, hq1465⟩ := sliceW (P := Tryd.prog) (en := (eI .i64)) (k := 1) H rfl (by decide) r1375 hx1459
            dsimp only [List.set] at H
            refine nq (v := v1461) (hq1465 _ _ _ _ _ _ _ _ _ _ _ _ _ _ _ Tryd.underlying23 ty3 rfl ⟨_, rfl⟩ rfl) rfl rfl <| nq (Q_assign rfl) rfl rfl <| WL_nil <| x_then <| C_seq <| R_nd <| nq (Q_move rfl) rfl rfl <| nq (Q_move rfl) rfl rfl ?_
            obtain ⟨q1466, hq1466, ho1451⟩ := bnd ho1451
            refine ne (E_call fn52 rfl (c_52_1 H   hq1466)) rfl rfl ?_
            rintro _ wd1468 ⟨rfl, rfl, H⟩
            try dsimp only at ho1451
            refine WL_nil <| x_then ?_
            obtain ⟨o1469, ho1469, ho1451⟩ := bnd ho1451
            refine C_cutQ (fun a w' => Fr 31 a [(1, .pointer (some ⟨b1156, 0, none⟩)), (3, .pointer none), (4, v1461)] ∧ Hp C w' ρ (Box b1156 [v1, v4, v7] :: Arr v1461 1 c1464 :: hs)) ?_ ?_
            · refine C_cond rfl (fun h => nomatch h) (fun _ => ?_)
              refine C_skip ?_
              replace H := H.front 1 rfl
              dsimp only [List.eraseIdx] at H
              replace H := H.front 1 rfl
              dsimp only [List.eraseIdx] at H
              obtain rfl := Option.some.inj ho1469
              refine x_A fun a hf => ⟨hf.sub ⟨rfl, rfl, rfl, trivial⟩, H⟩
            · rintro a wd1470 ⟨hf, H⟩
              try dsimp only at ho1451
              refine XX.at hf <| x_block ?_
              replace H := H.front 1 rfl
              dsimp only [List.eraseIdx] at H
              replace H := H.front 1 rfl
              dsimp only [List.eraseIdx] at H
              obtain rfl := Option.some.inj ho1451
              refine x_A fun a hf => ⟨v1461, c1464, x1459, rfl, r1462, hf.sub ⟨rfl, rfl, rfl, trivial⟩, H⟩
          · rintro a wd1471 ⟨v1447, c1448, x1449, rfl, r1450, hf, H⟩
            try dsimp only at hB1425
            refine XX.at hf ?_
            replace H := H.front 1 rfl
            dsimp only [List.eraseIdx] at H
            replace H := H.front 1 rfl
            dsimp only [List.eraseIdx] at H
            obtain rfl := Option.some.inj hB1425
            refine x_A fun a hf => ⟨_, rfl, v1447, c1448, x1449, rfl, r1450, hf.sub ⟨rfl, rfl, rfl, trivial⟩, H⟩
        · replace hB1425 := itF hb hB1425
          refine C_exit <| x_then_exit <| x_then_exit <| x_block_exit ?_
          replace H := H.drop 0 rfl
          dsimp only [List.eraseIdx] at H
          replace H := H.drop 0 rfl
          dsimp only [List.eraseIdx] at H
          obtain rfl := Option.some.inj hB1425
          obtain rfl := hO1426 _ rfl
          refine x_A fun a hf => ⟨hf.sub ⟨rfl, trivial⟩, H⟩
    · rintro a wd1472 ⟨hf, H⟩
      try dsimp only at hF
      refine CW.at hf <| C_seq <| R_nd <| nq (Q_move rfl) rfl rfl <| nq (Q_assign rfl) rfl rfl <| WL_nil <| x_then <| C_ret ?_
      obtain rfl := Option.some.inj hF
      exact fn_ret (l := [.tmp 2]) (vs := [.pointer none]) rfl rfl rfl (.inl ⟨rfl, rfl, H⟩)
  · try dsimp only at hF
    replace H := hback H
    replace r1166 := rdL.flat (ρ := ρ') (ρ' := ρ) (flat_I _) r1166
    dsimp only [List.cons_append, List.nil_append] at H
    refine nq (Q_assign rfl) rfl rfl <| WL_nil <| x_then <| C_seq <| R_nd <| nq (v := .pointer (some ⟨b1156, 2, none⟩)) (Q_fld Tryd.underlying25 rfl ty23 (by decide) rfl rfl) rfl rfl <| nq (v := v7) (Q_ldB (k := 3) (cs := [v7]) H.ok rfl ty23 rfl rfl rfl (fun _ => rfl) rfl) rfl rfl ?_
    obtain ⟨q1473, hq1473, hF⟩ := bnd hF
    refine ne (E_call fn82 rfl (c_82 H  r9 hq1473)) rfl rfl ?_
    rintro _ wd1479 ⟨v1475, c1476, x1477, rfl, rfl, r1478, H⟩
    try dsimp only at hF
    refine nq (Q_assign rfl) rfl rfl <| WL_nil <| x_then ?_
    obtain ⟨o1889, ho1889, hF⟩ := bnd hF
    refine C_cut (fun a w' => ∃ (c1886 : (List Value)) (x1887 : (List Int)), x1887 = o1889 ∧ rdL (eI .u64) ρ x1887 c1886 ∧ Fr 31 a [(3, .pointer (some ⟨b1162, 0, none⟩))] ∧ Hp C w' ρ (Box b1162 [v1163, .int .i64 (x2.length : Int)] :: Arr v1163 1 c1886 :: hs)) ?_ ?_
    · refine C_block ?_
      replace H := H.front 2 rfl
      dsimp only [List.eraseIdx] at H
      replace H := H.front 2 rfl
      dsimp only [List.eraseIdx] at H
      replace H := H.front 4 rfl
      dsimp only [List.eraseIdx] at H
      replace H := H.drop 4 rfl
      dsimp only [List.eraseIdx] at H
      refine C_iter (f := fun s => F_trim_reached_l1 N x2 s.1 s.2) ho1889 (fun s a w' => ∃ (c2024 : (List Value)) (v2027 : Value) (c2028 : (List Value)) (x2025 : (List Int)) (x2029 : (List Int)), (x2025, x2029) = s ∧ rdL (eI .u64) ρ x2025 c2024 ∧ rdL (eI .i64) ρ x2029 c2028 ∧ Fr 31 a [(1, .pointer (some ⟨b1156, 0, none⟩)), (3, .pointer (some ⟨b1162, 0, none⟩)), (4, v2027)] ∧ Hp C w' ρ (Box b1156 [v1, v4, v7] :: Box b1162 [v1163, .int .i64 (x2.length : Int)] :: Arr v1163 1 c2024 :: Arr v2027 1 c2028 :: hs)) ?_ ?_
      · exact fun a hf => ⟨c1164, v1475, c1476, x1165, x1477, rfl, r1166, r1478, hf.sub ⟨rfl, rfl, rfl, trivial⟩, H⟩
      · rintro s o2165 a wd2168 ⟨c2024, v2027, c2028, x2025, x2029, rfl, r2026, r2030, hf, H⟩ hB2166 hO2167
        replace hB2166 : F_trim_reached_l1 N x2 x2025 x2029 = some o2165 := hB2166
        unfold F_trim_reached_l1 at hB2166
        refine CW.at hf <| C_seq <| C_seq <| R_nd <| nq (Q_move rfl) rfl rfl <| nq (Q_lenA (k := 3) H.ok rfl r2030 (by decide) Tryd.underlying23 rfl) rfl rfl <| nq (Q_gtr rfl rfl) rfl rfl <| WL_nil <| x_then ?_
        refine C_cond rfl (fun hb => ?_) (fun hb => ?_)
        · replace hB2166 := itT hb hB2166
          refine C_skip <| x_then ?_
          obtain ⟨o2235, ho2235, hB2166⟩ := bnd hB2166
          refine C_cutQ (fun a w' => ∃ (c2228 : (List Value)) (v2231 : Value) (c2232 : (List Value)) (x2229 : (List Int)) (x2233 : (List Int)), (x2229, x2233) = o2235 ∧ rdL (eI .u64) ρ x2229 c2228 ∧ rdL (eI .i64) ρ x2233 c2232 ∧ Fr 31 a [(1, .pointer (some ⟨b1156, 0, none⟩)), (3, .pointer (some ⟨b1162, 0, none⟩)), (4, v2231)] ∧ Hp C w' ρ (Box b1156 [v1, v4, v7] :: Box b1162 [v1163, .int .i64 (x2.length : Int)] :: Arr v1163 1 c2228 :: Arr v2231 1 c2232 :: hs)) ?_ ?_
          · refine C_block <| C_seq <| R_nd <| nq (Q_move rfl) rfl rfl ?_
            obtain ⟨x2236, hx2236, ho2235⟩ := bnd ho2235
            obtain ⟨b2237, o2238, hi2242, hc2240, ha2241⟩ := arr_at (hs := [Arr v2027 1 c2028]) (k := 0) (by decide) (H.okS (by simp)) rfl r2030 hx2236
            refine nq (Q_idx hi2242 Tryd.underlying23 ty3 rfl rfl) rfl rfl <| nq (v := .int .i64 x2236) (Q_ld (show cellsAt _ _ _ [.int .i64 x2236] from (show _ = [_] from hc2240) ▸ (ha2241 _ (Ok.subS (by simp) H.ok))) ty3 rfl (fun _ => rfl) rfl rfl) rfl rfl <| nq (Q_assign rfl) rfl rfl <| WL_nil <| x_then <| C_seq <| R_nd <| nq (Q_move rfl) rfl rfl ?_
            obtain ⟨x2243, hx2243, ho2235⟩ := bnd ho2235
            obtain ⟨v2245, c2248, H, r2246, hq2249⟩ := sliceW (P := Tryd.prog) (en := (eI .i64)) (k := 3) H rfl (by decide) r2030 hx2243
            dsimp only [List.set] at H
            refine nq (v := v2245) (hq2249 _ _ _ _ _ _ _ _ _ _ _ _ _ _ _ Tryd.underlying23 ty3 rfl ⟨_, rfl⟩ rfl) rfl rfl <| nq (Q_assign rfl) rfl rfl <| WL_nil <| x_then <| C_seq <| R_nd <| nq (Q_move rfl) rfl rfl <| nq (Q_move rfl) rfl rfl ?_
            replace H := H.front 2 rfl
            dsimp only [List.eraseIdx] at H
            replace H := H.front 2 rfl
            dsimp only [List.eraseIdx] at H
            obtain ⟨q2250, hq2250, ho2235⟩ := bnd ho2235
            refine ne (E_call fn52 rfl (c_52 H  r2026 hq2250)) rfl rfl ?_
            rintro _ wd2256 ⟨c2252, x2253, x2254, rfl, rfl, r2255, H⟩
            try dsimp only at ho2235
            refine WL_nil <| x_then ?_
            obtain ⟨o2277, ho2277, ho2235⟩ := bnd ho2235
            refine C_cutQ (fun a w' => ∃ (v2273 : Value) (c2274 : (List Value)) (x2275 : (List Int)), x2275 = o2277 ∧ rdL (eI .i64) ρ x2275 c2274 ∧ Fr 31 a [(1, .pointer (some ⟨b1156, 0, none⟩)), (3, .pointer (some ⟨b1162, 0, none⟩)), (4, v2273)] ∧ Hp C w' ρ (Box b1156 [v1, v4, v7] :: Box b1162 [v1163, .int .i64 (x2.length : Int)] :: Arr v1163 1 c2252 :: Arr v2273 1 c2274 :: hs)) ?_ ?_
            · refine C_cond rfl (fun hb => ?_) (fun hb => ?_)
              · replace ho2277 := itT hb ho2277
                refine R_nd <| nq (Q_move rfl) rfl rfl <| nq (v := .pointer (some ⟨b1156, 0, none⟩)) (Q_fld Tryd.underlying25 rfl ty22 (by decide) rfl rfl) rfl rfl <| nq (v := v1) (Q_ldB (k := 2) (cs := [v1]) H.ok rfl ty22 rfl rfl rfl (fun _ => rfl) rfl) rfl rfl <| nq (Q_move rfl) rfl rfl ?_
                obtain ⟨x2278, hx2278, ho2277⟩ := bnd ho2277
                obtain ⟨b2279, o2280, c2281, hc2282, ha2283, hi2284⟩ := idxR r3 hx2278
                refine nq (Q_idx hi2284 Tryd.underlying22 ty58 rfl rfl) rfl rfl <| nq (v := (.slice (some ⟨b2279, o2280, none⟩) 256 256)) (Q_slE Tryd.underlying58 ty3 rfl) rfl rfl ?_
                obtain ⟨x2285, hx2285, ho2277⟩ := bnd ho2277
                obtain ⟨ha2286a, ha2286b⟩ := app_some hx2285
                obtain ⟨c2287, r2288, hs2289⟩ := Src.ofRd H.ok (rd_of_arr hc2282 ha2283)
                have r2291 : rdL (eI .i64) ρ x2285 (c2248 ++ c2287) := ha2286b ▸ rdL.app r2246 r2288
                refine ne (E_append (k := 3) H rfl Tryd.underlying23 ty3 rfl (by decide) (by decide) rfl rfl hs2289 (rdL.one r2288) (app_fit r2246 r2288 ha2286a)) rfl rfl ?_
                rintro v2290 wd2293 ⟨H, hc2292⟩
                dsimp only [List.set] at H
                refine nq (Q_assign rfl) rfl rfl <| WL_nil ?_
                replace H := H.front 3 rfl
                dsimp only [List.eraseIdx] at H
                replace H := H.front 2 rfl
                dsimp only [List.eraseIdx] at H
                replace H := H.front 2 rfl
                dsimp only [List.eraseIdx] at H
                replace H := H.front 3 rfl
                dsimp only [List.eraseIdx] at H
                obtain rfl := Option.some.inj ho2277
                refine x_A fun a hf => ⟨v2290, (c2248 ++ c2287), x2285, rfl, r2291, hf.sub ⟨rfl, rfl, rfl, trivial⟩, H⟩
              · replace ho2277 := itF hb ho2277
                refine C_skip ?_
                replace H := H.front 3 rfl
                dsimp only [List.eraseIdx] at H
                replace H := H.front 2 rfl
                dsimp only [List.eraseIdx] at H
                replace H := H.front 2 rfl
                dsimp only [List.eraseIdx] at H
                replace H := H.front 3 rfl
                dsimp only [List.eraseIdx] at H
                obtain rfl := Option.some.inj ho2277
                refine x_A fun a hf => ⟨v2245, c2248, x2243, rfl, r2246, hf.sub ⟨rfl, rfl, rfl, trivial⟩, H⟩
            · rintro a wd2294 ⟨v2273, c2274, x2275, rfl, r2276, hf, H⟩
              try dsimp only at ho2235
              refine XX.at hf <| x_block ?_
              replace H := H.front 3 rfl
              dsimp only [List.eraseIdx] at H
              replace H := H.front 3 rfl
              dsimp only [List.eraseIdx] at H
              replace H := H.front 3 rfl
              dsimp only [List.eraseIdx] at H
              replace H := H.front 3 rfl
              dsimp only [List.eraseIdx] at H
              obtain rfl := Option.some.inj ho2235
              refine x_A fun a hf => ⟨c2252, v2273, c2274, x2253, x2275, rfl, r2255, r2276, hf.sub ⟨rfl, rfl, rfl, trivial⟩, H⟩
          · rintro a wd2295 ⟨c2228, v2231, c2232, x2229, x2233, rfl, r2230, r2234, hf, H⟩
            try dsimp only at hB2166
            refine XX.at hf ?_
            replace H := H.front 3 rfl
            dsimp only [List.eraseIdx] at H
            replace H := H.front 3 rfl
            dsimp only [List.eraseIdx] at H
            replace H := H.front 3 rfl
            dsimp only [List.eraseIdx] at H
            replace H := H.front 3 rfl
            dsimp only [List.eraseIdx] at H
            obtain rfl := Option.some.inj hB2166
            refine x_A fun a hf => ⟨_, rfl, c2228, v2231, c2232, x2229, x2233, rfl, r2230, r2234, hf.sub ⟨rfl, rfl, rfl, trivial⟩, H⟩
        · replace hB2166 := itF hb hB2166
          refine C_exit <| x_then_exit <| x_then_exit <| x_block_exit ?_
          replace H := H.front 2 rfl
          dsimp only [List.eraseIdx] at H
          replace H := H.front 2 rfl
          dsimp only [List.eraseIdx] at H
          replace H := H.drop 2 rfl
          dsimp only [List.eraseIdx] at H
          replace H := H.drop 2 rfl
          dsimp only [List.eraseIdx] at H
          obtain rfl := Option.some.inj hB2166
          obtain rfl := hO2167 _ rfl
          refine x_A fun a hf => ⟨c2024, x2025, rfl, r2026, hf.sub ⟨rfl, trivial⟩, H⟩
    · rintro a wd2296 ⟨c1886, x1887, rfl, r1888, hf, H⟩
      try dsimp only at hF
      refine CW.at hf <| C_seq <| R_nd <| nq (Q_move rfl) rfl rfl <| nq (Q_assign rfl) rfl rfl <| WL_nil <| x_then <| C_ret ?_
      replace H := H.front 1 rfl
      dsimp only [List.eraseIdx] at H
      replace H := H.front 1 rfl
      dsimp only [List.eraseIdx] at H
      obtain rfl := Option.some.inj hF
      exact fn_ret (l := [.tmp 2]) (vs := [.pointer (some ⟨b1162, 0, none⟩)]) rfl rfl rfl (.inr ⟨b1162, v1163, c1886, x1887, rfl, rfl, r1888, H⟩)
theorem c_77_1 {N : Nat} {C : Cx} {w : World} {ρ : View} {hs : List Hl} (H : Hp C w ρ (hs)) {r : Unit} (hF : F_marks_Marks_own_1 N = some r) :
    Calls Tryd.prog 77 [.pointer none].toArray w (Rets (fun v w' => (() = r ∧ (.slice none 0 0) = v ∧ Hp C w' ρ (Arr (.slice none 0 0) 1 ([]) :: hs)))) := by
  unfold F_marks_Marks_own_1 at hF
  have h0 : Tryd.f77.body = some _ := rfl
  refine fn_calls' Tryd.func77 h0 (n := 9) rfl (by simp) <| C_seq <| R_nd <| nq (Q_assign rfl) rfl rfl <| WL_nil <| x_then <| C_seq <| C_seq <| R_nd <| nq (Q_move rfl) rfl rfl <| nq (v := .bool true) (Q_eqlP (o := none) Tryd.underlying61 rfl) rfl rfl <| WL_nil <| x_then ?_
  refine C_cond rfl (fun _ => ?_) (fun h => nomatch h)
  refine C_seq <| R_nd <| nq (Q_assign rfl) rfl rfl <| WL_nil <| x_then <| C_ret <| x_then_ret ?_
  have H := H.nilArr 1
  obtain rfl := Option.some.inj hF
  exact fn_ret (l := [.tmp 2]) (vs := [(.slice none 0 0)]) rfl rfl rfl ⟨rfl, rfl, H⟩
theorem c_83 {N : Nat} {C : Cx} {w : World} {ρ : View} {hs : List Hl} {x1 : Int} (H : Hp C w ρ (hs)) {r : Unit} (hF : F_marks_Marks_After N x1 = some r) :
    Calls Tryd.prog 83 [.pointer none, .int .i64 x1].toArray w (Rets (fun v w' => (() = r ∧ .int .i64 (-1) = v ∧ Hp C w' ρ (hs)))) := by
  unfold F_marks_Marks_After at hF
  have h0 : Tryd.f83.body = some _ := rfl
  refine fn_calls' Tryd.func83 h0 (n := 48) rfl (by simp) <| C_seq <| R_nd <| nq (Q_assign rfl) rfl rfl <| WL_nil <| x_then <| C_seq <| C_seq <| R_nd <| nq (Q_move rfl) rfl rfl <| nq (Q_move rfl) rfl rfl ?_
  obtain ⟨q35, hq35, hF⟩ := bnd hF
  refine ne (E_call fn87 rfl (c_87_1 H   hq35)) rfl rfl ?_
  rintro _ wd37 ⟨rfl, rfl, H⟩
  try dsimp only at hF
  refine nq (Q_geq rfl rfl) rfl rfl <| WL_nil <| x_then ?_
  refine C_cond rfl (fun hb => ?_) (fun hb => ?_)
  · replace hF := itT hb hF
    refine C_seq <| R_nd <| nq (Q_assign rfl) rfl rfl <| WL_nil <| x_then <| C_ret <| x_then_ret ?_
    obtain rfl := Option.some.inj hF
    exact fn_ret (l := [.tmp 4]) (vs := [.int .i64 (-1)]) rfl rfl rfl ⟨rfl, rfl, H⟩
  · replace hF := itF hb hF
    refine C_skip <| x_then <| C_seq <| R_nd <| nq (Q_move rfl) rfl rfl <| nq (v := .int .i64 (imax x1 (-1))) (Q_max rfl rfl) rfl rfl <| nq (Q_add rfl rfl) rfl rfl <| nq (Q_assign rfl) rfl rfl <| WL_nil <| x_then <| C_seq <| C_seq <| R_nd <| nq (Q_move rfl) rfl rfl ?_
    refine nq (Q_quo rfl rfl (by decide)) rfl rfl <| nq (Q_assign rfl) rfl rfl <| WL_nil <| x_then ?_
    obtain ⟨o52, ho52, hF⟩ := bnd hF
    refine C_cutQ (fun a w' => Fr 48 a [] ∧ Hp C w' ρ (hs)) ?_ ?_
    · refine C_block ?_
      refine C_iter (f := fun s => F_marks_Marks_After_l0 N s.1 s.2) ho52 (fun s a w' => ∃ (x53 : Int) (x54 : Int), (x53, x54) = s ∧ Fr 48 a [(0, .pointer none), (1, .int .i64 x53), (5, .int .i64 x54)] ∧ Hp C w' ρ (hs)) ?_ ?_
      · exact fun a hf => ⟨w64 ((imax x1 (-1)) + 1), w64 ((w64 ((imax x1 (-1)) + 1)).tdiv 64), rfl, hf.sub ⟨rfl, rfl, rfl, trivial⟩, H⟩
      · rintro s o60 a wd63 ⟨x53, x54, rfl, hf, H⟩ hB61 hO62
        replace hB61 : F_marks_Marks_After_l0 N x53 x54 = some o60 := hB61
        unfold F_marks_Marks_After_l0 at hB61
        refine CW.at hf <| C_seq <| C_seq <| R_nd <| nq (Q_move rfl) rfl rfl <| nq (Q_move rfl) rfl rfl ?_
        obtain ⟨q64, hq64, hB61⟩ := bnd hB61
        refine ne (E_call fn77 rfl (c_77_1 H   hq64)) rfl rfl ?_
        rintro _ wd66 ⟨rfl, rfl, H⟩
        try dsimp only at hB61
        refine nq (Q_lenA (en := (eI .u64)) (k := 0) H.ok rfl rdL.nil (by decide) Tryd.underlying92 rfl) rfl rfl <| nq (Q_lss rfl rfl) rfl rfl <| WL_nil <| x_then ?_
        refine C_cond rfl (fun hb => ?_) (fun hb => ?_)
        · replace hB61 := itT hb hB61
          refine C_skip <| x_then <| C_seq <| C_block <| C_seq <| R_nd <| nq (Q_move rfl) rfl rfl ?_
          cases hB61
        · replace hB61 := itF hb hB61
          refine C_exit <| x_then_exit <| x_then_exit <| x_block_exit ?_
          replace H := H.drop 0 rfl
          dsimp only [List.eraseIdx] at H
          obtain rfl := Option.some.inj hB61
          obtain rfl := hO62 _ rfl
          refine x_A fun a hf => ⟨hf.sub trivial, H⟩
    · rintro a wd67 ⟨hf, H⟩
      try dsimp only at hF
      refine XX.at hf <| x_then <| C_seq <| R_nd <| nq (Q_assign rfl) rfl rfl <| WL_nil <| x_then <| C_ret ?_
      obtain rfl := Option.some.inj hF
      exact fn_ret (l := [.tmp 4]) (vs := [.int .i64 (-1)]) rfl rfl rfl ⟨rfl, rfl, H⟩
theorem c_64 {N : Nat} {C : Cx} {w : World} {ρ : View} {hs : List Hl} (H : Hp C w ρ (hs)) {r : (List Int)} (hF : F_marks_Marks_List N = some r) :
    Calls Tryd.prog 64 [.pointer none].toArray w (Rets (fun v w' => (∃ (v108 : Value) (c109 : (List Value)) (x110 : (List Int)), x110 = r ∧ v108 = v ∧ rdL (eI .i64) ρ x110 c109 ∧ Hp C w' ρ (Arr v108 1 c109 :: hs)))) := by
  unfold F_marks_Marks_List at hF
  have h0 : Tryd.f64.body = some _ := rfl
  refine fn_calls' Tryd.func64 h0 (n := 17) rfl (by simp) <| C_seq <| R_nd <| nq (Q_assign rfl) rfl rfl <| WL_nil <| x_then <| C_seq <| R_nd <| nq (Q_assign rfl) rfl rfl <| WL_nil <| x_then <| C_seq <| C_seq <| R_nd ?_
  refine nq (Q_move rfl) rfl rfl ?_
  obtain ⟨q112, hq112, hF⟩ := bnd hF
  refine ne (E_call fn83 rfl (c_83 H   hq112)) rfl rfl ?_
  rintro _ wd114 ⟨rfl, rfl, H⟩
  try dsimp only at hF
  refine nq (Q_assign rfl) rfl rfl <| WL_nil <| x_then ?_
  obtain ⟨o168, ho168, hF⟩ := bnd hF
  refine C_cutQ (fun a w' => ∃ (v164 : Value) (c165 : (List Value)) (x166 : (List Int)), x166 = o168 ∧ rdL (eI .i64) ρ x166 c165 ∧ Fr 17 a [(3, v164)] ∧ Hp C w' ρ (Arr v164 1 c165 :: hs)) ?_ ?_
  · refine C_block ?_
    have H := H.nilArr 1
    refine C_iter (f := fun s => F_marks_Marks_List_l0 N s) ho168 (fun s a w' => ∃ (v184 : Value) (c185 : (List Value)) (x186 : (List Int)), x186 = s ∧ rdL (eI .i64) ρ x186 c185 ∧ Fr 17 a [(0, .pointer none), (3, v184), (4, .int .i64 (-1))] ∧ Hp C w' ρ (Arr v184 1 c185 :: hs)) ?_ ?_
    · exact fun a hf => ⟨(.slice none 0 0), [], [], rfl, rdL.nil, hf.sub ⟨rfl, rfl, rfl, trivial⟩, H⟩
    · rintro s o203 a wd206 ⟨v184, c185, x186, rfl, r187, hf, H⟩ hB204 hO205
      replace hB204 : F_marks_Marks_List_l0 N x186 = some o203 := hB204
      unfold F_marks_Marks_List_l0 at hB204
      refine CW.at hf <| C_seq <| C_seq <| R_nd <| nq (Q_move rfl) rfl rfl <| nq (Q_geq rfl rfl) rfl rfl <| WL_nil <| x_then ?_
      refine C_cond rfl (fun hb => ?_) (fun hb => ?_)
      · replace hB204 := itT hb hB204
        refine C_skip <| x_then <| C_seq <| C_block <| R_nd <| nq (Q_move rfl) rfl rfl <| nq (Q_move rfl) rfl rfl <| ne (E_bslice (xs := [.tmp 13]) (vs := [.int .i64 (-1)]) H Tryd.underlying23 ty3 (by decide) (cs := [.int .i64 (-1)]) rfl (sz_cons rfl sz_nil) rfl (by simp) (by simp) rfl rfl) rfl rfl ?_
        rintro _ wd208 ⟨b207, rfl, H⟩
        obtain ⟨x209, hx209, hB204⟩ := bnd hB204
        obtain ⟨ha210a, ha210b⟩ := app_some hx209
        have r212 : rdL (eI .i64) ρ x209 (c185 ++ ([.int .i64 (-1)])) := ha210b ▸ rdL.app r187 (show rdL (eI .i64) ρ ([(-1)]) ([.int .i64 (-1)]) from ⟨([.int .i64 (-1)]), _, rfl, rfl, rdL.nil⟩)
        refine ne (E_append (k := 1) H rfl Tryd.underlying23 ty3 rfl (by decide) (by decide) rfl rfl (Src.ofArr (k := 0) H.ok rfl) (rdL.one (show rdL (eI .i64) ρ ([(-1)]) ([.int .i64 (-1)]) from ⟨([.int .i64 (-1)]), _, rfl, rfl, rdL.nil⟩)) (app_fit r187 (show rdL (eI .i64) ρ ([(-1)]) ([.int .i64 (-1)]) from ⟨([.int .i64 (-1)]), _, rfl, rfl, rdL.nil⟩) ha210a)) rfl rfl ?_
        rintro v211 wd214 ⟨H, hc213⟩
        dsimp only [List.set] at H
        refine nq (Q_assign rfl) rfl rfl <| WL_nil <| x_block <| x_then <| R_nd <| nq (Q_move rfl) rfl rfl <| nq (Q_move rfl) rfl rfl ?_
        obtain ⟨q215, hq215, hB204⟩ := bnd hB204
        refine ne (E_call fn83 rfl (c_83 H   hq215)) rfl rfl ?_
        rintro _ wd217 ⟨rfl, rfl, H⟩
        try dsimp only at hB204
        refine nq (Q_assign rfl) rfl rfl <| WL_nil ?_
        replace H := H.front 1 rfl
        dsimp only [List.eraseIdx] at H
        replace H := H.drop 1 rfl
        dsimp only [List.eraseIdx] at H
        obtain rfl := Option.some.inj hB204
        refine x_A fun a hf => ⟨_, rfl, v211, (c185 ++ ([.int .i64 (-1)])), x209, rfl, r212, hf.sub ⟨rfl, rfl, rfl, trivial⟩, H⟩
      · replace hB204 := itF hb hB204
        refine C_exit <| x_then_exit <| x_then_exit <| x_block_exit ?_
        obtain rfl := Option.some.inj hB204
        obtain rfl := hO205 _ rfl
        refine x_A fun a hf => ⟨v184, c185, x186, rfl, r187, hf.sub ⟨rfl, trivial⟩, H⟩
  · rintro a wd218 ⟨v164, c165, x166, rfl, r167, hf, H⟩
    try dsimp only at hF
    refine XX.at hf <| x_then <| C_seq <| R_nd <| nq (Q_move rfl) rfl rfl <| nq (Q_assign rfl) rfl rfl <| WL_nil <| x_then <| C_ret ?_
    obtain rfl := Option.some.inj hF
    exact fn_ret (l := [.tmp 2]) (vs := [v164]) rfl rfl rfl ⟨v164, c165, x166, rfl, rfl, r167, H⟩
theorem c_89 {N : Nat} {C : Cx} {w : World} {ρ : View} {hs : List Hl} {x1 : Int} (H : Hp C w ρ (hs)) (gl1 : GTab ρ 1 .u8 tab_math_bits_deBruijn64tab) {r : Int} (hF : F_math_bits_TrailingZeros64 N x1 = some r) :
    Calls Tryd.prog 89 [.int .u64 x1].toArray w (Rets (fun v w' => (∃ (x4 : Int), x4 = r ∧ .int .i64 x4 = v ∧ Hp C w' ρ (hs)))) := by
  unfold F_math_bits_TrailingZeros64 at hF
  have h0 : Tryd.f89.body = some _ := rfl
  refine fn_calls' Tryd.func89 h0 (n := 14) rfl (by simp) <| C_seq <| R_nd <| nq (Q_assign rfl) rfl rfl <| WL_nil <| x_then <| C_seq <| C_seq <| R_nd <| nq (Q_move rfl) rfl rfl <| nq (Q_eql rfl rfl) rfl rfl <| WL_nil <| x_then ?_
  refine C_cond rfl (fun hb => ?_) (fun hb => ?_)
  · replace hF := itT hb hF
    refine C_seq <| R_nd <| nq (Q_assign rfl) rfl rfl <| WL_nil <| x_then <| C_ret <| x_then_ret ?_
    obtain rfl := Option.some.inj hF
    exact fn_ret (l := [.tmp 2]) (vs := [.int .i64 64]) rfl rfl rfl ⟨64, rfl, rfl, H⟩
  · replace hF := itF hb hF
    refine C_skip <| x_then <| C_seq <| R_nd <| nq (Q_move rfl) rfl rfl <| nq (Q_move rfl) rfl rfl <| nq (v := .int .u64 (IntKind.wrap .u64 (0 - x1))) (Q_neg rfl) rfl rfl <| nq (Q_and rfl rfl) rfl rfl <| nq (Q_mul rfl rfl) rfl rfl <| nq (Q_shr rfl rfl (by decide)) rfl rfl ?_
    obtain ⟨x5, hx5, hF⟩ := bnd hF
    have hn6 := idx_lt (N := 64) (xs := tab_math_bits_deBruijn64tab) rfl hx5
    refine nq (Q_idxA hn6.1 hn6.2 Tryd.underlying115 ty5 rfl rfl) rfl rfl <| nq (v := .int .u8 x5) (Q_ld ((GTab.at gl1 hx5).up H.ok.view) ty5 rfl (fun _ => rfl) rfl rfl) rfl rfl <| nq (Q_cvI ⟨_, Tryd.underlying5⟩ Tryd.underlying3 rfl) rfl rfl <| nq (Q_assign rfl) rfl rfl <| WL_nil <| x_then <| C_ret ?_
    obtain rfl := Option.some.inj hF
    exact fn_ret (l := [.tmp 2]) (vs := [.int .i64 (IntKind.wrap .i64 x5)]) rfl rfl rfl ⟨IntKind.wrap .i64 x5, rfl, rfl, H⟩
theorem c_83_1 {N : Nat} {C : Cx} {w : World} {ρ : View} {hs : List Hl} {b1 : Nat} {c2 : List Value} {v5 : Value} {x3 : (List Int)} {x6 : Int} {x7 : Int} (H : Hp C w ρ (Box b1 [v5, .int .i64 x6] :: Arr v5 1 c2 :: hs)) (gl1 : GTab ρ 1 .u8 tab_math_bits_deBruijn64tab) (r4 : rdL (eI .u64) ρ x3 c2) {r : Int} (hF : F_marks_Marks_After_1 N x3 x6 x7 = some r) :
    Calls Tryd.prog 83 [.pointer (some ⟨b1, 0, none⟩), .int .i64 x7].toArray w (Rets (fun v w' => (∃ (x233 : Int), x233 = r ∧ .int .i64 x233 = v ∧ Hp C w' ρ (Box b1 [v5, .int .i64 x6] :: Arr v5 1 c2 :: hs)))) := by
  unfold F_marks_Marks_After_1 at hF
  have h0 : Tryd.f83.body = some _ := rfl
  refine fn_calls' Tryd.func83 h0 (n := 48) rfl (by simp) <| C_seq <| R_nd <| nq (Q_assign rfl) rfl rfl <| WL_nil <| x_then <| C_seq <| C_seq <| R_nd <| nq (Q_move rfl) rfl rfl <| nq (Q_move rfl) rfl rfl ?_
  replace H := H.front 1 rfl
  dsimp only [List.eraseIdx] at H
  replace H := H.front 1 rfl
  dsimp only [List.eraseIdx] at H
  obtain ⟨q234, hq234, hF⟩ := bnd hF
  refine ne (E_call fn87 rfl (c_87 H  r4 hq234)) rfl rfl ?_
  rintro _ wd236 ⟨rfl, rfl, H⟩
  try dsimp only at hF
  refine nq (Q_geq rfl rfl) rfl rfl <| WL_nil <| x_then ?_
  refine C_cond rfl (fun hb => ?_) (fun hb => ?_)
  · replace hF := itT hb hF
    refine C_seq <| R_nd <| nq (Q_assign rfl) rfl rfl <| WL_nil <| x_then <| C_ret <| x_then_ret ?_
    replace H := H.front 1 rfl
    dsimp only [List.eraseIdx] at H
    replace H := H.front 1 rfl
    dsimp only [List.eraseIdx] at H
    obtain rfl := Option.some.inj hF
    exact fn_ret (l := [.tmp 4]) (vs := [.int .i64 (-1)]) rfl rfl rfl ⟨(-1), rfl, rfl, H⟩
  · replace hF := itF hb hF
    refine C_skip <| x_then <| C_seq <| R_nd <| nq (Q_move rfl) rfl rfl <| nq (v := .int .i64 (imax x7 (-1))) (Q_max rfl rfl) rfl rfl <| nq (Q_add rfl rfl) rfl rfl <| nq (Q_assign rfl) rfl rfl <| WL_nil <| x_then <| C_seq <| C_seq <| R_nd <| nq (Q_move rfl) rfl rfl ?_
    refine nq (Q_quo rfl rfl (by decide)) rfl rfl <| nq (Q_assign rfl) rfl rfl <| WL_nil <| x_then ?_
    obtain ⟨o367, ho367, hF⟩ := bnd hF
    refine C_cutQ (fun a w' => .inl () = o367 ∧ Fr 48 a [] ∧ Hp C w' ρ (Box b1 [v5, .int .i64 x6] :: Arr v5 1 c2 :: hs)) ?_ ?_
    · refine C_block ?_
      replace H := H.front 1 rfl
      dsimp only [List.eraseIdx] at H
      replace H := H.front 1 rfl
      dsimp only [List.eraseIdx] at H
      refine C_iter (f := fun s => F_marks_Marks_After_1_l0 N x3 x6 x7 s) ho367 (fun s a w' => ∃ (x410 : Int), x410 = s ∧ Fr 48 a [(0, .pointer (some ⟨b1, 0, none⟩)), (1, .int .i64 (w64 ((imax x7 (-1)) + 1))), (5, .int .i64 x410)] ∧ Hp C w' ρ (Box b1 [v5, .int .i64 x6] :: Arr v5 1 c2 :: hs)) ?_ ?_
      · exact fun a hf => ⟨w64 ((w64 ((imax x7 (-1)) + 1)).tdiv 64), rfl, hf.sub ⟨rfl, rfl, rfl, trivial⟩, H⟩
      · rintro s o453 a wd456 ⟨x410, rfl, hf, H⟩ hB454 hO455
        replace hB454 : F_marks_Marks_After_1_l0 N x3 x6 x7 x410 = some o453 := hB454
        unfold F_marks_Marks_After_1_l0 at hB454
        refine CW.at hf <| C_seq <| C_seq <| R_nd <| nq (Q_move rfl) rfl rfl <| nq (Q_move rfl) rfl rfl ?_
        replace H := H.front 1 rfl
        dsimp only [List.eraseIdx] at H
        replace H := H.front 1 rfl
        dsimp only [List.eraseIdx] at H
        obtain ⟨q457, hq457, hB454⟩ := bnd hB454
        refine ne (E_call fn77 rfl (c_77 H  r4 hq457)) rfl rfl ?_
        rintro _ wd459 ⟨rfl, rfl, H⟩
        try dsimp only at hB454
        refine nq (Q_lenA (k := 1) H.ok rfl r4 (by decide) Tryd.underlying92 rfl) rfl rfl <| nq (Q_lss rfl rfl) rfl rfl <| WL_nil <| x_then ?_
        refine C_cond rfl (fun hb => ?_) (fun hb => ?_)
        · replace hB454 := itT hb hB454
          refine C_skip <| x_then ?_
          obtain ⟨o478, ho478, hB454⟩ := bnd hB454
          refine C_cut (fun a w' => .inl () = o478 ∧ Fr 48 a [(0, .pointer (some ⟨b1, 0, none⟩)), (1, .int .i64 (w64 ((imax x7 (-1)) + 1))), (5, .int .i64 x410)] ∧ Hp C w' ρ (Box b1 [v5, .int .i64 x6] :: Arr v5 1 c2 :: hs)) ?_ ?_
          · refine C_block <| C_seq <| R_nd <| nq (Q_move rfl) rfl rfl <| nq (Q_nilP rfl) rfl rfl <| nq (v := .pointer (some ⟨b1, 0, none⟩)) (Q_fld Tryd.underlying94 rfl ty92 (by decide) rfl rfl) rfl rfl <| nq (v := v5) (Q_ldB (k := 0) (cs := [v5]) H.ok rfl ty92 rfl rfl rfl (fun _ => rfl) rfl) rfl rfl <| nq (Q_move rfl) rfl rfl ?_
            obtain ⟨x479, hx479, ho478⟩ := bnd ho478
            obtain ⟨b480, o481, hi485, hc483, ha484⟩ := arr_at (hs := [Arr v5 1 c2]) (k := 0) (by decide) (H.okS (by simp)) rfl r4 hx479
            refine nq (Q_idx hi485 Tryd.underlying92 ty95 rfl rfl) rfl rfl <| nq (v := .int .u64 x479) (Q_ld (show cellsAt _ _ _ [.int .u64 x479] from (show _ = [_] from hc483) ▸ (ha484 _ (Ok.subS (by simp) H.ok))) ty95 rfl (fun _ => rfl) rfl rfl) rfl rfl <| nq (Q_assign rfl) rfl rfl <| WL_nil <| x_then <| C_seq <| C_seq <| R_nd <| nq (Q_move rfl) rfl rfl <| nq (Q_move rfl) rfl rfl <| nq (Q_quo rfl rfl (by decide)) rfl rfl <| nq (Q_eql rfl rfl) rfl rfl <| WL_nil <| x_then ?_
            obtain ⟨o489, ho489, ho478⟩ := bnd ho478
            refine C_cutQ (fun a w' => ∃ (x488 : Int), x488 = o489 ∧ Fr 48 a [(0, .pointer (some ⟨b1, 0, none⟩)), (1, .int .i64 (w64 ((imax x7 (-1)) + 1))), (5, .int .i64 x410), (6, .int .u64 x488)] ∧ Hp C w' ρ (Box b1 [v5, .int .i64 x6] :: Arr v5 1 c2 :: hs)) ?_ ?_
            · refine C_cond rfl (fun hb => ?_) (fun hb => ?_)
              · replace ho489 := itT hb ho489
                refine R_nd <| nq (Q_move rfl) rfl rfl <| nq (Q_move rfl) rfl rfl <| nq (Q_rem rfl rfl (by decide)) rfl rfl ?_
                obtain ⟨x490, hx490, ho489⟩ := bnd ho489
                refine nq (Q_shr rfl rfl (nn_some hx490)) rfl rfl <| nq (Q_move rfl) rfl rfl <| nq (Q_rem rfl rfl (by decide)) rfl rfl ?_
                obtain ⟨x491, hx491, ho489⟩ := bnd ho489
                refine nq (Q_shl rfl rfl (nn_some hx491)) rfl rfl <| nq (Q_assign rfl) rfl rfl <| WL_nil ?_
                replace H := H.front 1 rfl
                dsimp only [List.eraseIdx] at H
                replace H := H.front 1 rfl
                dsimp only [List.eraseIdx] at H
                obtain rfl := Option.some.inj ho489
                refine x_A fun a hf => ⟨shlI .u64 (shrI .u64 x479 ((w64 ((imax x7 (-1)) + 1)).tmod 64)) ((w64 ((imax x7 (-1)) + 1)).tmod 64), rfl, hf.sub ⟨rfl, rfl, rfl, rfl, trivial⟩, H⟩
              · replace ho489 := itF hb ho489
                refine C_skip ?_
                replace H := H.front 1 rfl
                dsimp only [List.eraseIdx] at H
                replace H := H.front 1 rfl
                dsimp only [List.eraseIdx] at H
                obtain rfl := Option.some.inj ho489
                refine x_A fun a hf => ⟨x479, rfl, hf.sub ⟨rfl, rfl, rfl, rfl, trivial⟩, H⟩
            · rintro a wd492 ⟨x488, rfl, hf, H⟩
              try dsimp only at ho478
              refine XX.at hf <| x_then <| C_seq <| R_nd <| nq (Q_move rfl) rfl rfl <| nq (Q_neq rfl rfl) rfl rfl <| WL_nil <| x_then ?_
              refine C_cond rfl (fun hb => ?_) (fun hb => ?_)
              · replace ho478 := itT hb ho478
                refine C_seq <| R_nd <| nq (Q_move rfl) rfl rfl <| nq (Q_mul rfl rfl) rfl rfl <| nq (Q_move rfl) rfl rfl ?_
                obtain ⟨q493, hq493, ho478⟩ := bnd ho478
                refine ne (E_call fn89 rfl (c_89 H gl1  hq493)) rfl rfl ?_
                rintro _ wd496 ⟨x495, rfl, rfl, H⟩
                try dsimp only at ho478
                refine nq (Q_add rfl rfl) rfl rfl <| nq (Q_assign rfl) rfl rfl <| WL_nil <| x_then <| C_ret <| x_block_ret <| x_then_ret <| x_then_ret <| x_block_ret <| x_then_ret <| x_then_ret ?_
                replace H := H.front 1 rfl
                dsimp only [List.eraseIdx] at H
                replace H := H.front 1 rfl
                dsimp only [List.eraseIdx] at H
                obtain rfl := Option.some.inj ho478
                obtain rfl := Option.some.inj (show some _ = some _ from hB454)
                obtain rfl := hO455 _ rfl
                obtain rfl := Option.some.inj (show some _ = some _ from hF)
                exact fn_ret (l := [.tmp 4]) (vs := [.int .i64 (w64 ((w64 (64 * x410)) + x495))]) rfl rfl rfl ⟨w64 ((w64 (64 * x410)) + x495), rfl, rfl, H⟩
              · replace ho478 := itF hb ho478
                refine C_skip <| x_block ?_
                replace H := H.front 1 rfl
                dsimp only [List.eraseIdx] at H
                replace H := H.front 1 rfl
                dsimp only [List.eraseIdx] at H
                obtain rfl := Option.some.inj ho478
                refine x_A fun a hf => ⟨rfl, hf.sub ⟨rfl, rfl, rfl, trivial⟩, H⟩
          · rintro a wd497 ⟨rfl, hf, H⟩
            try dsimp only at hB454
            refine CW.at hf <| R_nd <| nq (Q_move rfl) rfl rfl <| nq (Q_add rfl rfl) rfl rfl <| nq (Q_assign rfl) rfl rfl <| WL_nil ?_
            replace H := H.front 1 rfl
            dsimp only [List.eraseIdx] at H
            replace H := H.front 1 rfl
            dsimp only [List.eraseIdx] at H
            obtain rfl := Option.some.inj hB454
            refine x_A fun a hf => ⟨_, rfl, w64 (x410 + 1), rfl, hf.sub ⟨rfl, rfl, rfl, trivial⟩, H⟩
        · replace hB454 := itF hb hB454
          refine C_exit <| x_then_exit <| x_then_exit <| x_block_exit ?_
          replace H := H.front 1 rfl
          dsimp only [List.eraseIdx] at H
          replace H := H.front 1 rfl
          dsimp only [List.eraseIdx] at H
          obtain rfl := Option.some.inj hB454
          obtain rfl := hO455 _ rfl
          refine x_A fun a hf => ⟨rfl, hf.sub trivial, H⟩
    · rintro a wd498 ⟨rfl, hf, H⟩
      try dsimp only at hF
      refine XX.at hf <| x_then <| C_seq <| R_nd <| nq (Q_assign rfl) rfl rfl <| WL_nil <| x_then <| C_ret ?_
      replace H := H.front 1 rfl
      dsimp only [List.eraseIdx] at H
      replace H := H.front 1 rfl
      dsimp only [List.eraseIdx] at H
      obtain rfl := Option.some.inj hF
      exact fn_ret (l := [.tmp 4]) (vs := [.int .i64 (-1)]) rfl rfl rfl ⟨(-1), rfl, rfl, H⟩
theorem c_64_1 {N : Nat} {C : Cx} {w : World} {ρ : View} {hs : List Hl} {b1 : Nat} {c2 : List Value} {v5 : Value} {x3 : (List Int)} {x6 : Int} (H : Hp C w ρ (Box b1 [v5, .int .i64 x6] :: Arr v5 1 c2 :: hs)) (gl1 : GTab ρ 1 .u8 tab_math_bits_deBruijn64tab) (r4 : rdL (eI .u64) ρ x3 c2) {r : (List Int)} (hF : F_marks_Marks_List_1 N x3 x6 = some r) :
    Calls Tryd.prog 64 [.pointer (some ⟨b1, 0, none⟩)].toArray w (Rets (fun v w' => (∃ (v127 : Value) (c128 : (List Value)) (x129 : (List Int)), x129 = r ∧ v127 = v ∧ rdL (eI .i64) ρ x129 c128 ∧ Hp C w' ρ (Box b1 [v5, .int .i64 x6] :: Arr v5 1 c2 :: Arr v127 1 c128 :: hs)))) := by
  unfold F_marks_Marks_List_1 at hF
  have h0 : Tryd.f64.body = some _ := rfl
  refine fn_calls' Tryd.func64 h0 (n := 17) rfl (by simp) <| C_seq <| R_nd <| nq (Q_assign rfl) rfl rfl <| WL_nil <| x_then <| C_seq <| R_nd <| nq (Q_assign rfl) rfl rfl <| WL_nil <| x_then <| C_seq <| C_seq <| R_nd ?_
  refine nq (Q_move rfl) rfl rfl ?_
  replace H := H.front 1 rfl
  dsimp only [List.eraseIdx] at H
  replace H := H.front 1 rfl
  dsimp only [List.eraseIdx] at H
  obtain ⟨q131, hq131, hF⟩ := bnd hF
  refine ne (E_call fn83 rfl (c_83_1 H gl1 r4 hq131)) rfl rfl ?_
  rintro _ wd134 ⟨x133, rfl, rfl, H⟩
  try dsimp only at hF
  refine nq (Q_assign rfl) rfl rfl <| WL_nil <| x_then ?_
  obtain ⟨o194, ho194, hF⟩ := bnd hF
  refine C_cutQ (fun a w' => ∃ (v190 : Value) (c191 : (List Value)) (x192 : (List Int)), x192 = o194 ∧ rdL (eI .i64) ρ x192 c191 ∧ Fr 17 a [(3, v190)] ∧ Hp C w' ρ (Box b1 [v5, .int .i64 x6] :: Arr v5 1 c2 :: Arr v190 1 c191 :: hs)) ?_ ?_
  · refine C_block ?_
    have H := H.nilArr 1
    replace H := H.front 2 rfl
    dsimp only [List.eraseIdx] at H
    replace H := H.front 2 rfl
    dsimp only [List.eraseIdx] at H
    refine C_iter (f := fun s => F_marks_Marks_List_1_l0 N x3 x6 s.1 s.2) ho194 (fun s a w' => ∃ (v212 : Value) (c213 : (List Value)) (x214 : (List Int)) (x216 : Int), (x214, x216) = s ∧ rdL (eI .i64) ρ x214 c213 ∧ Fr 17 a [(0, .pointer (some ⟨b1, 0, none⟩)), (3, v212), (4, .int .i64 x216)] ∧ Hp C w' ρ (Box b1 [v5, .int .i64 x6] :: Arr v5 1 c2 :: Arr v212 1 c213 :: hs)) ?_ ?_
    · exact fun a hf => ⟨(.slice none 0 0), [], [], x133, rfl, rdL.nil, hf.sub ⟨rfl, rfl, rfl, trivial⟩, H⟩
    · rintro s o234 a wd237 ⟨v212, c213, x214, x216, rfl, r215, hf, H⟩ hB235 hO236
      replace hB235 : F_marks_Marks_List_1_l0 N x3 x6 x214 x216 = some o234 := hB235
      unfold F_marks_Marks_List_1_l0 at hB235
      refine CW.at hf <| C_seq <| C_seq <| R_nd <| nq (Q_move rfl) rfl rfl <| nq (Q_geq rfl rfl) rfl rfl <| WL_nil <| x_then ?_
      refine C_cond rfl (fun hb => ?_) (fun hb => ?_)
      · replace hB235 := itT hb hB235
        refine C_skip <| x_then <| C_seq <| C_block <| R_nd <| nq (Q_move rfl) rfl rfl <| nq (Q_move rfl) rfl rfl <| ne (E_bslice (xs := [.tmp 13]) (vs := [.int .i64 x216]) H Tryd.underlying23 ty3 (by decide) (cs := [.int .i64 x216]) rfl (sz_cons rfl sz_nil) rfl (by simp) (by simp) rfl rfl) rfl rfl ?_
        rintro _ wd239 ⟨b238, rfl, H⟩
        obtain ⟨x240, hx240, hB235⟩ := bnd hB235
        obtain ⟨ha241a, ha241b⟩ := app_some hx240
        have r243 : rdL (eI .i64) ρ x240 (c213 ++ ([.int .i64 x216])) := ha241b ▸ rdL.app r215 (show rdL (eI .i64) ρ ([x216]) ([.int .i64 x216]) from ⟨([.int .i64 x216]), _, rfl, rfl, rdL.nil⟩)
        refine ne (E_append (k := 3) H rfl Tryd.underlying23 ty3 rfl (by decide) (by decide) rfl rfl (Src.ofArr (k := 0) H.ok rfl) (rdL.one (show rdL (eI .i64) ρ ([x216]) ([.int .i64 x216]) from ⟨([.int .i64 x216]), _, rfl, rfl, rdL.nil⟩)) (app_fit r215 (show rdL (eI .i64) ρ ([x216]) ([.int .i64 x216]) from ⟨([.int .i64 x216]), _, rfl, rfl, rdL.nil⟩) ha241a)) rfl rfl ?_
        rintro v242 wd245 ⟨H, hc244⟩
        dsimp only [List.set] at H
        refine nq (Q_assign rfl) rfl rfl <| WL_nil <| x_block <| x_then <| R_nd <| nq (Q_move rfl) rfl rfl <| nq (Q_move rfl) rfl rfl ?_
        replace H := H.front 2 rfl
        dsimp only [List.eraseIdx] at H
        replace H := H.front 2 rfl
        dsimp only [List.eraseIdx] at H
        obtain ⟨q246, hq246, hB235⟩ := bnd hB235
        refine ne (E_call fn83 rfl (c_83_1 H gl1 r4 hq246)) rfl rfl ?_
        rintro _ wd249 ⟨x248, rfl, rfl, H⟩
        try dsimp only at hB235
        refine nq (Q_assign rfl) rfl rfl <| WL_nil ?_
        replace H := H.front 3 rfl
        dsimp only [List.eraseIdx] at H
        replace H := H.front 2 rfl
        dsimp only [List.eraseIdx] at H
        replace H := H.front 2 rfl
        dsimp only [List.eraseIdx] at H
        replace H := H.drop 3 rfl
        dsimp only [List.eraseIdx] at H
        obtain rfl := Option.some.inj hB235
        refine x_A fun a hf => ⟨_, rfl, v242, (c213 ++ ([.int .i64 x216])), x240, x248, rfl, r243, hf.sub ⟨rfl, rfl, rfl, trivial⟩, H⟩
      · replace hB235 := itF hb hB235
        refine C_exit <| x_then_exit <| x_then_exit <| x_block_exit ?_
        replace H := H.front 2 rfl
        dsimp only [List.eraseIdx] at H
        replace H := H.front 2 rfl
        dsimp only [List.eraseIdx] at H
        replace H := H.front 2 rfl
        dsimp only [List.eraseIdx] at H
        obtain rfl := Option.some.inj hB235
        obtain rfl := hO236 _ rfl
        refine x_A fun a hf => ⟨v212, c213, x214, rfl, r215, hf.sub ⟨rfl, trivial⟩, H⟩
  · rintro a wd250 ⟨v190, c191, x192, rfl, r193, hf, H⟩
    try dsimp only at hF
    refine XX.at hf <| x_then <| C_seq <| R_nd <| nq (Q_move rfl) rfl rfl <| nq (Q_assign rfl) rfl rfl <| WL_nil <| x_then <| C_ret ?_
    replace H := H.front 2 rfl
    dsimp only [List.eraseIdx] at H
    replace H := H.front 2 rfl
    dsimp only [List.eraseIdx] at H
    replace H := H.front 2 rfl
    dsimp only [List.eraseIdx] at H
    obtain rfl := Option.some.inj hF
    exact fn_ret (l := [.tmp 2]) (vs := [v190]) rfl rfl rfl ⟨v190, c191, x192, rfl, rfl, r193, H⟩
theorem c_81 {N : Nat} {C : Cx} {w : World} {ρ : View} {hs : List Hl} {x1 : Int} (H : Hp C w ρ (hs)) {r : Unit} (hF : F_marks_Marks_Has N x1 = some r) :
    Calls Tryd.prog 81 [.pointer none, .int .i64 x1].toArray w (Rets (fun v w' => (() = r ∧ .bool false = v ∧ Hp C w' ρ (hs)))) := by
  unfold F_marks_Marks_Has at hF
  have h0 : Tryd.f81.body = some _ := rfl
  refine fn_calls' Tryd.func81 h0 (n := 28) rfl (by simp) <| C_seq <| R_nd <| nq (Q_assign rfl) rfl rfl <| WL_nil <| x_then <| C_seq <| R_nd <| nq (Q_move rfl) rfl rfl <| nq (Q_move rfl) rfl rfl ?_
  obtain ⟨q10, hq10, hF⟩ := bnd hF
  refine ne (E_call fn76 rfl (c_76_1 H   hq10)) rfl rfl ?_
  rintro _ wd15 ⟨x12, x13, x14, rfl, rfl, H⟩
  try dsimp only at hF
  refine nq (Q_move rfl) rfl rfl <| nq (Q_extract rfl rfl) rfl rfl <| nq (Q_extract rfl rfl) rfl rfl <| nq (Q_extract rfl rfl) rfl rfl <| nq (Q_assign rfl) rfl rfl <| nq (Q_assign rfl) rfl rfl <| nq (Q_assign rfl) rfl rfl <| WL_nil <| x_then ?_
  obtain ⟨o16, ho16, hF⟩ := bnd hF
  refine C_cut (fun a w' => Fr 28 a [(4, .bool false)] ∧ Hp C w' ρ (hs)) ?_ ?_
  · refine R_nd <| nq (Q_move rfl) rfl rfl <| nq (Q_move rfl) rfl rfl ?_
    rcases Bool.eq_false_or_eq_true x14 with hb | hb
    · rw [hb]
      replace ho16 := itT hb ho16
      refine gq (Q_move rfl) rfl rfl rfl ?_
      cases ho16
    · rw [hb]
      replace ho16 := itF hb ho16
      refine gs rfl rfl rfl rfl <| gs rfl rfl rfl rfl <| gs rfl rfl rfl rfl <| gs rfl rfl rfl rfl <| gs rfl rfl rfl rfl <| gs rfl rfl rfl rfl <| gs rfl rfl rfl rfl <| gs rfl rfl rfl rfl <| gs rfl rfl rfl rfl <| gs rfl rfl rfl rfl <| nq (Q_pickF rfl rfl) rfl rfl <| nq (Q_assign rfl) rfl rfl <| WL_nil ?_
      obtain rfl := Option.some.inj ho16
      refine x_A fun a hf => ⟨hf.sub ⟨rfl, trivial⟩, H⟩
  · rintro a wd17 ⟨hf, H⟩
    try dsimp only at hF
    refine CW.at hf <| C_ret ?_
    obtain rfl := Option.some.inj hF
    exact fn_ret (l := [.tmp 4]) (vs := [.bool false]) rfl rfl rfl ⟨rfl, rfl, H⟩
theorem c_84 {N : Nat} {C : Cx} {w : World} {ρ : View} {hs : List Hl} {b2 : Nat} {x1 : Int} (H : Hp C w ρ (Box b2 [.pointer none] :: hs)) {r : Unit} (hF : F_trim_live_1 N x1 = some r) :
    Calls Tryd.prog 84 [.int .i64 x1, .pointer (some ⟨b2, 0, none⟩)].toArray w (Rets (fun v w' => (() = r ∧ .bool false = v ∧ Hp C w' ρ (Box b2 [.pointer none] :: hs)))) := by
  unfold F_trim_live_1 at hF
  have h0 : Tryd.f84.body = some _ := rfl
  refine fn_calls' Tryd.func84 h0 (n := 7) rfl (by simp) <| C_seq <| R_nd <| nq (Q_assign rfl) rfl rfl <| WL_nil <| x_then <| C_seq <| R_nd <| nq (v := .pointer none) (Q_ldB (k := 0) (cs := [.pointer none]) H.ok rfl ty61 rfl rfl rfl (fun _ => rfl) rfl) rfl rfl <| nq (Q_move rfl) rfl rfl ?_
  obtain ⟨q6, hq6, hF⟩ := bnd hF
  refine ne (E_call fn81 rfl (c_81 H   hq6)) rfl rfl ?_
  rintro _ wd8 ⟨rfl, rfl, H⟩
  try dsimp only at hF
  refine nq (Q_assign rfl) rfl rfl <| WL_nil <| x_then <| C_ret ?_
  obtain rfl := Option.some.inj hF
  exact fn_ret (l := [.tmp 3]) (vs := [.bool false]) rfl rfl rfl ⟨rfl, rfl, H⟩
theorem c_80_2 {N : Nat} {C : Cx} {w : World} {ρ : View} {hs : List Hl} {v1 : Value} {b4 : Nat} {x2 : (List Int)} (H : Hp C w ρ (Box b4 [.pointer none] :: hs)) (r3 : RdSl ρ (eI .i64) v1 x2) {r : Unit} (hF : F_slices_IndexFunc_int_int_2 N x2 = some r) :
    Calls Tryd.prog 80 [v1, .func (.func 84) #[] [.pointer (some ⟨b4, 0, none⟩)].toArray].toArray w (Rets (fun v w' => (() = r ∧ .int .i64 (-1) = v ∧ Hp C w' ρ (Box b4 [.pointer none] :: hs)))) := by
  unfold F_slices_IndexFunc_int_int_2 at hF
  have h0 : Tryd.f80.body = some _ := rfl
  refine fn_calls' Tryd.func80 h0 (n := 19) rfl (by simp) <| C_seq <| R_nd <| nq (Q_assign rfl) rfl rfl <| WL_nil <| x_then <| C_seq <| C_seq <| R_nd <| nq (Q_move rfl) rfl rfl <| nq (Q_len Tryd.underlying23 rfl r3) rfl rfl <| nq (Q_move rfl) rfl rfl <| WL_nil <| x_then ?_
  obtain ⟨o118, ho118, hF⟩ := bnd hF
  refine C_cutQ (fun a w' => Fr 19 a [] ∧ Hp C w' ρ (Box b4 [.pointer none] :: hs)) ?_ ?_
  · refine C_block ?_
    refine C_iter (f := fun s => F_slices_IndexFunc_int_int_2_l0 N x2 s) ho118 (fun s a w' => ∃ (x130 : Int), x130 = s ∧ Fr 19 a [(0, v1), (1, .func (.func 84) #[] [.pointer (some ⟨b4, 0, none⟩)].toArray), (7, .int .i64 (x2.length : Int)), (8, .int .i64 x130)] ∧ Hp C w' ρ (Box b4 [.pointer none] :: hs)) ?_ ?_
    · exact fun a hf => ⟨0, rfl, hf.sub ⟨rfl, rfl, rfl, rfl, trivial⟩, H⟩
    · rintro s o142 a wd145 ⟨x130, rfl, hf, H⟩ hB143 hO144
      replace hB143 : F_slices_IndexFunc_int_int_2_l0 N x2 x130 = some o142 := hB143
      unfold F_slices_IndexFunc_int_int_2_l0 at hB143
      refine CW.at hf <| C_seq <| R_nd <| nq (Q_lss rfl rfl) rfl rfl <| WL_nil <| x_then <| C_seq ?_
      refine C_cond rfl (fun hb => ?_) (fun hb => ?_)
      · replace hB143 := itT hb hB143
        refine C_skip <| x_then <| C_seq <| C_block <| C_seq <| R_nd <| nq (Q_move rfl) rfl rfl <| nq (Q_assign rfl) rfl rfl <| WL_nil <| x_then <| C_seq <| R_nd <| nq (Q_move rfl) rfl rfl <| nq (Q_move rfl) rfl rfl ?_
        refine nq (Q_move rfl) rfl rfl ?_
        obtain ⟨x146, hx146, hB143⟩ := bnd hB143
        obtain ⟨b147, o148, c149, hc150, ha151, hi152⟩ := idxR r3 hx146
        refine nq (Q_idx hi152 Tryd.underlying23 ty3 rfl rfl) rfl rfl <| nq (v := .int .i64 x146) (Q_ld (show cellsAt _ _ _ [.int .i64 x146] from (show _ = [_] from hc150) ▸ (ha151.up H.ok.view)) ty3 rfl (fun _ => rfl) rfl rfl) rfl rfl ?_
        obtain ⟨q153, hq153, hB143⟩ := bnd hB143
        refine ne (E_callV fn84 rfl rfl (c_84 H   hq153)) rfl rfl ?_
        rintro _ wd155 ⟨rfl, rfl, H⟩
        try dsimp only at hB143
        refine WL_nil <| x_then ?_
        refine C_cond rfl (fun h => nomatch h) (fun _ => ?_)
        refine C_skip <| x_block <| x_then <| R_nd <| nq (Q_add rfl rfl) rfl rfl <| nq (Q_move rfl) rfl rfl <| WL_nil ?_
        obtain rfl := Option.some.inj hB143
        refine x_A fun a hf => ⟨_, rfl, w64 (x130 + 1), rfl, hf.sub ⟨rfl, rfl, rfl, rfl, trivial⟩, H⟩
      · replace hB143 := itF hb hB143
        refine C_exit <| x_then_exit <| x_then_exit <| x_block_exit ?_
        obtain rfl := Option.some.inj hB143
        obtain rfl := hO144 _ rfl
        refine x_A fun a hf => ⟨hf.sub trivial, H⟩
  · rintro a wd156 ⟨hf, H⟩
    try dsimp only at hF
    refine XX.at hf <| x_then <| C_seq <| R_nd <| nq (Q_assign rfl) rfl rfl <| WL_nil <| x_then <| C_ret ?_
    obtain rfl := Option.some.inj hF
    exact fn_ret (l := [.tmp 4]) (vs := [.int .i64 (-1)]) rfl rfl rfl ⟨rfl, rfl, H⟩
theorem c_58_2 {N : Nat} {C : Cx} {w : World} {ρ : View} {hs : List Hl} {v1 : Value} {b4 : Nat} {x2 : (List Int)} (H : Hp C w ρ (Box b4 [.pointer none] :: hs)) (r3 : RdSl ρ (eI .i64) v1 x2) {r : Unit} (hF : F_slices_ContainsFunc_int_int_2 N x2 = some r) :
    Calls Tryd.prog 58 [v1, .func (.func 84) #[] [.pointer (some ⟨b4, 0, none⟩)].toArray].toArray w (Rets (fun v w' => (() = r ∧ .bool (decide ((-1) ≥ 0)) = v ∧ Hp C w' ρ (Box b4 [.pointer none] :: hs)))) := by
  unfold F_slices_ContainsFunc_int_int_2 at hF
  have h0 : Tryd.f58.body = some _ := rfl
  refine fn_calls' Tryd.func58 h0 (n := 9) rfl (by simp) <| C_seq <| R_nd <| nq (Q_assign rfl) rfl rfl <| WL_nil <| x_then <| C_seq <| R_nd <| nq (Q_move rfl) rfl rfl <| nq (Q_move rfl) rfl rfl ?_
  obtain ⟨q8, hq8, hF⟩ := bnd hF
  refine ne (E_call fn80 rfl (c_80_2 H  r3 hq8)) rfl rfl ?_
  rintro _ wd10 ⟨rfl, rfl, H⟩
  try dsimp only at hF
  refine nq (Q_geq rfl rfl) rfl rfl <| nq (Q_assign rfl) rfl rfl <| WL_nil <| x_then <| C_ret ?_
  obtain rfl := Option.some.inj hF
  exact fn_ret (l := [.tmp 4]) (vs := [.bool (decide ((-1) ≥ 0))]) rfl rfl rfl ⟨rfl, rfl, H⟩
theorem c_81_1 {N : Nat} {C : Cx} {w : World} {ρ : View} {hs : List Hl} {b1 : Nat} {c2 : List Value} {v5 : Value} {x3 : (List Int)} {x6 : Int} {x7 : Int} (H : Hp C w ρ (Box b1 [v5, .int .i64 x6] :: Arr v5 1 c2 :: hs)) (r4 : rdL (eI .u64) ρ x3 c2) {r : Bool} (hF : F_marks_Marks_Has_1 N x3 x6 x7 = some r) :
    Calls Tryd.prog 81 [.pointer (some ⟨b1, 0, none⟩), .int .i64 x7].toArray w (Rets (fun v w' => (∃ (x31 : Bool), x31 = r ∧ .bool x31 = v ∧ Hp C w' ρ (Box b1 [v5, .int .i64 x6] :: Arr v5 1 c2 :: hs)))) := by
  unfold F_marks_Marks_Has_1 at hF
  have h0 : Tryd.f81.body = some _ := rfl
  refine fn_calls' Tryd.func81 h0 (n := 28) rfl (by simp) <| C_seq <| R_nd <| nq (Q_assign rfl) rfl rfl <| WL_nil <| x_then <| C_seq <| R_nd <| nq (Q_move rfl) rfl rfl <| nq (Q_move rfl) rfl rfl ?_
  replace H := H.front 1 rfl
  dsimp only [List.eraseIdx] at H
  replace H := H.front 1 rfl
  dsimp only [List.eraseIdx] at H
  obtain ⟨q32, hq32, hF⟩ := bnd hF
  refine ne (E_call fn76 rfl (c_76 H  r4 hq32)) rfl rfl ?_
  rintro _ wd37 ⟨x34, x35, x36, rfl, rfl, H⟩
  try dsimp only at hF
  refine nq (Q_move rfl) rfl rfl <| nq (Q_extract rfl rfl) rfl rfl <| nq (Q_extract rfl rfl) rfl rfl <| nq (Q_extract rfl rfl) rfl rfl <| nq (Q_assign rfl) rfl rfl <| nq (Q_assign rfl) rfl rfl <| nq (Q_assign rfl) rfl rfl <| WL_nil <| x_then ?_
  obtain ⟨o46, ho46, hF⟩ := bnd hF
  refine C_cut (fun a w' => ∃ (x45 : Bool), x45 = o46 ∧ Fr 28 a [(4, .bool x45)] ∧ Hp C w' ρ (Box b1 [v5, .int .i64 x6] :: Arr v5 1 c2 :: hs)) ?_ ?_
  · refine R_nd <| nq (Q_move rfl) rfl rfl <| nq (Q_move rfl) rfl rfl ?_
    rcases Bool.eq_false_or_eq_true x36 with hb | hb
    · rw [hb]
      replace ho46 := itT hb ho46
      refine gq (Q_move rfl) rfl rfl rfl <| gq (Q_nilP rfl) rfl rfl rfl <| gq (v := .pointer (some ⟨b1, 0, none⟩)) (Q_fld Tryd.underlying94 rfl ty92 (by decide) rfl rfl) rfl rfl rfl <| gq (v := v5) (Q_ldB (k := 0) (cs := [v5]) H.ok rfl ty92 rfl rfl rfl (fun _ => rfl) rfl) rfl rfl rfl <| gq (Q_move rfl) rfl rfl rfl ?_
      obtain ⟨x47, hx47, ho46⟩ := bnd ho46
      obtain ⟨b48, o49, hi53, hc51, ha52⟩ := arr_at (hs := [Arr v5 1 c2]) (k := 0) (by decide) (H.okS (by simp)) rfl r4 hx47
      refine gq (Q_idx hi53 Tryd.underlying92 ty95 rfl rfl) rfl rfl rfl <| gq (v := .int .u64 x47) (Q_ld (show cellsAt _ _ _ [.int .u64 x47] from (show _ = [_] from hc51) ▸ (ha52 _ (Ok.subS (by simp) H.ok))) ty95 rfl (fun _ => rfl) rfl rfl) rfl rfl rfl <| gq (Q_move rfl) rfl rfl rfl <| gq (Q_and rfl rfl) rfl rfl rfl <| gq (Q_neq rfl rfl) rfl rfl rfl <| nq (Q_pickT rfl rfl) rfl rfl <| nq (Q_assign rfl) rfl rfl <| WL_nil ?_
      replace H := H.front 1 rfl
      dsimp only [List.eraseIdx] at H
      replace H := H.front 1 rfl
      dsimp only [List.eraseIdx] at H
      obtain rfl := Option.some.inj ho46
      refine x_A fun a hf => ⟨(iand .u64 x47 x35) != 0, rfl, hf.sub ⟨rfl, trivial⟩, H⟩
    · rw [hb]
      replace ho46 := itF hb ho46
      refine gs rfl rfl rfl rfl <| gs rfl rfl rfl rfl <| gs rfl rfl rfl rfl <| gs rfl rfl rfl rfl <| gs rfl rfl rfl rfl <| gs rfl rfl rfl rfl <| gs rfl rfl rfl rfl <| gs rfl rfl rfl rfl <| gs rfl rfl rfl rfl <| gs rfl rfl rfl rfl <| nq (Q_pickF rfl rfl) rfl rfl <| nq (Q_assign rfl) rfl rfl <| WL_nil ?_
      replace H := H.front 1 rfl
      dsimp only [List.eraseIdx] at H
      replace H := H.front 1 rfl
      dsimp only [List.eraseIdx] at H
      obtain rfl := Option.some.inj ho46
      refine x_A fun a hf => ⟨false, rfl, hf.sub ⟨rfl, trivial⟩, H⟩
  · rintro a wd54 ⟨x45, rfl, hf, H⟩
    try dsimp only at hF
    refine CW.at hf <| C_ret ?_
    replace H := H.front 1 rfl
    dsimp only [List.eraseIdx] at H
    replace H := H.front 1 rfl
    dsimp only [List.eraseIdx] at H
    obtain rfl := Option.some.inj hF
    exact fn_ret (l := [.tmp 4]) (vs := [.bool x45]) rfl rfl rfl ⟨x45, rfl, rfl, H⟩
theorem c_84_1 {N : Nat} {C : Cx} {w : World} {ρ : View} {hs : List Hl} {b2 : Nat} {b3 : Nat} {c4 : List Value} {v7 : Value} {x1 : Int} {x5 : (List Int)} {x8 : Int} (H : Hp C w ρ (Box b2 [.pointer (some ⟨b3, 0, none⟩)] :: Box b3 [v7, .int .i64 x8] :: Arr v7 1 c4 :: hs)) (r6 : rdL (eI .u64) ρ x5 c4) {r : Bool} (hF : F_trim_live_1_1 N x1 x5 x8 = some r) :
    Calls Tryd.prog 84 [.int .i64 x1, .pointer (some ⟨b2, 0, none⟩)].toArray w (Rets (fun v w' => (∃ (x13 : Bool), x13 = r ∧ .bool x13 = v ∧ Hp C w' ρ (Box b2 [.pointer (some ⟨b3, 0, none⟩)] :: Box b3 [v7, .int .i64 x8] :: Arr v7 1 c4 :: hs)))) := by
  unfold F_trim_live_1_1 at hF
  have h0 : Tryd.f84.body = some _ := rfl
  refine fn_calls' Tryd.func84 h0 (n := 7) rfl (by simp) <| C_seq <| R_nd <| nq (Q_assign rfl) rfl rfl <| WL_nil <| x_then <| C_seq <| R_nd <| nq (v := .pointer (some ⟨b3, 0, none⟩)) (Q_ldB (k := 0) (cs := [.pointer (some ⟨b3, 0, none⟩)]) H.ok rfl ty61 rfl rfl rfl (fun _ => rfl) rfl) rfl rfl <| nq (Q_move rfl) rfl rfl ?_
  replace H := H.front 2 rfl
  dsimp only [List.eraseIdx] at H
  replace H := H.front 2 rfl
  dsimp only [List.eraseIdx] at H
  obtain ⟨q14, hq14, hF⟩ := bnd hF
  refine ne (E_call fn81 rfl (c_81_1 H  r6 hq14)) rfl rfl ?_
  rintro _ wd17 ⟨x16, rfl, rfl, H⟩
  try dsimp only at hF
  refine nq (Q_assign rfl) rfl rfl <| WL_nil <| x_then <| C_ret ?_
  replace H := H.front 1 rfl
  dsimp only [List.eraseIdx] at H
  replace H := H.front 1 rfl
  dsimp only [List.eraseIdx] at H
  replace H := H.front 2 rfl
  dsimp only [List.eraseIdx] at H
  obtain rfl := Option.some.inj hF
  exact fn_ret (l := [.tmp 3]) (vs := [.bool x16]) rfl rfl rfl ⟨x16, rfl, rfl, H⟩
theorem c_80_3 {N : Nat} {C : Cx} {w : World} {ρ : View} {hs : List Hl} {v1 : Value} {b4 : Nat} {b5 : Nat} {c6 : List Value} {v9 : Value} {x2 : (List Int)} {x7 : (List Int)} {x10 : Int} (H : Hp C w ρ (Box b4 [.pointer (some ⟨b5, 0, none⟩)] :: Box b5 [v9, .int .i64 x10] :: Arr v9 1 c6 :: hs)) (r3 : RdSl ρ (eI .i64) v1 x2) (r8 : rdL (eI .u64) ρ x7 c6) {r : Int} (hF : F_slices_IndexFunc_int_int_3 N x2 x7 x10 = some r) :
    Calls Tryd.prog 80 [v1, .func (.func 84) #[] [.pointer (some ⟨b4, 0, none⟩)].toArray].toArray w (Rets (fun v w' => (∃ (x93 : Int), x93 = r ∧ .int .i64 x93 = v ∧ Hp C w' ρ (Box b4 [.pointer (some ⟨b5, 0, none⟩)] :: Box b5 [v9, .int .i64 x10] :: Arr v9 1 c6 :: hs)))) := by
  unfold F_slices_IndexFunc_int_int_3 at hF
  have h0 : Tryd.f80.body = some _ := rfl
  refine fn_calls' Tryd.func80 h0 (n := 19) rfl (by simp) <| C_seq <| R_nd <| nq (Q_assign rfl) rfl rfl <| WL_nil <| x_then <| C_seq <| C_seq <| R_nd <| nq (Q_move rfl) rfl rfl <| nq (Q_len Tryd.underlying23 rfl r3) rfl rfl <| nq (Q_move rfl) rfl rfl <| WL_nil <| x_then ?_
  obtain ⟨o134, ho134, hF⟩ := bnd hF
  refine C_cutQ (fun a w' => .inl () = o134 ∧ Fr 19 a [] ∧ Hp C w' ρ (Box b4 [.pointer (some ⟨b5, 0, none⟩)] :: Box b5 [v9, .int .i64 x10] :: Arr v9 1 c6 :: hs)) ?_ ?_
  · refine C_block ?_
    replace H := H.front 2 rfl
    dsimp only [List.eraseIdx] at H
    replace H := H.front 2 rfl
    dsimp only [List.eraseIdx] at H
    replace H := H.front 2 rfl
    dsimp only [List.eraseIdx] at H
    refine C_iter (f := fun s => F_slices_IndexFunc_int_int_3_l0 N x2 x7 x10 s) ho134 (fun s a w' => ∃ (x147 : Int), x147 = s ∧ Fr 19 a [(0, v1), (1, .func (.func 84) #[] [.pointer (some ⟨b4, 0, none⟩)].toArray), (7, .int .i64 (x2.length : Int)), (8, .int .i64 x147)] ∧ Hp C w' ρ (Box b4 [.pointer (some ⟨b5, 0, none⟩)] :: Box b5 [v9, .int .i64 x10] :: Arr v9 1 c6 :: hs)) ?_ ?_
    · exact fun a hf => ⟨0, rfl, hf.sub ⟨rfl, rfl, rfl, rfl, trivial⟩, H⟩
    · rintro s o160 a wd163 ⟨x147, rfl, hf, H⟩ hB161 hO162
      replace hB161 : F_slices_IndexFunc_int_int_3_l0 N x2 x7 x10 x147 = some o160 := hB161
      unfold F_slices_IndexFunc_int_int_3_l0 at hB161
      refine CW.at hf <| C_seq <| R_nd <| nq (Q_lss rfl rfl) rfl rfl <| WL_nil <| x_then <| C_seq ?_
      refine C_cond rfl (fun hb => ?_) (fun hb => ?_)
      · replace hB161 := itT hb hB161
        refine C_skip <| x_then <| C_seq <| C_block <| C_seq <| R_nd <| nq (Q_move rfl) rfl rfl <| nq (Q_assign rfl) rfl rfl <| WL_nil <| x_then <| C_seq <| R_nd <| nq (Q_move rfl) rfl rfl <| nq (Q_move rfl) rfl rfl ?_
        refine nq (Q_move rfl) rfl rfl ?_
        obtain ⟨x164, hx164, hB161⟩ := bnd hB161
        obtain ⟨b165, o166, c167, hc168, ha169, hi170⟩ := idxR r3 hx164
        refine nq (Q_idx hi170 Tryd.underlying23 ty3 rfl rfl) rfl rfl <| nq (v := .int .i64 x164) (Q_ld (show cellsAt _ _ _ [.int .i64 x164] from (show _ = [_] from hc168) ▸ (ha169.up H.ok.view)) ty3 rfl (fun _ => rfl) rfl rfl) rfl rfl ?_
        replace H := H.front 2 rfl
        dsimp only [List.eraseIdx] at H
        replace H := H.front 2 rfl
        dsimp only [List.eraseIdx] at H
        replace H := H.front 2 rfl
        dsimp only [List.eraseIdx] at H
        obtain ⟨q171, hq171, hB161⟩ := bnd hB161
        refine ne (E_callV fn84 rfl rfl (c_84_1 H  r8 hq171)) rfl rfl ?_
        rintro _ wd174 ⟨x173, rfl, rfl, H⟩
        try dsimp only at hB161
        refine WL_nil <| x_then ?_
        refine C_cond rfl (fun hb => ?_) (fun hb => ?_)
        · replace hB161 := itT hb hB161
          refine C_seq <| R_nd <| nq (Q_move rfl) rfl rfl <| nq (Q_assign rfl) rfl rfl <| WL_nil <| x_then <| C_ret <| x_block_ret <| x_then_ret <| x_then_ret <| x_block_ret <| x_then_ret <| x_then_ret ?_
          replace H := H.front 2 rfl
          dsimp only [List.eraseIdx] at H
          replace H := H.front 2 rfl
          dsimp only [List.eraseIdx] at H
          replace H := H.front 2 rfl
          dsimp only [List.eraseIdx] at H
          obtain rfl := Option.some.inj hB161
          obtain rfl := hO162 _ rfl
          obtain rfl := Option.some.inj (show some _ = some _ from hF)
          exact fn_ret (l := [.tmp 4]) (vs := [.int .i64 x147]) rfl rfl rfl ⟨x147, rfl, rfl, H⟩
        · replace hB161 := itF hb hB161
          refine C_skip <| x_block <| x_then <| R_nd <| nq (Q_add rfl rfl) rfl rfl <| nq (Q_move rfl) rfl rfl <| WL_nil ?_
          replace H := H.front 2 rfl
          dsimp only [List.eraseIdx] at H
          replace H := H.front 2 rfl
          dsimp only [List.eraseIdx] at H
          replace H := H.front 2 rfl
          dsimp only [List.eraseIdx] at H
          obtain rfl := Option.some.inj hB161
          refine x_A fun a hf => ⟨_, rfl, w64 (x147 + 1), rfl, hf.sub ⟨rfl, rfl, rfl, rfl, trivial⟩, H⟩
      · replace hB161 := itF hb hB161
        refine C_exit <| x_then_exit <| x_then_exit <| x_block_exit ?_
        replace H := H.front 2 rfl
        dsimp only [List.eraseIdx] at H
        replace H := H.front 2 rfl
        dsimp only [List.eraseIdx] at H
        replace H := H.front 2 rfl
        dsimp only [List.eraseIdx] at H
        obtain rfl := Option.some.inj hB161
        obtain rfl := hO162 _ rfl
        refine x_A fun a hf => ⟨rfl, hf.sub trivial, H⟩
  · rintro a wd175 ⟨rfl, hf, H⟩
    try dsimp only at hF
    refine XX.at hf <| x_then <| C_seq <| R_nd <| nq (Q_assign rfl) rfl rfl <| WL_nil <| x_then <| C_ret ?_
    replace H := H.front 2 rfl
    dsimp only [List.eraseIdx] at H
    replace H := H.front 2 rfl
    dsimp only [List.eraseIdx] at H
    replace H := H.front 2 rfl
    dsimp only [List.eraseIdx] at H
    obtain rfl := Option.some.inj hF
    exact fn_ret (l := [.tmp 4]) (vs := [.int .i64 (-1)]) rfl rfl rfl ⟨(-1), rfl, rfl, H⟩
theorem c_58_3 {N : Nat} {C : Cx} {w : World} {ρ : View} {hs : List Hl} {v1 : Value} {b4 : Nat} {b5 : Nat} {c6 : List Value} {v9 : Value} {x2 : (List Int)} {x7 : (List Int)} {x10 : Int} (H : Hp C w ρ (Box b4 [.pointer (some ⟨b5, 0, none⟩)] :: Box b5 [v9, .int .i64 x10] :: Arr v9 1 c6 :: hs)) (r3 : RdSl ρ (eI .i64) v1 x2) (r8 : rdL (eI .u64) ρ x7 c6) {r : Bool} (hF : F_slices_ContainsFunc_int_int_3 N x2 x7 x10 = some r) :
    Calls Tryd.prog 58 [v1, .func (.func 84) #[] [.pointer (some ⟨b4, 0, none⟩)].toArray].toArray w (Rets (fun v w' => (∃ (x15 : Bool), x15 = r ∧ .bool x15 = v ∧ Hp C w' ρ (Box b4 [.pointer (some ⟨b5, 0, none⟩)] :: Box b5 [v9, .int .i64 x10] :: Arr v9 1 c6 :: hs)))) := by
  unfold F_slices_ContainsFunc_int_int_3 at hF
  have h0 : Tryd.f58.body = some _ := rfl
  refine fn_calls' Tryd.func58 h0 (n := 9) rfl (by simp) <| C_seq <| R_nd <| nq (Q_assign rfl) rfl rfl <| WL_nil <| x_then <| C_seq <| R_nd <| nq (Q_move rfl) rfl rfl <| nq (Q_move rfl) rfl rfl ?_
  replace H := H.front 2 rfl
  dsimp only [List.eraseIdx] at H
  replace H := H.front 2 rfl
  dsimp only [List.eraseIdx] at H
  replace H := H.front 2 rfl
  dsimp only [List.eraseIdx] at H
  obtain ⟨q16, hq16, hF⟩ := bnd hF
  refine ne (E_call fn80 rfl (c_80_3 H  r3 r8 hq16)) rfl rfl ?_
  rintro _ wd19 ⟨x18, rfl, rfl, H⟩
  try dsimp only at hF
  refine nq (Q_geq rfl rfl) rfl rfl <| nq (Q_assign rfl) rfl rfl <| WL_nil <| x_then <| C_ret ?_
  replace H := H.front 2 rfl
  dsimp only [List.eraseIdx] at H
  replace H := H.front 2 rfl
  dsimp only [List.eraseIdx] at H
  replace H := H.front 2 rfl
  dsimp only [List.eraseIdx] at H
  obtain rfl := Option.some.inj hF
  exact fn_ret (l := [.tmp 4]) (vs := [.bool (decide (x18 ≥ 0))]) rfl rfl rfl ⟨decide (x18 ≥ 0), rfl, rfl, H⟩
theorem c_65 {N : Nat} {C : Cx} {w : World} {ρ : View} {hs : List Hl} {v1 : Value} {v4 : Value} {v7 : Value} {x2 : (List (List Int))} {x5 : (List Int)} {x8 : (List Int)} (H : Hp C w ρ (hs)) {ge0 : Value} (gl0 : GErr ρ 0 ge0) (r3 : RdSl ρ (eA 256 (eI .i64)) v1 x2) (r6 : RdSl ρ (eI .i64) v4 x5) (r9 : RdSl ρ (eI .i64) v7 x8) {r : (Unit ⊕ (List Int))} (hF : F_trim_live N x2 x5 x8 = some r) :
    Calls Tryd.prog 65 [.agg #[v1, v4, v7]].toArray w (Rets (fun v w' => (.inl () = r ∧ .pointer none = v ∧ Hp C w' ρ (hs)) ∨ (∃ (b7326 : Nat) (v7327 : Value) (c7328 : (List Value)) (x7329 : (List Int)), .inr x7329 = r ∧ .pointer (some ⟨b7326, 0, none⟩) = v ∧ rdL (eI .u64) ρ x7329 c7328 ∧ Hp C w' ρ (Box b7326 [v7327, .int .i64 (x2.length : Int)] :: Arr v7327 1 c7328 :: hs)))) := by
  unfold F_trim_live at hF
  have h0 : Tryd.f65.body = some _ := rfl
  refine fn_calls' Tryd.func65 h0 (n := 50) rfl (by simp) <| C_seq <| R_nd <| ne (E_box H (vs := [v1, v4, v7]) rfl rfl) rfl rfl ?_
  rintro _ wd7332 ⟨b7331, rfl, H⟩
  refine nq (Q_assign rfl) rfl rfl <| WL_nil <| x_then <| C_seq <| R_nd <| nq (v := .agg #[v1, v4, v7]) (Q_ldB (k := 0) (cs := [v1, v4, v7]) H.ok rfl ty25 rfl rfl rfl (fun h => nomatch h) rfl) rfl rfl ?_
  obtain ⟨q7333, hq7333, hF⟩ := bnd hF
  refine ne (E_call fn66 rfl (c_66 H gl0 r3 r6 r9 RdSl.nil hq7333)) rfl rfl ?_
  rintro _ wd7340 (⟨rfl, rfl, H⟩ | ⟨b7335, v7336, c7337, x7338, rfl, rfl, r7339, H⟩)
  · try dsimp only at hF
    refine ne (E_alloc H ty61 (zs := [.pointer none]) rfl) rfl rfl ?_
    rintro _ wd7342 ⟨b7341, rfl, H⟩
    refine ne (E_stB (k := 0) (cs := [.pointer none]) (vs' := [.pointer none]) H rfl ty61 rfl rfl rfl rfl (one_cons rfl one_nil) (by simp) rfl) rfl rfl ?_
    rintro _ wd7343 H
    dsimp only [List.set] at H
    refine WL_nil <| x_then <| C_seq <| C_seq <| R_nd <| nq (v := .pointer (some ⟨b7331, 1, none⟩)) (Q_fld Tryd.underlying25 rfl ty23 (by decide) rfl rfl) rfl rfl <| nq (v := v4) (Q_ldB (k := 1) (cs := [v4]) H.ok rfl ty23 rfl rfl rfl (fun _ => rfl) rfl) rfl rfl <| nq (Q_len Tryd.underlying23 rfl r6) rfl rfl <| nq (Q_move rfl) rfl rfl <| WL_nil <| x_then ?_
    obtain ⟨o7447, ho7447, hF⟩ := bnd hF
    refine C_cutQ (fun a w' => Fr 50 a [(1, .pointer (some ⟨b7331, 0, none⟩)), (3, .pointer (some ⟨b7341, 0, none⟩))] ∧ Hp C w' ρ (Box b7331 [v1, v4, v7] :: Box b7341 [.pointer none] :: hs)) ?_ ?_
    · refine C_block ?_
      replace H := H.front 1 rfl
      dsimp only [List.eraseIdx] at H
      refine C_iter (f := fun s => F_trim_live_l0 N x5 s) ho7447 (fun s a w' => ∃ (x7481 : Int), x7481 = s ∧ Fr 50 a [(1, .pointer (some ⟨b7331, 0, none⟩)), (3, .pointer (some ⟨b7341, 0, none⟩)), (13, v4), (14, .int .i64 (x5.length : Int)), (15, .int .i64 x7481)] ∧ Hp C w' ρ (Box b7331 [v1, v4, v7] :: Box b7341 [.pointer none] :: hs)) ?_ ?_
      · exact fun a hf => ⟨0, rfl, hf.sub ⟨rfl, rfl, rfl, rfl, rfl, trivial⟩, H⟩
      · rintro s o7515 a wd7518 ⟨x7481, rfl, hf, H⟩ hB7516 hO7517
        replace hB7516 : F_trim_live_l0 N x5 x7481 = some o7515 := hB7516
        unfold F_trim_live_l0 at hB7516
        refine CW.at hf <| C_seq <| R_nd <| nq (Q_lss rfl rfl) rfl rfl <| WL_nil <| x_then <| C_seq ?_
        refine C_cond rfl (fun hb => ?_) (fun hb => ?_)
        · replace hB7516 := itT hb hB7516
          refine C_skip <| x_then ?_
          obtain ⟨o7534, ho7534, hB7516⟩ := bnd hB7516
          refine C_cut (fun a w' => Fr 50 a [(1, .pointer (some ⟨b7331, 0, none⟩)), (3, .pointer (some ⟨b7341, 0, none⟩)), (13, v4), (14, .int .i64 (x5.length : Int)), (15, .int .i64 x7481)] ∧ Hp C w' ρ (Box b7331 [v1, v4, v7] :: Box b7341 [.pointer none] :: hs)) ?_ ?_
          · refine C_block <| C_seq <| R_nd <| nq (Q_move rfl) rfl rfl ?_
            obtain ⟨x7535, hx7535, ho7534⟩ := bnd ho7534
            obtain ⟨b7536, o7537, c7538, hc7539, ha7540, hi7541⟩ := idxR r6 hx7535
            refine nq (Q_idx hi7541 Tryd.underlying23 ty3 rfl rfl) rfl rfl <| nq (v := .int .i64 x7535) (Q_ld (show cellsAt _ _ _ [.int .i64 x7535] from (show _ = [_] from hc7539) ▸ (ha7540.up H.ok.view)) ty3 rfl (fun _ => rfl) rfl rfl) rfl rfl <| nq (Q_assign rfl) rfl rfl <| nq (Q_assign rfl) rfl rfl <| WL_nil <| x_then <| C_seq <| R_nd <| nq (Q_move rfl) rfl rfl <| nq (Q_neq rfl rfl) rfl rfl <| WL_nil <| x_then ?_
            obtain ⟨o7545, ho7545, ho7534⟩ := bnd ho7534
            refine C_cutQ (fun a w' => Fr 50 a [(1, .pointer (some ⟨b7331, 0, none⟩)), (3, .pointer (some ⟨b7341, 0, none⟩)), (13, v4), (14, .int .i64 (x5.length : Int)), (15, .int .i64 x7481)] ∧ Hp C w' ρ (Box b7331 [v1, v4, v7] :: Box b7341 [.pointer none] :: hs)) ?_ ?_
            · refine C_cond rfl (fun hb => ?_) (fun hb => ?_)
              · replace ho7545 := itT hb ho7545
                refine R_nd <| nq (v := .pointer none) (Q_ldB (k := 1) (cs := [.pointer none]) H.ok rfl ty61 rfl rfl rfl (fun _ => rfl) rfl) rfl rfl <| nq (Q_move rfl) rfl rfl ?_
                obtain ⟨q7546, hq7546, ho7545⟩ := bnd ho7545
                refine ne (E_call fn52 rfl (c_52_1 H   hq7546)) rfl rfl ?_
                rintro _ wd7548 ⟨rfl, rfl, H⟩
                try dsimp only at ho7545
                refine WL_nil ?_
                replace H := H.front 1 rfl
                dsimp only [List.eraseIdx] at H
                replace H := H.front 1 rfl
                dsimp only [List.eraseIdx] at H
                obtain rfl := Option.some.inj ho7545
                refine x_A fun a hf => ⟨hf.sub ⟨rfl, rfl, rfl, rfl, rfl, trivial⟩, H⟩
              · replace ho7545 := itF hb ho7545
                refine C_skip ?_
                replace H := H.front 1 rfl
                dsimp only [List.eraseIdx] at H
                replace H := H.front 1 rfl
                dsimp only [List.eraseIdx] at H
                obtain rfl := Option.some.inj ho7545
                refine x_A fun a hf => ⟨hf.sub ⟨rfl, rfl, rfl, rfl, rfl, trivial⟩, H⟩
            · rintro a wd7549 ⟨hf, H⟩
              try dsimp only at ho7534
              refine XX.at hf <| x_block ?_
              replace H := H.front 1 rfl
              dsimp only [List.eraseIdx] at H
              replace H := H.front 1 rfl
              dsimp only [List.eraseIdx] at H
              obtain rfl := Option.some.inj ho7534
              refine x_A fun a hf => ⟨hf.sub ⟨rfl, rfl, rfl, rfl, rfl, trivial⟩, H⟩
          · rintro a wd7550 ⟨hf, H⟩
            try dsimp only at hB7516
            refine CW.at hf <| R_nd <| nq (Q_add rfl rfl) rfl rfl <| nq (Q_move rfl) rfl rfl <| WL_nil ?_
            replace H := H.front 1 rfl
            dsimp only [List.eraseIdx] at H
            replace H := H.front 1 rfl
            dsimp only [List.eraseIdx] at H
            obtain rfl := Option.some.inj hB7516
            refine x_A fun a hf => ⟨_, rfl, w64 (x7481 + 1), rfl, hf.sub ⟨rfl, rfl, rfl, rfl, rfl, trivial⟩, H⟩
        · replace hB7516 := itF hb hB7516
          refine C_exit <| x_then_exit <| x_then_exit <| x_block_exit ?_
          replace H := H.front 1 rfl
          dsimp only [List.eraseIdx] at H
          replace H := H.front 1 rfl
          dsimp only [List.eraseIdx] at H
          obtain rfl := Option.some.inj hB7516
          obtain rfl := hO7517 _ rfl
          refine x_A fun a hf => ⟨hf.sub ⟨rfl, rfl, trivial⟩, H⟩
    · rintro a wd7551 ⟨hf, H⟩
      try dsimp only at hF
      refine XX.at hf <| x_then <| C_seq <| C_seq <| R_nd <| nq (Q_assign rfl) rfl rfl <| WL_nil <| x_then ?_
      obtain ⟨o8885, ho8885, hF⟩ := bnd hF
      refine C_cutQ (fun a w' => Fr 50 a [(3, .pointer (some ⟨b7341, 0, none⟩))] ∧ Hp C w' ρ (Box b7341 [.pointer none] :: hs)) ?_ ?_
      · refine C_block ?_
        replace H := H.front 1 rfl
        dsimp only [List.eraseIdx] at H
        replace H := H.front 1 rfl
        dsimp only [List.eraseIdx] at H
        refine C_iter (f := fun s => F_trim_live_l1 N x2 s) ho8885 (fun s a w' => ∃ (x9329 : Bool), x9329 = s ∧ Fr 50 a [(1, .pointer (some ⟨b7331, 0, none⟩)), (3, .pointer (some ⟨b7341, 0, none⟩)), (6, .bool x9329)] ∧ Hp C w' ρ (Box b7331 [v1, v4, v7] :: Box b7341 [.pointer none] :: hs)) ?_ ?_
        · exact fun a hf => ⟨true, rfl, hf.sub ⟨rfl, rfl, rfl, trivial⟩, H⟩
        · rintro s o9773 a wd9776 ⟨x9329, rfl, hf, H⟩ hB9774 hO9775
          replace hB9774 : F_trim_live_l1 N x2 x9329 = some o9773 := hB9774
          unfold F_trim_live_l1 at hB9774
          refine CW.at hf <| C_seq <| C_seq <| R_nd <| nq (Q_move rfl) rfl rfl <| WL_nil <| x_then ?_
          refine C_cond rfl (fun hb => ?_) (fun hb => ?_)
          · replace hB9774 := itT hb hB9774
            refine C_skip <| x_then <| C_block <| C_seq <| R_nd <| nq (Q_assign rfl) rfl rfl <| WL_nil <| x_then <| C_seq <| R_nd <| nq (v := .pointer (some ⟨b7331, 0, none⟩)) (Q_fld Tryd.underlying25 rfl ty22 (by decide) rfl rfl) rfl rfl <| nq (v := v1) (Q_ldB (k := 0) (cs := [v1]) H.ok rfl ty22 rfl rfl rfl (fun _ => rfl) rfl) rfl rfl <| nq (Q_len Tryd.underlying22 rfl r3) rfl rfl <| nq (Q_move rfl) rfl rfl ?_
            refine WL_nil <| x_then ?_
            obtain ⟨o9997, ho9997, hB9774⟩ := bnd hB9774
            refine C_cutQ (fun a w' => Fr 50 a [(1, .pointer (some ⟨b7331, 0, none⟩)), (3, .pointer (some ⟨b7341, 0, none⟩)), (6, .bool false)] ∧ Hp C w' ρ (Box b7331 [v1, v4, v7] :: Box b7341 [.pointer none] :: hs)) ?_ ?_
            · refine C_block ?_
              replace H := H.front 1 rfl
              dsimp only [List.eraseIdx] at H
              replace H := H.front 1 rfl
              dsimp only [List.eraseIdx] at H
              refine C_iter (f := fun s => F_trim_live_l2 N x2 s) ho9997 (fun s a w' => ∃ (x10070 : Int), x10070 = s ∧ Fr 50 a [(1, .pointer (some ⟨b7331, 0, none⟩)), (3, .pointer (some ⟨b7341, 0, none⟩)), (6, .bool false), (28, v1), (29, .int .i64 (x2.length : Int)), (30, .int .i64 x10070)] ∧ Hp C w' ρ (Box b7331 [v1, v4, v7] :: Box b7341 [.pointer none] :: hs)) ?_ ?_
              · exact fun a hf => ⟨0, rfl, hf.sub ⟨rfl, rfl, rfl, rfl, rfl, rfl, trivial⟩, H⟩
              · rintro s o10143 a wd10146 ⟨x10070, rfl, hf, H⟩ hB10144 hO10145
                replace hB10144 : F_trim_live_l2 N x2 x10070 = some o10143 := hB10144
                unfold F_trim_live_l2 at hB10144
                refine CW.at hf <| C_seq <| R_nd <| nq (Q_lss rfl rfl) rfl rfl <| WL_nil <| x_then <| C_seq ?_
                refine C_cond rfl (fun hb => ?_) (fun hb => ?_)
                · replace hB10144 := itT hb hB10144
                  refine C_skip <| x_then ?_
                  obtain ⟨o10184, ho10184, hB10144⟩ := bnd hB10144
                  refine C_cut (fun a w' => ∃ (b10179 : Nat) (c10180 : (List Value)) (x10181 : (List Int)), x10181 = o10184 ∧ rdL (eI .i64) ρ x10181 c10180 ∧ x10181.length = 256 ∧ Fr 50 a [(1, .pointer (some ⟨b7331, 0, none⟩)), (3, .pointer (some ⟨b7341, 0, none⟩)), (6, .bool false), (28, v1), (29, .int .i64 (x2.length : Int)), (30, .int .i64 x10070), (41, (.slice (some ⟨b10179, 0, none⟩) 256 256)), (42, .func (.func 84) #[] [.pointer (some ⟨b7341, 0, none⟩)].toArray), (43, .bool (decide ((-1) ≥ 0)))] ∧ Hp C w' ρ (Box b7331 [v1, v4, v7] :: Box b7341 [.pointer none] :: Arr (.slice (some ⟨b10179, 0, none⟩) 256 256) 1 c10180 :: hs)) ?_ ?_
                  · refine C_block <| C_seq <| R_nd <| nq (Q_move rfl) rfl rfl ?_
                    obtain ⟨x10185, hx10185, ho10184⟩ := bnd ho10184
                    obtain ⟨b10186, o10187, c10188, hc10189, ha10190, hi10191⟩ := idxR r3 hx10185
                    refine nq (Q_idx hi10191 Tryd.underlying22 ty58 rfl rfl) rfl rfl <| nq (v := .agg c10188.toArray) (Q_ld (ha10190.up H.ok.view) ty58 ((eA 256 (eI .i64)).len hc10189) (fun h => nomatch h) rfl rfl) rfl rfl <| ne (E_allocA (N := 256) (n := 1) (zs := (repC 256 [.int .i64 0])) H ty58 rfl (by simp [repC_length])) rfl rfl ?_
                    rintro _ wd10193 ⟨b10192, rfl, H⟩
                    refine nq (Q_assign rfl) rfl rfl <| ne (E_stW (k := 0) H rfl ty58 rfl rfl (rdL.one hc10189.2) (arr_clen (rdL_rep (e:=(eI .i64)) (ρ:=ρ) (rfl) 256) List.length_replicate) (arr_clen hc10189.2 hc10189.1)) rfl rfl ?_
                    rintro _ wd10194 H
                    dsimp only [List.set] at H
                    refine WL_nil <| x_then <| C_seq <| R_nd <| nq (v := .func (.func 84) #[] [.pointer (some ⟨b7341, 0, none⟩)].toArray) (Q_func rfl) rfl rfl <| nq (Q_assign rfl) rfl rfl <| WL_nil <| x_then ?_
                    obtain ⟨o10201, ho10201, ho10184⟩ := bnd ho10184
                    refine C_cut (fun a w' => Fr 50 a [(1, .pointer (some ⟨b7331, 0, none⟩)), (3, .pointer (some ⟨b7341, 0, none⟩)), (6, .bool false), (7, .int .i64 x10070), (28, v1), (29, .int .i64 (x2.length : Int)), (30, .int .i64 x10070), (41, (.slice (some ⟨b10192, 0, none⟩) 256 256)), (42, .func (.func 84) #[] [.pointer (some ⟨b7341, 0, none⟩)].toArray), (43, .bool (decide ((-1) ≥ 0))), (44, .bool (decide ((-1) ≥ 0)))] ∧ Hp C w' ρ (Box b7331 [v1, v4, v7] :: Box b7341 [.pointer none] :: Arr (.slice (some ⟨b10192, 0, none⟩) 256 256) 1 c10188 :: hs)) ?_ ?_
                    · refine R_nd <| nq (v := .pointer none) (Q_ldB (k := 2) (cs := [.pointer none]) H.ok rfl ty61 rfl rfl rfl (fun _ => rfl) rfl) rfl rfl <| nq (Q_move rfl) rfl rfl ?_
                      obtain ⟨q10202, hq10202, ho10201⟩ := bnd ho10201
                      refine ne (E_call fn81 rfl (c_81 H   hq10202)) rfl rfl ?_
                      rintro _ wd10204 ⟨rfl, rfl, H⟩
                      try dsimp only at ho10201
                      refine nq (Q_not rfl) rfl rfl <| nq (Q_move rfl) rfl rfl <| gq (v := (.slice (some ⟨b10192, 0, none⟩) 256 256)) (Q_slA Tryd.underlying58 ty3 rfl) rfl rfl rfl <| gq (Q_move rfl) rfl rfl rfl ?_
                      replace H := H.front 2 rfl
                      dsimp only [List.eraseIdx] at H
                      obtain ⟨q10205, hq10205, ho10201⟩ := bnd ho10201
                      obtain ⟨C', ρ', hl10206, HA, hL, hback⟩ := Hp.lend (A := [Box b7341 [.pointer none]]) (L := [Arr (.slice (some ⟨b10192, 0, none⟩) 256 256) 1 c10188]) (F := Box b7331 [v1, v4, v7] :: hs) H
                      refine ge (E_call fn58 rfl (c_58_2 HA  (arr_rd (by decide) hl10206 (hL (Arr (.slice (some ⟨b10192, 0, none⟩) 256 256) 1 c10188) (by simp)) hc10189.2) hq10205)) rfl rfl rfl ?_
                      rintro _ wd10207 ⟨rfl, rfl, H⟩
                      try dsimp only at ho10201
                      replace H := hback H
                      dsimp only [List.cons_append, List.nil_append] at H
                      refine nq (Q_pickT rfl rfl) rfl rfl <| WL_nil ?_
                      replace H := H.front 1 rfl
                      dsimp only [List.eraseIdx] at H
                      replace H := H.front 1 rfl
                      dsimp only [List.eraseIdx] at H
                      replace H := H.front 2 rfl
                      dsimp only [List.eraseIdx] at H
                      obtain rfl := Option.some.inj ho10201
                      refine x_A fun a hf => ⟨hf.sub ⟨rfl, rfl, rfl, rfl, rfl, rfl, rfl, rfl, rfl, rfl, rfl, trivial⟩, H⟩
                    · rintro a wd10208 ⟨hf, H⟩
                      try dsimp only at ho10184
                      refine CW.at hf ?_
                      obtain ⟨o10212, ho10212, ho10184⟩ := bnd ho10184
                      refine C_cutQ (fun a w' => Fr 50 a [(1, .pointer (some ⟨b7331, 0, none⟩)), (3, .pointer (some ⟨b7341, 0, none⟩)), (6, .bool false), (28, v1), (29, .int .i64 (x2.length : Int)), (30, .int .i64 x10070), (41, (.slice (some ⟨b10192, 0, none⟩) 256 256)), (42, .func (.func 84) #[] [.pointer (some ⟨b7341, 0, none⟩)].toArray), (43, .bool (decide ((-1) ≥ 0)))] ∧ Hp C w' ρ (Box b7331 [v1, v4, v7] :: Box b7341 [.pointer none] :: Arr (.slice (some ⟨b10192, 0, none⟩) 256 256) 1 c10188 :: hs)) ?_ ?_
                      · refine C_cond rfl (fun hb => ?_) (fun hb => ?_)
                        · replace ho10212 := itT hb ho10212
                          refine R_nd <| nq (v := .pointer none) (Q_ldB (k := 1) (cs := [.pointer none]) H.ok rfl ty61 rfl rfl rfl (fun _ => rfl) rfl) rfl rfl <| nq (Q_move rfl) rfl rfl ?_
                          obtain ⟨q10213, hq10213, ho10212⟩ := bnd ho10212
                          refine ne (E_call fn52 rfl (c_52_1 H   hq10213)) rfl rfl ?_
                          rintro _ wd10215 ⟨rfl, rfl, H⟩
                          try dsimp only at ho10212
                          refine nq (Q_assign rfl) rfl rfl <| WL_nil ?_
                          replace H := H.front 2 rfl
                          dsimp only [List.eraseIdx] at H
                          replace H := H.front 2 rfl
                          dsimp only [List.eraseIdx] at H
                          replace H := H.front 2 rfl
                          dsimp only [List.eraseIdx] at H
                          obtain rfl := Option.some.inj ho10212
                          refine x_A fun a hf => ⟨hf.sub ⟨rfl, rfl, rfl, rfl, rfl, rfl, rfl, rfl, rfl, trivial⟩, H⟩
                        · replace ho10212 := itF hb ho10212
                          refine C_skip ?_
                          replace H := H.front 2 rfl
                          dsimp only [List.eraseIdx] at H
                          replace H := H.front 2 rfl
                          dsimp only [List.eraseIdx] at H
                          replace H := H.front 2 rfl
                          dsimp only [List.eraseIdx] at H
                          obtain rfl := Option.some.inj ho10212
                          refine x_A fun a hf => ⟨hf.sub ⟨rfl, rfl, rfl, rfl, rfl, rfl, rfl, rfl, rfl, trivial⟩, H⟩
                      · rintro a wd10216 ⟨hf, H⟩
                        try dsimp only at ho10184
                        refine XX.at hf <| x_block ?_
                        replace H := H.front 2 rfl
                        dsimp only [List.eraseIdx] at H
                        replace H := H.front 2 rfl
                        dsimp only [List.eraseIdx] at H
                        replace H := H.front 2 rfl
                        dsimp only [List.eraseIdx] at H
                        obtain rfl := Option.some.inj ho10184
                        refine x_A fun a hf => ⟨b10192, c10188, x10185, rfl, hc10189.2, hc10189.1, hf.sub ⟨rfl, rfl, rfl, rfl, rfl, rfl, rfl, rfl, rfl, trivial⟩, H⟩
                  · rintro a wd10217 ⟨b10179, c10180, x10181, rfl, r10182, lp10183, hf, H⟩
                    try dsimp only at hB10144
                    refine CW.at hf <| R_nd <| nq (Q_add rfl rfl) rfl rfl <| nq (Q_move rfl) rfl rfl <| WL_nil ?_
                    replace H := H.front 1 rfl
                    dsimp only [List.eraseIdx] at H
                    replace H := H.front 1 rfl
                    dsimp only [List.eraseIdx] at H
                    replace H := H.drop 2 rfl
                    dsimp only [List.eraseIdx] at H
                    obtain rfl := Option.some.inj hB10144
                    refine x_A fun a hf => ⟨_, rfl, w64 (x10070 + 1), rfl, hf.sub ⟨rfl, rfl, rfl, rfl, rfl, rfl, trivial⟩, H⟩
                · replace hB10144 := itF hb hB10144
                  refine C_exit <| x_then_exit <| x_then_exit <| x_block_exit ?_
                  replace H := H.front 1 rfl
                  dsimp only [List.eraseIdx] at H
                  replace H := H.front 1 rfl
                  dsimp only [List.eraseIdx] at H
                  obtain rfl := Option.some.inj hB10144
                  obtain rfl := hO10145 _ rfl
                  refine x_A fun a hf => ⟨hf.sub ⟨rfl, rfl, rfl, trivial⟩, H⟩
            · rintro a wd10218 ⟨hf, H⟩
              try dsimp only at hB9774
              refine XX.at hf <| x_block ?_
              replace H := H.front 1 rfl
              dsimp only [List.eraseIdx] at H
              replace H := H.front 1 rfl
              dsimp only [List.eraseIdx] at H
              obtain rfl := Option.some.inj hB9774
              refine x_A fun a hf => ⟨_, rfl, false, rfl, hf.sub ⟨rfl, rfl, rfl, trivial⟩, H⟩
          · replace hB9774 := itF hb hB9774
            refine C_exit <| x_then_exit <| x_then_exit <| x_block_exit ?_
            replace H := H.front 1 rfl
            dsimp only [List.eraseIdx] at H
            replace H := H.drop 1 rfl
            dsimp only [List.eraseIdx] at H
            obtain rfl := Option.some.inj hB9774
            obtain rfl := hO9775 _ rfl
            refine x_A fun a hf => ⟨hf.sub ⟨rfl, trivial⟩, H⟩
      · rintro a wd10219 ⟨hf, H⟩
        try dsimp only at hF
        refine XX.at hf <| x_then <| C_seq <| R_nd <| nq (v := .pointer none) (Q_ldB (k := 0) (cs := [.pointer none]) H.ok rfl ty61 rfl rfl rfl (fun _ => rfl) rfl) rfl rfl <| nq (Q_assign rfl) rfl rfl <| WL_nil <| x_then <| C_ret ?_
        replace H := H.drop 0 rfl
        dsimp only [List.eraseIdx] at H
        obtain rfl := Option.some.inj hF
        exact fn_ret (l := [.tmp 2]) (vs := [.pointer none]) rfl rfl rfl (.inl ⟨rfl, rfl, H⟩)
  · try dsimp only at hF
    refine ne (E_alloc H ty61 (zs := [.pointer none]) rfl) rfl rfl ?_
    rintro _ wd10221 ⟨b10220, rfl, H⟩
    refine ne (E_stB (k := 0) (cs := [.pointer (some ⟨b7335, 0, none⟩)]) (vs' := [.pointer (some ⟨b7335, 0, none⟩)]) H rfl ty61 rfl rfl rfl rfl (one_cons rfl one_nil) (by simp) rfl) rfl rfl ?_
    rintro _ wd10222 H
    dsimp only [List.set] at H
    refine WL_nil <| x_then <| C_seq <| C_seq <| R_nd <| nq (v := .pointer (some ⟨b7331, 1, none⟩)) (Q_fld Tryd.underlying25 rfl ty23 (by decide) rfl rfl) rfl rfl <| nq (v := v4) (Q_ldB (k := 3) (cs := [v4]) H.ok rfl ty23 rfl rfl rfl (fun _ => rfl) rfl) rfl rfl <| nq (Q_len Tryd.underlying23 rfl r6) rfl rfl <| nq (Q_move rfl) rfl rfl <| WL_nil <| x_then ?_
    obtain ⟨o10413, ho10413, hF⟩ := bnd hF
    refine C_cutQ (fun a w' => ∃ (c10410 : (List Value)) (x10411 : (List Int)), x10411 = o10413 ∧ rdL (eI .u64) ρ x10411 c10410 ∧ Fr 50 a [(1, .pointer (some ⟨b7331, 0, none⟩)), (3, .pointer (some ⟨b10220, 0, none⟩))] ∧ Hp C w' ρ (Box b7331 [v1, v4, v7] :: Box b10220 [.pointer (some ⟨b7335, 0, none⟩)] :: Box b7335 [v7336, .int .i64 (x2.length : Int)] :: Arr v7336 1 c10410 :: hs)) ?_ ?_
    · refine C_block ?_
      replace H := H.front 2 rfl
      dsimp only [List.eraseIdx] at H
      replace H := H.front 2 rfl
      dsimp only [List.eraseIdx] at H
      replace H := H.front 2 rfl
      dsimp only [List.eraseIdx] at H
      replace H := H.front 3 rfl
      dsimp only [List.eraseIdx] at H
      refine C_iter (f := fun s => F_trim_live_l3 N x2 x5 s.1 s.2) ho10413 (fun s a w' => ∃ (c10476 : (List Value)) (x10475 : Int) (x10477 : (List Int)), (x10475, x10477) = s ∧ rdL (eI .u64) ρ x10477 c10476 ∧ Fr 50 a [(1, .pointer (some ⟨b7331, 0, none⟩)), (3, .pointer (some ⟨b10220, 0, none⟩)), (13, v4), (14, .int .i64 (x5.length : Int)), (15, .int .i64 x10475)] ∧ Hp C w' ρ (Box b7331 [v1, v4, v7] :: Box b10220 [.pointer (some ⟨b7335, 0, none⟩)] :: Box b7335 [v7336, .int .i64 (x2.length : Int)] :: Arr v7336 1 c10476 :: hs)) ?_ ?_
      · exact fun a hf => ⟨c7337, 0, x7338, rfl, r7339, hf.sub ⟨rfl, rfl, rfl, rfl, rfl, trivial⟩, H⟩
      · rintro s o10540 a wd10543 ⟨c10476, x10475, x10477, rfl, r10478, hf, H⟩ hB10541 hO10542
        replace hB10541 : F_trim_live_l3 N x2 x5 x10475 x10477 = some o10540 := hB10541
        unfold F_trim_live_l3 at hB10541
        refine CW.at hf <| C_seq <| R_nd <| nq (Q_lss rfl rfl) rfl rfl <| WL_nil <| x_then <| C_seq ?_
        refine C_cond rfl (fun hb => ?_) (fun hb => ?_)
        · replace hB10541 := itT hb hB10541
          refine C_skip <| x_then ?_
          obtain ⟨o10573, ho10573, hB10541⟩ := bnd hB10541
          refine C_cut (fun a w' => ∃ (c10570 : (List Value)) (x10571 : (List Int)), x10571 = o10573 ∧ rdL (eI .u64) ρ x10571 c10570 ∧ Fr 50 a [(1, .pointer (some ⟨b7331, 0, none⟩)), (3, .pointer (some ⟨b10220, 0, none⟩)), (13, v4), (14, .int .i64 (x5.length : Int)), (15, .int .i64 x10475)] ∧ Hp C w' ρ (Box b7331 [v1, v4, v7] :: Box b10220 [.pointer (some ⟨b7335, 0, none⟩)] :: Box b7335 [v7336, .int .i64 (x2.length : Int)] :: Arr v7336 1 c10570 :: hs)) ?_ ?_
          · refine C_block <| C_seq <| R_nd <| nq (Q_move rfl) rfl rfl ?_
            obtain ⟨x10574, hx10574, ho10573⟩ := bnd ho10573
            obtain ⟨b10575, o10576, c10577, hc10578, ha10579, hi10580⟩ := idxR r6 hx10574
            refine nq (Q_idx hi10580 Tryd.underlying23 ty3 rfl rfl) rfl rfl <| nq (v := .int .i64 x10574) (Q_ld (show cellsAt _ _ _ [.int .i64 x10574] from (show _ = [_] from hc10578) ▸ (ha10579.up H.ok.view)) ty3 rfl (fun _ => rfl) rfl rfl) rfl rfl <| nq (Q_assign rfl) rfl rfl <| nq (Q_assign rfl) rfl rfl <| WL_nil <| x_then <| C_seq <| R_nd <| nq (Q_move rfl) rfl rfl <| nq (Q_neq rfl rfl) rfl rfl <| WL_nil <| x_then ?_
            obtain ⟨o10591, ho10591, ho10573⟩ := bnd ho10573
            refine C_cutQ (fun a w' => ∃ (c10588 : (List Value)) (x10589 : (List Int)), x10589 = o10591 ∧ rdL (eI .u64) ρ x10589 c10588 ∧ Fr 50 a [(1, .pointer (some ⟨b7331, 0, none⟩)), (3, .pointer (some ⟨b10220, 0, none⟩)), (13, v4), (14, .int .i64 (x5.length : Int)), (15, .int .i64 x10475)] ∧ Hp C w' ρ (Box b7331 [v1, v4, v7] :: Box b10220 [.pointer (some ⟨b7335, 0, none⟩)] :: Box b7335 [v7336, .int .i64 (x2.length : Int)] :: Arr v7336 1 c10588 :: hs)) ?_ ?_
            · refine C_cond rfl (fun hb => ?_) (fun hb => ?_)
              · replace ho10591 := itT hb ho10591
                refine R_nd <| nq (v := .pointer (some ⟨b7335, 0, none⟩)) (Q_ldB (k := 1) (cs := [.pointer (some ⟨b7335, 0, none⟩)]) H.ok rfl ty61 rfl rfl rfl (fun _ => rfl) rfl) rfl rfl <| nq (Q_move rfl) rfl rfl ?_
                replace H := H.front 3 rfl
                dsimp only [List.eraseIdx] at H
                replace H := H.front 3 rfl
                dsimp only [List.eraseIdx] at H
                obtain ⟨q10592, hq10592, ho10591⟩ := bnd ho10591
                refine ne (E_call fn52 rfl (c_52 H  r10478 hq10592)) rfl rfl ?_
                rintro _ wd10598 ⟨c10594, x10595, x10596, rfl, rfl, r10597, H⟩
                try dsimp only at ho10591
                refine WL_nil ?_
                replace H := H.front 1 rfl
                dsimp only [List.eraseIdx] at H
                replace H := H.front 1 rfl
                dsimp only [List.eraseIdx] at H
                replace H := H.front 3 rfl
                dsimp only [List.eraseIdx] at H
                replace H := H.front 3 rfl
                dsimp only [List.eraseIdx] at H
                obtain rfl := Option.some.inj ho10591
                refine x_A fun a hf => ⟨c10594, x10595, rfl, r10597, hf.sub ⟨rfl, rfl, rfl, rfl, rfl, trivial⟩, H⟩
              · replace ho10591 := itF hb ho10591
                refine C_skip ?_
                replace H := H.front 3 rfl
                dsimp only [List.eraseIdx] at H
                replace H := H.front 3 rfl
                dsimp only [List.eraseIdx] at H
                replace H := H.front 3 rfl
                dsimp only [List.eraseIdx] at H
                replace H := H.front 3 rfl
                dsimp only [List.eraseIdx] at H
                obtain rfl := Option.some.inj ho10591
                refine x_A fun a hf => ⟨c10476, x10477, rfl, r10478, hf.sub ⟨rfl, rfl, rfl, rfl, rfl, trivial⟩, H⟩
            · rintro a wd10599 ⟨c10588, x10589, rfl, r10590, hf, H⟩
              try dsimp only at ho10573
              refine XX.at hf <| x_block ?_
              replace H := H.front 3 rfl
              dsimp only [List.eraseIdx] at H
              replace H := H.front 3 rfl
              dsimp only [List.eraseIdx] at H
              replace H := H.front 3 rfl
              dsimp only [List.eraseIdx] at H
              replace H := H.front 3 rfl
              dsimp only [List.eraseIdx] at H
              obtain rfl := Option.some.inj ho10573
              refine x_A fun a hf => ⟨c10588, x10589, rfl, r10590, hf.sub ⟨rfl, rfl, rfl, rfl, rfl, trivial⟩, H⟩
          · rintro a wd10600 ⟨c10570, x10571, rfl, r10572, hf, H⟩
            try dsimp only at hB10541
            refine CW.at hf <| R_nd <| nq (Q_add rfl rfl) rfl rfl <| nq (Q_move rfl) rfl rfl <| WL_nil ?_
            replace H := H.front 3 rfl
            dsimp only [List.eraseIdx] at H
            replace H := H.front 3 rfl
            dsimp only [List.eraseIdx] at H
            replace H := H.front 3 rfl
            dsimp only [List.eraseIdx] at H
            replace H := H.front 3 rfl
            dsimp only [List.eraseIdx] at H
            obtain rfl := Option.some.inj hB10541
            refine x_A fun a hf => ⟨_, rfl, c10570, w64 (x10475 + 1), x10571, rfl, r10572, hf.sub ⟨rfl, rfl, rfl, rfl, rfl, trivial⟩, H⟩
        · replace hB10541 := itF hb hB10541
          refine C_exit <| x_then_exit <| x_then_exit <| x_block_exit ?_
          replace H := H.front 3 rfl
          dsimp only [List.eraseIdx] at H
          replace H := H.front 3 rfl
          dsimp only [List.eraseIdx] at H
          replace H := H.front 3 rfl
          dsimp only [List.eraseIdx] at H
          replace H := H.front 3 rfl
          dsimp only [List.eraseIdx] at H
          obtain rfl := Option.some.inj hB10541
          obtain rfl := hO10542 _ rfl
          refine x_A fun a hf => ⟨c10476, x10477, rfl, r10478, hf.sub ⟨rfl, rfl, trivial⟩, H⟩
    · rintro a wd10601 ⟨c10410, x10411, rfl, r10412, hf, H⟩
      try dsimp only at hF
      refine XX.at hf <| x_then <| C_seq <| C_seq <| R_nd <| nq (Q_assign rfl) rfl rfl <| WL_nil <| x_then ?_
      obtain ⟨o12625, ho12625, hF⟩ := bnd hF
      refine C_cutQ (fun a w' => ∃ (c12622 : (List Value)) (x12623 : (List Int)), x12623 = o12625 ∧ rdL (eI .u64) ρ x12623 c12622 ∧ Fr 50 a [(3, .pointer (some ⟨b10220, 0, none⟩))] ∧ Hp C w' ρ (Box b10220 [.pointer (some ⟨b7335, 0, none⟩)] :: Box b7335 [v7336, .int .i64 (x2.length : Int)] :: Arr v7336 1 c12622 :: hs)) ?_ ?_
      · refine C_block ?_
        replace H := H.front 3 rfl
        dsimp only [List.eraseIdx] at H
        replace H := H.front 3 rfl
        dsimp only [List.eraseIdx] at H
        replace H := H.front 3 rfl
        dsimp only [List.eraseIdx] at H
        replace H := H.front 3 rfl
        dsimp only [List.eraseIdx] at H
        refine C_iter (f := fun s => F_trim_live_l4 N x2 s.1 s.2) ho12625 (fun s a w' => ∃ (c13298 : (List Value)) (x13299 : (List Int)) (x13301 : Bool), (x13299, x13301) = s ∧ rdL (eI .u64) ρ x13299 c13298 ∧ Fr 50 a [(1, .pointer (some ⟨b7331, 0, none⟩)), (3, .pointer (some ⟨b10220, 0, none⟩)), (6, .bool x13301)] ∧ Hp C w' ρ (Box b7331 [v1, v4, v7] :: Box b10220 [.pointer (some ⟨b7335, 0, none⟩)] :: Box b7335 [v7336, .int .i64 (x2.length : Int)] :: Arr v7336 1 c13298 :: hs)) ?_ ?_
        · exact fun a hf => ⟨c10410, x10411, true, rfl, r10412, hf.sub ⟨rfl, rfl, rfl, trivial⟩, H⟩
        · rintro s o13974 a wd13977 ⟨c13298, x13299, x13301, rfl, r13300, hf, H⟩ hB13975 hO13976
          replace hB13975 : F_trim_live_l4 N x2 x13299 x13301 = some o13974 := hB13975
          unfold F_trim_live_l4 at hB13975
          refine CW.at hf <| C_seq <| C_seq <| R_nd <| nq (Q_move rfl) rfl rfl <| WL_nil <| x_then ?_
          refine C_cond rfl (fun hb => ?_) (fun hb => ?_)
          · replace hB13975 := itT hb hB13975
            refine C_skip <| x_then <| C_block <| C_seq <| R_nd <| nq (Q_assign rfl) rfl rfl <| WL_nil <| x_then <| C_seq <| R_nd <| nq (v := .pointer (some ⟨b7331, 0, none⟩)) (Q_fld Tryd.underlying25 rfl ty22 (by decide) rfl rfl) rfl rfl <| nq (v := v1) (Q_ldB (k := 0) (cs := [v1]) H.ok rfl ty22 rfl rfl rfl (fun _ => rfl) rfl) rfl rfl <| nq (Q_len Tryd.underlying22 rfl r3) rfl rfl <| nq (Q_move rfl) rfl rfl ?_
            refine WL_nil <| x_then ?_
            obtain ⟨o14313, ho14313, hB13975⟩ := bnd hB13975
            refine C_cutQ (fun a w' => ∃ (c14309 : (List Value)) (x14310 : (List Int)) (x14312 : Bool), (x14310, x14312) = o14313 ∧ rdL (eI .u64) ρ x14310 c14309 ∧ Fr 50 a [(1, .pointer (some ⟨b7331, 0, none⟩)), (3, .pointer (some ⟨b10220, 0, none⟩)), (6, .bool x14312)] ∧ Hp C w' ρ (Box b7331 [v1, v4, v7] :: Box b10220 [.pointer (some ⟨b7335, 0, none⟩)] :: Box b7335 [v7336, .int .i64 (x2.length : Int)] :: Arr v7336 1 c14309 :: hs)) ?_ ?_
            · refine C_block ?_
              replace H := H.front 3 rfl
              dsimp only [List.eraseIdx] at H
              replace H := H.front 3 rfl
              dsimp only [List.eraseIdx] at H
              replace H := H.front 3 rfl
              dsimp only [List.eraseIdx] at H
              replace H := H.front 3 rfl
              dsimp only [List.eraseIdx] at H
              refine C_iter (f := fun s => F_trim_live_l5 N x2 s.1 s.2.1 s.2.2) ho14313 (fun s a w' => ∃ (c14423 : (List Value)) (x14424 : (List Int)) (x14426 : Int) (x14427 : Bool), (x14424, x14426, x14427) = s ∧ rdL (eI .u64) ρ x14424 c14423 ∧ Fr 50 a [(1, .pointer (some ⟨b7331, 0, none⟩)), (3, .pointer (some ⟨b10220, 0, none⟩)), (6, .bool x14427), (28, v1), (29, .int .i64 (x2.length : Int)), (30, .int .i64 x14426)] ∧ Hp C w' ρ (Box b7331 [v1, v4, v7] :: Box b10220 [.pointer (some ⟨b7335, 0, none⟩)] :: Box b7335 [v7336, .int .i64 (x2.length : Int)] :: Arr v7336 1 c14423 :: hs)) ?_ ?_
              · exact fun a hf => ⟨c13298, x13299, 0, false, rfl, r13300, hf.sub ⟨rfl, rfl, rfl, rfl, rfl, rfl, trivial⟩, H⟩
              · rintro s o14537 a wd14540 ⟨c14423, x14424, x14426, x14427, rfl, r14425, hf, H⟩ hB14538 hO14539
                replace hB14538 : F_trim_live_l5 N x2 x14424 x14426 x14427 = some o14537 := hB14538
                unfold F_trim_live_l5 at hB14538
                refine CW.at hf <| C_seq <| R_nd <| nq (Q_lss rfl rfl) rfl rfl <| WL_nil <| x_then <| C_seq ?_
                refine C_cond rfl (fun hb => ?_) (fun hb => ?_)
                · replace hB14538 := itT hb hB14538
                  refine C_skip <| x_then ?_
                  obtain ⟨o14594, ho14594, hB14538⟩ := bnd hB14538
                  refine C_cut (fun a w' => ∃ (c14590 : (List Value)) (x14591 : (List Int)) (x14593 : Bool), (x14591, x14593) = o14594 ∧ rdL (eI .u64) ρ x14591 c14590 ∧ Fr 50 a [(1, .pointer (some ⟨b7331, 0, none⟩)), (3, .pointer (some ⟨b10220, 0, none⟩)), (6, .bool x14593), (28, v1), (29, .int .i64 (x2.length : Int)), (30, .int .i64 x14426)] ∧ Hp C w' ρ (Box b7331 [v1, v4, v7] :: Box b10220 [.pointer (some ⟨b7335, 0, none⟩)] :: Box b7335 [v7336, .int .i64 (x2.length : Int)] :: Arr v7336 1 c14590 :: hs)) ?_ ?_
                  · refine C_block <| C_seq <| R_nd <| nq (Q_move rfl) rfl rfl ?_
                    obtain ⟨x14595, hx14595, ho14594⟩ := bnd ho14594
                    obtain ⟨b14596, o14597, c14598, hc14599, ha14600, hi14601⟩ := idxR r3 hx14595
                    refine nq (Q_idx hi14601 Tryd.underlying22 ty58 rfl rfl) rfl rfl <| nq (v := .agg c14598.toArray) (Q_ld (ha14600.up H.ok.view) ty58 ((eA 256 (eI .i64)).len hc14599) (fun h => nomatch h) rfl rfl) rfl rfl <| ne (E_allocA (N := 256) (n := 1) (zs := (repC 256 [.int .i64 0])) H ty58 rfl (by simp [repC_length])) rfl rfl ?_
                    rintro _ wd14603 ⟨b14602, rfl, H⟩
                    refine nq (Q_assign rfl) rfl rfl <| ne (E_stW (k := 0) H rfl ty58 rfl rfl (rdL.one hc14599.2) (arr_clen (rdL_rep (e:=(eI .i64)) (ρ:=ρ) (rfl) 256) List.length_replicate) (arr_clen hc14599.2 hc14599.1)) rfl rfl ?_
                    rintro _ wd14604 H
                    dsimp only [List.set] at H
                    refine WL_nil <| x_then <| C_seq <| R_nd <| nq (v := .func (.func 84) #[] [.pointer (some ⟨b10220, 0, none⟩)].toArray) (Q_func rfl) rfl rfl <| nq (Q_assign rfl) rfl rfl <| WL_nil <| x_then ?_
                    obtain ⟨o14614, ho14614, ho14594⟩ := bnd ho14594
                    refine C_cut (fun a w' => ∃ (x14613 : Bool), x14613 = o14614 ∧ Fr 50 a [(1, .pointer (some ⟨b7331, 0, none⟩)), (3, .pointer (some ⟨b10220, 0, none⟩)), (6, .bool x14427), (7, .int .i64 x14426), (28, v1), (29, .int .i64 (x2.length : Int)), (30, .int .i64 x14426), (44, .bool x14613)] ∧ Hp C w' ρ (Box b7331 [v1, v4, v7] :: Box b10220 [.pointer (some ⟨b7335, 0, none⟩)] :: Box b7335 [v7336, .int .i64 (x2.length : Int)] :: Arr v7336 1 c14423 :: hs)) ?_ ?_
                    · refine R_nd <| nq (v := .pointer (some ⟨b7335, 0, none⟩)) (Q_ldB (k := 2) (cs := [.pointer (some ⟨b7335, 0, none⟩)]) H.ok rfl ty61 rfl rfl rfl (fun _ => rfl) rfl) rfl rfl <| nq (Q_move rfl) rfl rfl ?_
                      replace H := H.front 4 rfl
                      dsimp only [List.eraseIdx] at H
                      replace H := H.front 4 rfl
                      dsimp only [List.eraseIdx] at H
                      obtain ⟨q14615, hq14615, ho14614⟩ := bnd ho14614
                      refine ne (E_call fn81 rfl (c_81_1 H  r14425 hq14615)) rfl rfl ?_
                      rintro _ wd14618 ⟨x14617, rfl, rfl, H⟩
                      try dsimp only at ho14614
                      refine nq (Q_not rfl) rfl rfl <| nq (Q_move rfl) rfl rfl ?_
                      rcases Bool.eq_false_or_eq_true (!x14617) with hb | hb
                      · rw [hb]
                        replace ho14614 := itT hb ho14614
                        refine gq (v := (.slice (some ⟨b14602, 0, none⟩) 256 256)) (Q_slA Tryd.underlying58 ty3 rfl) rfl rfl rfl <| gq (Q_move rfl) rfl rfl rfl ?_
                        replace H := H.front 2 rfl
                        dsimp only [List.eraseIdx] at H
                        replace H := H.front 2 rfl
                        dsimp only [List.eraseIdx] at H
                        replace H := H.front 2 rfl
                        dsimp only [List.eraseIdx] at H
                        replace H := H.front 4 rfl
                        dsimp only [List.eraseIdx] at H
                        obtain ⟨q14619, hq14619, ho14614⟩ := bnd ho14614
                        obtain ⟨C', ρ', hl14620, HA, hL, hback⟩ := Hp.lend (A := [Box b10220 [.pointer (some ⟨b7335, 0, none⟩)], Box b7335 [v7336, .int .i64 (x2.length : Int)], Arr v7336 1 c14423]) (L := [Arr (.slice (some ⟨b14602, 0, none⟩) 256 256) 1 c14598]) (F := Box b7331 [v1, v4, v7] :: hs) H
                        refine ge (E_call fn58 rfl (c_58_3 HA  (arr_rd (by decide) hl14620 (hL (Arr (.slice (some ⟨b14602, 0, none⟩) 256 256) 1 c14598) (by simp)) hc14599.2) (r14425.up hl14620) hq14619)) rfl rfl rfl ?_
                        rintro _ wd14622 ⟨x14621, rfl, rfl, H⟩
                        try dsimp only at ho14614
                        replace H := hback H
                        dsimp only [List.cons_append, List.nil_append] at H
                        refine nq (Q_pickT rfl rfl) rfl rfl <| WL_nil ?_
                        replace H := H.front 2 rfl
                        dsimp only [List.eraseIdx] at H
                        replace H := H.front 2 rfl
                        dsimp only [List.eraseIdx] at H
                        replace H := H.front 2 rfl
                        dsimp only [List.eraseIdx] at H
                        replace H := H.front 4 rfl
                        dsimp only [List.eraseIdx] at H
                        replace H := H.drop 4 rfl
                        dsimp only [List.eraseIdx] at H
                        obtain rfl := Option.some.inj ho14614
                        refine x_A fun a hf => ⟨x14621, rfl, hf.sub ⟨rfl, rfl, rfl, rfl, rfl, rfl, rfl, rfl, trivial⟩, H⟩
                      · rw [hb]
                        replace ho14614 := itF hb ho14614
                        refine gs rfl rfl rfl rfl <| gs rfl rfl rfl rfl <| gs rfl rfl rfl rfl <| nq (Q_pickF rfl rfl) rfl rfl <| WL_nil ?_
                        replace H := H.front 1 rfl
                        dsimp only [List.eraseIdx] at H
                        replace H := H.front 1 rfl
                        dsimp only [List.eraseIdx] at H
                        replace H := H.front 4 rfl
                        dsimp only [List.eraseIdx] at H
                        replace H := H.front 4 rfl
                        dsimp only [List.eraseIdx] at H
                        replace H := H.drop 4 rfl
                        dsimp only [List.eraseIdx] at H
                        obtain rfl := Option.some.inj ho14614
                        refine x_A fun a hf => ⟨false, rfl, hf.sub ⟨rfl, rfl, rfl, rfl, rfl, rfl, rfl, rfl, trivial⟩, H⟩
                    · rintro a wd14623 ⟨x14613, rfl, hf, H⟩
                      try dsimp only at ho14594
                      refine CW.at hf ?_
                      obtain ⟨o14635, ho14635, ho14594⟩ := bnd ho14594
                      refine C_cutQ (fun a w' => ∃ (c14631 : (List Value)) (x14632 : (List Int)) (x14634 : Bool), (x14632, x14634) = o14635 ∧ rdL (eI .u64) ρ x14632 c14631 ∧ Fr 50 a [(1, .pointer (some ⟨b7331, 0, none⟩)), (3, .pointer (some ⟨b10220, 0, none⟩)), (6, .bool x14634), (28, v1), (29, .int .i64 (x2.length : Int)), (30, .int .i64 x14426)] ∧ Hp C w' ρ (Box b7331 [v1, v4, v7] :: Box b10220 [.pointer (some ⟨b7335, 0, none⟩)] :: Box b7335 [v7336, .int .i64 (x2.length : Int)] :: Arr v7336 1 c14631 :: hs)) ?_ ?_
                      · refine C_cond rfl (fun hb => ?_) (fun hb => ?_)
                        · replace ho14635 := itT hb ho14635
                          refine R_nd <| nq (v := .pointer (some ⟨b7335, 0, none⟩)) (Q_ldB (k := 1) (cs := [.pointer (some ⟨b7335, 0, none⟩)]) H.ok rfl ty61 rfl rfl rfl (fun _ => rfl) rfl) rfl rfl <| nq (Q_move rfl) rfl rfl ?_
                          replace H := H.front 3 rfl
                          dsimp only [List.eraseIdx] at H
                          replace H := H.front 3 rfl
                          dsimp only [List.eraseIdx] at H
                          obtain ⟨q14636, hq14636, ho14635⟩ := bnd ho14635
                          refine ne (E_call fn52 rfl (c_52 H  r14425 hq14636)) rfl rfl ?_
                          rintro _ wd14642 ⟨c14638, x14639, x14640, rfl, rfl, r14641, H⟩
                          try dsimp only at ho14635
                          refine nq (Q_assign rfl) rfl rfl <| WL_nil ?_
                          replace H := H.front 1 rfl
                          dsimp only [List.eraseIdx] at H
                          replace H := H.front 1 rfl
                          dsimp only [List.eraseIdx] at H
                          replace H := H.front 3 rfl
                          dsimp only [List.eraseIdx] at H
                          replace H := H.front 3 rfl
                          dsimp only [List.eraseIdx] at H
                          obtain rfl := Option.some.inj ho14635
                          refine x_A fun a hf => ⟨c14638, x14639, x14640, rfl, r14641, hf.sub ⟨rfl, rfl, rfl, rfl, rfl, rfl, trivial⟩, H⟩
                        · replace ho14635 := itF hb ho14635
                          refine C_skip ?_
                          replace H := H.front 3 rfl
                          dsimp only [List.eraseIdx] at H
                          replace H := H.front 3 rfl
                          dsimp only [List.eraseIdx] at H
                          replace H := H.front 3 rfl
                          dsimp only [List.eraseIdx] at H
                          replace H := H.front 3 rfl
                          dsimp only [List.eraseIdx] at H
                          obtain rfl := Option.some.inj ho14635
                          refine x_A fun a hf => ⟨c14423, x14424, x14427, rfl, r14425, hf.sub ⟨rfl, rfl, rfl, rfl, rfl, rfl, trivial⟩, H⟩
                      · rintro a wd14643 ⟨c14631, x14632, x14634, rfl, r14633, hf, H⟩
                        try dsimp only at ho14594
                        refine XX.at hf <| x_block ?_
                        replace H := H.front 3 rfl
                        dsimp only [List.eraseIdx] at H
                        replace H := H.front 3 rfl
                        dsimp only [List.eraseIdx] at H
                        replace H := H.front 3 rfl
                        dsimp only [List.eraseIdx] at H
                        replace H := H.front 3 rfl
                        dsimp only [List.eraseIdx] at H
                        obtain rfl := Option.some.inj ho14594
                        refine x_A fun a hf => ⟨c14631, x14632, x14634, rfl, r14633, hf.sub ⟨rfl, rfl, rfl, rfl, rfl, rfl, trivial⟩, H⟩
                  · rintro a wd14644 ⟨c14590, x14591, x14593, rfl, r14592, hf, H⟩
                    try dsimp only at hB14538
                    refine CW.at hf <| R_nd <| nq (Q_add rfl rfl) rfl rfl <| nq (Q_move rfl) rfl rfl <| WL_nil ?_
                    replace H := H.front 3 rfl
                    dsimp only [List.eraseIdx] at H
                    replace H := H.front 3 rfl
                    dsimp only [List.eraseIdx] at H
                    replace H := H.front 3 rfl
                    dsimp only [List.eraseIdx] at H
                    replace H := H.front 3 rfl
                    dsimp only [List.eraseIdx] at H
                    obtain rfl := Option.some.inj hB14538
                    refine x_A fun a hf => ⟨_, rfl, c14590, x14591, w64 (x14426 + 1), x14593, rfl, r14592, hf.sub ⟨rfl, rfl, rfl, rfl, rfl, rfl, trivial⟩, H⟩
                · replace hB14538 := itF hb hB14538
                  refine C_exit <| x_then_exit <| x_then_exit <| x_block_exit ?_
                  replace H := H.front 3 rfl
                  dsimp only [List.eraseIdx] at H
                  replace H := H.front 3 rfl
                  dsimp only [List.eraseIdx] at H
                  replace H := H.front 3 rfl
                  dsimp only [List.eraseIdx] at H
                  replace H := H.front 3 rfl
                  dsimp only [List.eraseIdx] at H
                  obtain rfl := Option.some.inj hB14538
                  obtain rfl := hO14539 _ rfl
                  refine x_A fun a hf => ⟨c14423, x14424, x14427, rfl, r14425, hf.sub ⟨rfl, rfl, rfl, trivial⟩, H⟩
            · rintro a wd14645 ⟨c14309, x14310, x14312, rfl, r14311, hf, H⟩
              try dsimp only at hB13975
              refine XX.at hf <| x_block ?_
              replace H := H.front 3 rfl
              dsimp only [List.eraseIdx] at H
              replace H := H.front 3 rfl
              dsimp only [List.eraseIdx] at H
              replace H := H.front 3 rfl
              dsimp only [List.eraseIdx] at H
              replace H := H.front 3 rfl
              dsimp only [List.eraseIdx] at H
              obtain rfl := Option.some.inj hB13975
              refine x_A fun a hf => ⟨_, rfl, c14309, x14310, x14312, rfl, r14311, hf.sub ⟨rfl, rfl, rfl, trivial⟩, H⟩
          · replace hB13975 := itF hb hB13975
            refine C_exit <| x_then_exit <| x_then_exit <| x_block_exit ?_
            replace H := H.front 3 rfl
            dsimp only [List.eraseIdx] at H
            replace H := H.front 3 rfl
            dsimp only [List.eraseIdx] at H
            replace H := H.front 3 rfl
            dsimp only [List.eraseIdx] at H
            replace H := H.drop 3 rfl
            dsimp only [List.eraseIdx] at H
            obtain rfl := Option.some.inj hB13975
            obtain rfl := hO13976 _ rfl
            refine x_A fun a hf => ⟨c13298, x13299, rfl, r13300, hf.sub ⟨rfl, trivial⟩, H⟩
      · rintro a wd14646 ⟨c12622, x12623, rfl, r12624, hf, H⟩
        try dsimp only at hF
        refine XX.at hf <| x_then <| C_seq <| R_nd <| nq (v := .pointer (some ⟨b7335, 0, none⟩)) (Q_ldB (k := 0) (cs := [.pointer (some ⟨b7335, 0, none⟩)]) H.ok rfl ty61 rfl rfl rfl (fun _ => rfl) rfl) rfl rfl <| nq (Q_assign rfl) rfl rfl <| WL_nil <| x_then <| C_ret ?_
        replace H := H.front 2 rfl
        dsimp only [List.eraseIdx] at H
        replace H := H.front 2 rfl
        dsimp only [List.eraseIdx] at H
        replace H := H.drop 2 rfl
        dsimp only [List.eraseIdx] at H
        obtain rfl := Option.some.inj hF
        exact fn_ret (l := [.tmp 2]) (vs := [.pointer (some ⟨b7335, 0, none⟩)]) rfl rfl rfl (.inr ⟨b7335, v7336, c12622, x12623, rfl, rfl, r12624, H⟩)
end Go.Proofs.YteiaphkejkgfkaaDoor
