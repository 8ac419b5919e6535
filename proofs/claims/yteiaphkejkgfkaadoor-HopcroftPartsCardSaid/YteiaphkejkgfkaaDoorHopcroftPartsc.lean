/-
  The walks of the law HopcroftParts, printed by my program, part 3: each function of the code computes its pure function.
-/
import Derived.Test.YteiaphkejkgfkaaDoorHopcroftPartsb
namespace Go.Proofs.YteiaphkejkgfkaaDoor
open Go Go.Eng
set_option maxRecDepth 100000
theorem c_44 {N : Nat} {C : Cx} {w : World} {ρ : View} {hs : List Hl} {v1 : Value} {v4 : Value} {v7 : Value} {x2 : (List (List Int))} {x5 : (List Int)} {x8 : (List Int)} (H : Hp C w ρ (hs)) (r3 : RdSl ρ (eA 256 (eI .i64)) v1 x2) (r6 : RdSl ρ (eI .i64) v4 x5) (r9 : RdSl ρ (eI .i64) v7 x8) {r : (List Int)} (hF : F_hopcroft_Parts N x2 x5 x8 = some r) :
    Calls Tryd.prog 44 [.agg #[v1, v4, v7]].toArray w (Rets (fun v w' => (∃ (v24 : Value) (c25 : (List Value)) (x26 : (List Int)), x26 = r ∧ v24 = v ∧ rdL (eI .i64) ρ x26 c25 ∧ Hp C w' ρ (Arr v24 1 c25 :: hs)))) := by
  unfold F_hopcroft_Parts at hF
  have h0 : Tryd.f44.body = some _ := rfl
  refine fn_calls' Tryd.func44 h0 (n := 14) rfl (by simp) <| C_seq <| R_nd <| ne (E_box H (vs := [v1, v4, v7]) rfl rfl) rfl rfl ?_
  rintro _ wd29 ⟨b28, rfl, H⟩
  refine nq (Q_assign rfl) rfl rfl <| WL_nil <| x_then <| C_seq <| C_seq <| R_nd <| nq (v := .agg #[v1, v4, v7]) (Q_ldB (k := 0) (cs := [v1, v4, v7]) H.ok rfl ty25 rfl rfl rfl (fun h => nomatch h) rfl) rfl rfl ?_
  obtain ⟨q30, hq30, hF⟩ := bnd hF
  refine ne (E_call fn26 rfl (c_26 H  r3 r6 r9 hq30)) rfl rfl ?_
  rintro _ wd33 ⟨x32, rfl, rfl, H⟩
  try dsimp only at hF
  refine nq (Q_not rfl) rfl rfl <| WL_nil <| x_then ?_
  refine C_cond rfl (fun hb => ?_) (fun hb => ?_)
  · replace hF := itT hb hF
    refine C_seq <| R_nd <| nq (Q_assign rfl) rfl rfl <| WL_nil <| x_then <| C_ret <| x_then_ret ?_
    have H := H.nilArr 1
    replace H := H.drop 1 rfl
    dsimp only [List.eraseIdx] at H
    obtain rfl := Option.some.inj hF
    exact fn_ret (l := [.tmp 2]) (vs := [(.slice none 0 0)]) rfl rfl rfl ⟨(.slice none 0 0), [], [], rfl, rfl, rdL.nil, H⟩
  · replace hF := itF hb hF
    refine C_skip <| x_then <| C_seq <| R_nd <| nq (v := .agg #[v1, v4, v7]) (Q_ldB (k := 0) (cs := [v1, v4, v7]) H.ok rfl ty25 rfl rfl rfl (fun h => nomatch h) rfl) rfl rfl ?_
    obtain ⟨q34, hq34, hF⟩ := bnd hF
    refine ne (E_call fn72 rfl (c_72 H  r3 r6 r9 hq34)) rfl rfl ?_
    rintro _ wd41 ⟨v36, c37, x38, x39, rfl, rfl, r40, H⟩
    try dsimp only at hF
    refine nq (Q_move rfl) rfl rfl <| nq (Q_extract rfl rfl) rfl rfl <| nq (Q_extract rfl rfl) rfl rfl <| nq (Q_assign rfl) rfl rfl <| nq (Q_assign rfl) rfl rfl <| WL_nil <| x_then <| C_seq <| R_nd <| nq (Q_move rfl) rfl rfl <| nq (Q_assign rfl) rfl rfl <| WL_nil <| x_then <| C_ret ?_
    replace H := H.drop 1 rfl
    dsimp only [List.eraseIdx] at H
    obtain rfl := Option.some.inj hF
    exact fn_ret (l := [.tmp 2]) (vs := [v36]) rfl rfl rfl ⟨v36, c37, x38, rfl, rfl, r40, H⟩
theorem c_42 {N : Nat} {C : Cx} {w : World} {ρ : View} {hs : List Hl} (H : Hp C w ρ (hs)) {r : Bool} (hF : F_dofferlaw19_alive N = some r) :
    Calls Tryd.prog 42 [].toArray w (Rets (fun v w' => (∃ (x27 : Bool), x27 = r ∧ .bool x27 = v ∧ Hp C w' ρ (hs)))) := by
  unfold F_dofferlaw19_alive at hF
  have h0 : Tryd.f42.body = some _ := rfl
  refine fn_calls' Tryd.func42 h0 (n := 5) rfl (by simp) <| C_seq <| R_nd <| nq (Q_assign rfl) rfl rfl <| WL_nil <| x_then <| C_seq <| R_nd ?_
  obtain ⟨q28, hq28, hF⟩ := bnd hF
  refine ne (E_call fn71 rfl (c_71 H   hq28)) rfl rfl ?_
  rintro _ wd40 ⟨v30, c31, v32, c33, v34, c35, x36, rfl, rfl, r37, r38, r39, H⟩
  try dsimp only at hF
  replace H := H.front 2 rfl
  dsimp only [List.eraseIdx] at H
  replace H := H.front 2 rfl
  dsimp only [List.eraseIdx] at H
  replace H := H.front 2 rfl
  dsimp only [List.eraseIdx] at H
  obtain ⟨q41, hq41, hF⟩ := bnd hF
  obtain ⟨C', ρ', hl42, HA, hL, hback⟩ := Hp.lend (A := []) (L := [Arr v30 256 c31, Arr v32 1 c33, Arr v34 1 c35]) (F := hs) H
  refine ne (E_call fn44 rfl (c_44 HA  (arr_rd (by decide) hl42 (hL (Arr v30 256 c31) (by simp)) r37) (arr_rd (by decide) hl42 (hL (Arr v32 1 c33) (by simp)) r38) (arr_rd (by decide) hl42 (hL (Arr v34 1 c35) (by simp)) r39) hq41)) rfl rfl ?_
  rintro _ wd47 ⟨v43, c44, x45, rfl, rfl, r46, H⟩
  try dsimp only at hF
  replace H := hback H
  replace r46 := rdL.flat (ρ := ρ') (ρ' := ρ) (flat_I _) r46
  dsimp only [List.cons_append, List.nil_append] at H
  refine ne (E_bslice (xs := [.const (.int .i64 0), .const (.int .i64 1), .const (.int .i64 1)]) (vs := [.int .i64 0, .int .i64 1, .int .i64 1]) H Tryd.underlying23 ty3 (by decide) (cs := [.int .i64 0, .int .i64 1, .int .i64 1]) rfl (sz_cons rfl (sz_cons rfl (sz_cons rfl sz_nil))) rfl (by simp) (by simp) rfl rfl) rfl rfl ?_
  rintro _ wd49 ⟨b48, rfl, H⟩
  replace H := H.front 1 rfl
  dsimp only [List.eraseIdx] at H
  obtain ⟨q50, hq50, hF⟩ := bnd hF
  obtain ⟨C', ρ', hl51, HA, hL, hback⟩ := Hp.lend (A := []) (L := [Arr v43 1 c44, Arr (.slice (some ⟨b48, 0, none⟩) 3 3) 1 ([.int .i64 0, .int .i64 1, .int .i64 1])]) (F := Arr v30 256 c31 :: Arr v32 1 c33 :: Arr v34 1 c35 :: hs) H
  refine ne (E_call fn22 rfl (c_22 HA  (arr_rd (by decide) hl51 (hL (Arr v43 1 c44) (by simp)) r46) (arr_rd (by decide) hl51 (hL (Arr (.slice (some ⟨b48, 0, none⟩) 3 3) 1 ([.int .i64 0, .int .i64 1, .int .i64 1])) (by simp)) (show rdL (eI .i64) ρ ([0, 1, 1]) ([.int .i64 0, .int .i64 1, .int .i64 1]) from ⟨([.int .i64 0]), _, rfl, rfl, ⟨([.int .i64 1]), _, rfl, rfl, ⟨([.int .i64 1]), _, rfl, rfl, rdL.nil⟩⟩⟩)) hq50)) rfl rfl ?_
  rintro _ wd53 ⟨x52, rfl, rfl, H⟩
  try dsimp only at hF
  replace H := hback H
  dsimp only [List.cons_append, List.nil_append] at H
  refine nq (Q_assign rfl) rfl rfl <| WL_nil <| x_then <| C_ret ?_
  replace H := H.drop 0 rfl
  dsimp only [List.eraseIdx] at H
  replace H := H.drop 0 rfl
  dsimp only [List.eraseIdx] at H
  replace H := H.drop 0 rfl
  dsimp only [List.eraseIdx] at H
  replace H := H.drop 0 rfl
  dsimp only [List.eraseIdx] at H
  replace H := H.drop 0 rfl
  dsimp only [List.eraseIdx] at H
  obtain rfl := Option.some.inj hF
  exact fn_ret (l := [.tmp 0]) (vs := [.bool x52]) rfl rfl rfl ⟨x52, rfl, rfl, H⟩
theorem c_43 {N : Nat} {C : Cx} {w : World} {ρ : View} {hs : List Hl} {v1 : Value} {v4 : Value} {v7 : Value} {x2 : (List (List Int))} {x5 : (List Int)} {x8 : (List Int)} (H : Hp C w ρ (hs)) (r3 : RdSl ρ (eA 256 (eI .i64)) v1 x2) (r6 : RdSl ρ (eI .i64) v4 x5) (r9 : RdSl ρ (eI .i64) v7 x8) {r : ((List (List Int)) × (List Int) × (List Int))} (hF : F_hopcroft_Merge N x2 x5 x8 = some r) :
    Calls Tryd.prog 43 [.agg #[v1, v4, v7]].toArray w (Rets (fun v w' => (∃ (v2839 : Value) (c2840 : (List Value)) (v2843 : Value) (c2844 : (List Value)) (v2847 : Value) (c2848 : (List Value)) (x2841 : (List (List Int))) (x2845 : (List Int)) (x2849 : (List Int)), (x2841, x2845, x2849) = r ∧ .agg #[v2839, v2843, v2847] = v ∧ rdL (eA 256 (eI .i64)) ρ x2841 c2840 ∧ rdL (eI .i64) ρ x2845 c2844 ∧ rdL (eI .i64) ρ x2849 c2848 ∧ Hp C w' ρ (Arr v2839 256 c2840 :: Arr v2843 1 c2844 :: Arr v2847 1 c2848 :: hs)))) := by
  unfold F_hopcroft_Merge at hF
  have h0 : Tryd.f43.body = some _ := rfl
  refine fn_calls' Tryd.func43 h0 (n := 81) rfl (by simp) <| C_seq <| R_nd <| ne (E_box H (vs := [v1, v4, v7]) rfl rfl) rfl rfl ?_
  rintro _ wd2852 ⟨b2851, rfl, H⟩
  refine ne (E_alloc H ty25 (zs := [.slice none 0 0, .slice none 0 0, .slice none 0 0]) rfl) rfl rfl ?_
  rintro _ wd2854 ⟨b2853, rfl, H⟩
  refine WL_nil <| x_then <| C_seq <| C_seq <| R_nd <| nq (v := .agg #[v1, v4, v7]) (Q_ldB (k := 1) (cs := [v1, v4, v7]) H.ok rfl ty25 rfl rfl rfl (fun h => nomatch h) rfl) rfl rfl ?_
  obtain ⟨q2855, hq2855, hF⟩ := bnd hF
  refine ne (E_call fn26 rfl (c_26 H  r3 r6 r9 hq2855)) rfl rfl ?_
  rintro _ wd2858 ⟨x2857, rfl, rfl, H⟩
  try dsimp only at hF
  refine nq (Q_not rfl) rfl rfl <| WL_nil <| x_then ?_
  refine C_cond rfl (fun hb => ?_) (fun hb => ?_)
  · replace hF := itT hb hF
    refine C_seq <| R_nd <| nq (v := .agg #[.slice none 0 0, .slice none 0 0, .slice none 0 0]) (Q_buildS st25.choose_spec (ps := []) rfl trivial rfl) rfl rfl <| ne (E_stB (k := 0) (cs := [.slice none 0 0, .slice none 0 0, .slice none 0 0]) (vs' := [.slice none 0 0, .slice none 0 0, .slice none 0 0]) H rfl ty25 rfl rfl rfl rfl (one_cons rfl (one_cons rfl (one_cons rfl one_nil))) (by simp) rfl) rfl rfl ?_
    rintro _ wd2859 H
    dsimp only [List.set] at H
    refine WL_nil <| x_then <| C_ret <| x_then_ret ?_
    have H := H.nilArr 256
    have H := H.nilArr 1
    have H := H.nilArr 1
    have hRV : RV Tryd.prog wd2859 [(2, .pointer (some ⟨b2853, 0, none⟩))] [.cell 2 25] [.agg #[(.slice none 0 0), (.slice none 0 0), (.slice none 0 0)]] := ⟨⟨_, rfl, run_ldv ty25 rfl (fun h => nomatch h) (box_at (H.ok.get (k := 3) rfl) 0 3)⟩, trivial⟩
    replace H := H.front 1 rfl
    dsimp only [List.eraseIdx] at H
    replace H := H.front 2 rfl
    dsimp only [List.eraseIdx] at H
    replace H := H.drop 3 rfl
    dsimp only [List.eraseIdx] at H
    replace H := H.drop 3 rfl
    dsimp only [List.eraseIdx] at H
    obtain rfl := Option.some.inj hF
    exact fn_retV (rs := [.cell 2 25]) (vs := [.agg #[(.slice none 0 0), (.slice none 0 0), (.slice none 0 0)]]) rfl hRV ⟨(.slice none 0 0), [], (.slice none 0 0), [], (.slice none 0 0), [], [], [], [], rfl, rfl, rdL.nil, rdL.nil, rdL.nil, H⟩
  · replace hF := itF hb hF
    refine C_skip <| x_then <| C_seq <| R_nd <| nq (v := .agg #[v1, v4, v7]) (Q_ldB (k := 1) (cs := [v1, v4, v7]) H.ok rfl ty25 rfl rfl rfl (fun h => nomatch h) rfl) rfl rfl ?_
    obtain ⟨q2860, hq2860, hF⟩ := bnd hF
    refine ne (E_call fn72 rfl (c_72 H  r3 r6 r9 hq2860)) rfl rfl ?_
    rintro _ wd2867 ⟨v2862, c2863, x2864, x2865, rfl, rfl, r2866, H⟩
    try dsimp only at hF
    refine nq (Q_move rfl) rfl rfl <| nq (Q_extract rfl rfl) rfl rfl <| nq (Q_extract rfl rfl) rfl rfl <| nq (Q_assign rfl) rfl rfl <| nq (Q_assign rfl) rfl rfl <| WL_nil <| x_then ?_
    obtain ⟨o2933, ho2933, hF⟩ := bnd hF
    refine C_cut (fun a w' => ∃ (b2924 : Nat) (v2925 : Value) (c2926 : (List Value)) (v2929 : Value) (c2930 : (List Value)) (x2927 : (List (List Int))) (x2931 : (List Int)), (x2927, x2931) = o2933 ∧ rdL (eA 256 (eI .i64)) ρ x2927 c2926 ∧ rdL (eI .i64) ρ x2931 c2930 ∧ Fr 81 a [(1, .pointer (some ⟨b2851, 0, none⟩)), (2, .pointer (some ⟨b2853, 0, none⟩)), (3, v2862), (5, .pointer (some ⟨b2924, 0, none⟩))] ∧ Hp C w' ρ (Box b2851 [v1, v4, v7] :: Box b2853 [.slice none 0 0, .slice none 0 0, .slice none 0 0] :: Arr v2862 1 c2863 :: Box b2924 [v2925, v2929, .slice none 0 0] :: Arr v2925 256 c2926 :: Arr v2929 1 c2930 :: hs)) ?_ ?_
    · refine R_dr (.take 0 (.take 2 (.three 1 3 5 (.two 3 5 (.take 4 (.one 5 (.one 6 .done))) (.one 3 (.take 4 (.one 6 .done)))) (.two 1 5 (.take 4 (.one 5 (.one 6 .done))) (.one 1 (.take 4 (.one 6 .done)))) (.two 1 3 (.one 3 (.take 4 (.one 6 .done))) (.one 1 (.take 4 (.one 6 .done))))))) (fun w' => Ok w' ρ [Arr v2862 1 c2863, Box b2853 [.slice none 0 0, .slice none 0 0, .slice none 0 0], Box b2851 [v1, v4, v7]]) (by kernel_rfl) (by kernel_rfl) (by kernel_rfl) (H.drew.okS (by simp)) ?_
      replace H := H.drew
      refine dq rfl (fun _ _ => Q_move rfl) rfl rfl <| dq rfl (fun _ _ => Q_move rfl) rfl rfl ?_
      refine d3 ?_ ?_ ?_
      · obtain ⟨x2934, hx2934, ho2933⟩ := bnd ho2933
        obtain ⟨hm2936a, hm2936b, hm2936c⟩ := mk_some hx2934
        refine de rfl (E_make H Tryd.underlying22 ty58 (zs := (repC 256 [.int .i64 0])) rfl (by simp [repC_length]) (by decide) (by decide) rfl hm2936a hm2936b) rfl rfl ?_
        rintro _ wd2937 ⟨b2935, rfl, H⟩
        refine ⟨H.okS (by simp), ?_⟩
        refine d2 ?_ ?_
        · obtain ⟨x2938, hx2938, ho2933⟩ := bnd ho2933
          obtain ⟨hm2940a, hm2940b, hm2940c⟩ := mk_some hx2938
          refine de rfl (E_make H Tryd.underlying23 ty3 (zs := [.int .i64 0]) rfl rfl (by decide) (by decide) rfl hm2940a hm2940b) rfl rfl ?_
          rintro _ wd2941 ⟨b2939, rfl, H⟩
          refine ⟨H.okS (by simp), ?_⟩
          refine dq (v := .agg #[(.slice (some ⟨b2935, 0, none⟩) x2865.toNat x2865.toNat), (.slice (some ⟨b2939, 0, none⟩) x2865.toNat x2865.toNat), .slice none 0 0]) rfl (fun _ _ => Q_buildS st25.choose_spec (ps := [(0, [(.slice (some ⟨b2935, 0, none⟩) x2865.toNat x2865.toNat)]), (1, [(.slice (some ⟨b2939, 0, none⟩) x2865.toNat x2865.toNat)])]) rfl ⟨rfl, (arr_cells (H.ok.get (k := 1) rfl)).1, by simp, ⟨rfl, (arr_cells (H.ok.get (k := 0) rfl)).1, by simp, trivial⟩⟩ rfl) rfl rfl ?_
          refine d1 (de rfl (E_alloc H ty25 (zs := [.slice none 0 0, .slice none 0 0, .slice none 0 0]) rfl) rfl rfl ?_)
          rintro _ wd2943 ⟨b2942, rfl, H⟩
          refine ⟨H.okS (by simp), ?_⟩
          refine d1 (de rfl (E_stB (k := 0) (cs := [(.slice (some ⟨b2935, 0, none⟩) x2865.toNat x2865.toNat), (.slice (some ⟨b2939, 0, none⟩) x2865.toNat x2865.toNat), .slice none 0 0]) (vs' := [(.slice (some ⟨b2935, 0, none⟩) x2865.toNat x2865.toNat), (.slice (some ⟨b2939, 0, none⟩) x2865.toNat x2865.toNat), .slice none 0 0]) H rfl ty25 rfl rfl rfl rfl (one_cons (arr_cells (H.ok.get (k := 2) rfl)).2 (one_cons (arr_cells (H.ok.get (k := 1) rfl)).2 (one_cons rfl one_nil))) (by simp) rfl) rfl rfl ?_)
          rintro _ wd2944 H
          dsimp only [List.set] at H
          refine ⟨H.okS (by simp), ?_⟩
          refine DL_nil ?_
          replace H := H.front 1 rfl
          dsimp only [List.eraseIdx] at H
          replace H := H.front 2 rfl
          dsimp only [List.eraseIdx] at H
          replace H := H.front 2 rfl
          dsimp only [List.eraseIdx] at H
          replace H := H.front 3 rfl
          dsimp only [List.eraseIdx] at H
          replace H := H.front 4 rfl
          dsimp only [List.eraseIdx] at H
          replace H := H.front 5 rfl
          dsimp only [List.eraseIdx] at H
          obtain rfl := Option.some.inj ho2933
          refine x_A fun a hf => ⟨b2942, (.slice (some ⟨b2935, 0, none⟩) x2865.toNat x2865.toNat), (repC x2865.toNat (repC 256 [.int .i64 0])), (.slice (some ⟨b2939, 0, none⟩) x2865.toNat x2865.toNat), (repC x2865.toNat [.int .i64 0]), x2934, x2938, rfl, (hm2936c ▸ rdL_rep (e := (eA 256 (eI .i64))) (ρ := ρ) (⟨by simp, rdL_rep (e:=(eI .i64)) (ρ:=ρ) (rfl) 256⟩) _), (hm2940c ▸ rdL_rep (e := (eI .i64)) (ρ := ρ) (rfl) _), hf.sub ⟨rfl, rfl, rfl, rfl, trivial⟩, H⟩
        · refine de rfl (E_alloc H ty25 (zs := [.slice none 0 0, .slice none 0 0, .slice none 0 0]) rfl) rfl rfl ?_
          rintro _ wd2946 ⟨b2945, rfl, H⟩
          refine ⟨H.okS (by simp), ?_⟩
          obtain ⟨x2947, hx2947, ho2933⟩ := bnd ho2933
          obtain ⟨hm2949a, hm2949b, hm2949c⟩ := mk_some hx2947
          refine d1 (de rfl (E_make H Tryd.underlying23 ty3 (zs := [.int .i64 0]) rfl rfl (by decide) (by decide) rfl hm2949a hm2949b) rfl rfl ?_)
          rintro _ wd2950 ⟨b2948, rfl, H⟩
          refine ⟨H.okS (by simp), ?_⟩
          refine dq (v := .agg #[(.slice (some ⟨b2935, 0, none⟩) x2865.toNat x2865.toNat), (.slice (some ⟨b2948, 0, none⟩) x2865.toNat x2865.toNat), .slice none 0 0]) rfl (fun _ _ => Q_buildS st25.choose_spec (ps := [(0, [(.slice (some ⟨b2935, 0, none⟩) x2865.toNat x2865.toNat)]), (1, [(.slice (some ⟨b2948, 0, none⟩) x2865.toNat x2865.toNat)])]) rfl ⟨rfl, (arr_cells (H.ok.get (k := 2) rfl)).1, by simp, ⟨rfl, (arr_cells (H.ok.get (k := 0) rfl)).1, by simp, trivial⟩⟩ rfl) rfl rfl ?_
          refine d1 (de rfl (E_stB (k := 1) (cs := [(.slice (some ⟨b2935, 0, none⟩) x2865.toNat x2865.toNat), (.slice (some ⟨b2948, 0, none⟩) x2865.toNat x2865.toNat), .slice none 0 0]) (vs' := [(.slice (some ⟨b2935, 0, none⟩) x2865.toNat x2865.toNat), (.slice (some ⟨b2948, 0, none⟩) x2865.toNat x2865.toNat), .slice none 0 0]) H rfl ty25 rfl rfl rfl rfl (one_cons (arr_cells (H.ok.get (k := 2) rfl)).2 (one_cons (arr_cells (H.ok.get (k := 0) rfl)).2 (one_cons rfl one_nil))) (by simp) rfl) rfl rfl ?_)
          rintro _ wd2951 H
          dsimp only [List.set] at H
          refine ⟨H.okS (by simp), ?_⟩
          refine DL_nil ?_
          replace H := H.front 2 rfl
          dsimp only [List.eraseIdx] at H
          replace H := H.front 2 rfl
          dsimp only [List.eraseIdx] at H
          replace H := H.front 3 rfl
          dsimp only [List.eraseIdx] at H
          replace H := H.front 4 rfl
          dsimp only [List.eraseIdx] at H
          replace H := H.front 5 rfl
          dsimp only [List.eraseIdx] at H
          obtain rfl := Option.some.inj ho2933
          refine x_A fun a hf => ⟨b2945, (.slice (some ⟨b2935, 0, none⟩) x2865.toNat x2865.toNat), (repC x2865.toNat (repC 256 [.int .i64 0])), (.slice (some ⟨b2948, 0, none⟩) x2865.toNat x2865.toNat), (repC x2865.toNat [.int .i64 0]), x2934, x2947, rfl, (hm2936c ▸ rdL_rep (e := (eA 256 (eI .i64))) (ρ := ρ) (⟨by simp, rdL_rep (e:=(eI .i64)) (ρ:=ρ) (rfl) 256⟩) _), (hm2949c ▸ rdL_rep (e := (eI .i64)) (ρ := ρ) (rfl) _), hf.sub ⟨rfl, rfl, rfl, rfl, trivial⟩, H⟩
      · obtain ⟨x2952, hx2952, ho2933⟩ := bnd ho2933
        obtain ⟨x2953, hx2953, ho2933⟩ := bnd ho2933
        obtain ⟨hm2955a, hm2955b, hm2955c⟩ := mk_some hx2953
        refine de rfl (E_make H Tryd.underlying23 ty3 (zs := [.int .i64 0]) rfl rfl (by decide) (by decide) rfl hm2955a hm2955b) rfl rfl ?_
        rintro _ wd2956 ⟨b2954, rfl, H⟩
        refine ⟨H.okS (by simp), ?_⟩
        refine d2 ?_ ?_
        · obtain ⟨hm2958a, hm2958b, hm2958c⟩ := mk_some hx2952
          refine de rfl (E_make H Tryd.underlying22 ty58 (zs := (repC 256 [.int .i64 0])) rfl (by simp [repC_length]) (by decide) (by decide) rfl hm2958a hm2958b) rfl rfl ?_
          rintro _ wd2959 ⟨b2957, rfl, H⟩
          refine ⟨H.okS (by simp), ?_⟩
          refine dq (v := .agg #[(.slice (some ⟨b2957, 0, none⟩) x2865.toNat x2865.toNat), (.slice (some ⟨b2954, 0, none⟩) x2865.toNat x2865.toNat), .slice none 0 0]) rfl (fun _ _ => Q_buildS st25.choose_spec (ps := [(0, [(.slice (some ⟨b2957, 0, none⟩) x2865.toNat x2865.toNat)]), (1, [(.slice (some ⟨b2954, 0, none⟩) x2865.toNat x2865.toNat)])]) rfl ⟨rfl, (arr_cells (H.ok.get (k := 0) rfl)).1, by simp, ⟨rfl, (arr_cells (H.ok.get (k := 1) rfl)).1, by simp, trivial⟩⟩ rfl) rfl rfl ?_
          refine d1 (de rfl (E_alloc H ty25 (zs := [.slice none 0 0, .slice none 0 0, .slice none 0 0]) rfl) rfl rfl ?_)
          rintro _ wd2961 ⟨b2960, rfl, H⟩
          refine ⟨H.okS (by simp), ?_⟩
          refine d1 (de rfl (E_stB (k := 0) (cs := [(.slice (some ⟨b2957, 0, none⟩) x2865.toNat x2865.toNat), (.slice (some ⟨b2954, 0, none⟩) x2865.toNat x2865.toNat), .slice none 0 0]) (vs' := [(.slice (some ⟨b2957, 0, none⟩) x2865.toNat x2865.toNat), (.slice (some ⟨b2954, 0, none⟩) x2865.toNat x2865.toNat), .slice none 0 0]) H rfl ty25 rfl rfl rfl rfl (one_cons (arr_cells (H.ok.get (k := 1) rfl)).2 (one_cons (arr_cells (H.ok.get (k := 2) rfl)).2 (one_cons rfl one_nil))) (by simp) rfl) rfl rfl ?_)
          rintro _ wd2962 H
          dsimp only [List.set] at H
          refine ⟨H.okS (by simp), ?_⟩
          refine DL_nil ?_
          replace H := H.front 2 rfl
          dsimp only [List.eraseIdx] at H
          replace H := H.front 2 rfl
          dsimp only [List.eraseIdx] at H
          replace H := H.front 2 rfl
          dsimp only [List.eraseIdx] at H
          replace H := H.front 3 rfl
          dsimp only [List.eraseIdx] at H
          replace H := H.front 4 rfl
          dsimp only [List.eraseIdx] at H
          replace H := H.front 5 rfl
          dsimp only [List.eraseIdx] at H
          obtain rfl := Option.some.inj ho2933
          refine x_A fun a hf => ⟨b2960, (.slice (some ⟨b2957, 0, none⟩) x2865.toNat x2865.toNat), (repC x2865.toNat (repC 256 [.int .i64 0])), (.slice (some ⟨b2954, 0, none⟩) x2865.toNat x2865.toNat), (repC x2865.toNat [.int .i64 0]), x2952, x2953, rfl, (hm2958c ▸ rdL_rep (e := (eA 256 (eI .i64))) (ρ := ρ) (⟨by simp, rdL_rep (e:=(eI .i64)) (ρ:=ρ) (rfl) 256⟩) _), (hm2955c ▸ rdL_rep (e := (eI .i64)) (ρ := ρ) (rfl) _), hf.sub ⟨rfl, rfl, rfl, rfl, trivial⟩, H⟩
        · refine de rfl (E_alloc H ty25 (zs := [.slice none 0 0, .slice none 0 0, .slice none 0 0]) rfl) rfl rfl ?_
          rintro _ wd2964 ⟨b2963, rfl, H⟩
          refine ⟨H.okS (by simp), ?_⟩
          obtain ⟨hm2966a, hm2966b, hm2966c⟩ := mk_some hx2952
          refine d1 (de rfl (E_make H Tryd.underlying22 ty58 (zs := (repC 256 [.int .i64 0])) rfl (by simp [repC_length]) (by decide) (by decide) rfl hm2966a hm2966b) rfl rfl ?_)
          rintro _ wd2967 ⟨b2965, rfl, H⟩
          refine ⟨H.okS (by simp), ?_⟩
          refine dq (v := .agg #[(.slice (some ⟨b2965, 0, none⟩) x2865.toNat x2865.toNat), (.slice (some ⟨b2954, 0, none⟩) x2865.toNat x2865.toNat), .slice none 0 0]) rfl (fun _ _ => Q_buildS st25.choose_spec (ps := [(0, [(.slice (some ⟨b2965, 0, none⟩) x2865.toNat x2865.toNat)]), (1, [(.slice (some ⟨b2954, 0, none⟩) x2865.toNat x2865.toNat)])]) rfl ⟨rfl, (arr_cells (H.ok.get (k := 0) rfl)).1, by simp, ⟨rfl, (arr_cells (H.ok.get (k := 2) rfl)).1, by simp, trivial⟩⟩ rfl) rfl rfl ?_
          refine d1 (de rfl (E_stB (k := 1) (cs := [(.slice (some ⟨b2965, 0, none⟩) x2865.toNat x2865.toNat), (.slice (some ⟨b2954, 0, none⟩) x2865.toNat x2865.toNat), .slice none 0 0]) (vs' := [(.slice (some ⟨b2965, 0, none⟩) x2865.toNat x2865.toNat), (.slice (some ⟨b2954, 0, none⟩) x2865.toNat x2865.toNat), .slice none 0 0]) H rfl ty25 rfl rfl rfl rfl (one_cons (arr_cells (H.ok.get (k := 0) rfl)).2 (one_cons (arr_cells (H.ok.get (k := 2) rfl)).2 (one_cons rfl one_nil))) (by simp) rfl) rfl rfl ?_)
          rintro _ wd2968 H
          dsimp only [List.set] at H
          refine ⟨H.okS (by simp), ?_⟩
          refine DL_nil ?_
          replace H := H.front 2 rfl
          dsimp only [List.eraseIdx] at H
          replace H := H.front 1 rfl
          dsimp only [List.eraseIdx] at H
          replace H := H.front 2 rfl
          dsimp only [List.eraseIdx] at H
          replace H := H.front 3 rfl
          dsimp only [List.eraseIdx] at H
          replace H := H.front 4 rfl
          dsimp only [List.eraseIdx] at H
          replace H := H.front 5 rfl
          dsimp only [List.eraseIdx] at H
          obtain rfl := Option.some.inj ho2933
          refine x_A fun a hf => ⟨b2963, (.slice (some ⟨b2965, 0, none⟩) x2865.toNat x2865.toNat), (repC x2865.toNat (repC 256 [.int .i64 0])), (.slice (some ⟨b2954, 0, none⟩) x2865.toNat x2865.toNat), (repC x2865.toNat [.int .i64 0]), x2952, x2953, rfl, (hm2966c ▸ rdL_rep (e := (eA 256 (eI .i64))) (ρ := ρ) (⟨by simp, rdL_rep (e:=(eI .i64)) (ρ:=ρ) (rfl) 256⟩) _), (hm2955c ▸ rdL_rep (e := (eI .i64)) (ρ := ρ) (rfl) _), hf.sub ⟨rfl, rfl, rfl, rfl, trivial⟩, H⟩
      · refine de rfl (E_alloc H ty25 (zs := [.slice none 0 0, .slice none 0 0, .slice none 0 0]) rfl) rfl rfl ?_
        rintro _ wd2970 ⟨b2969, rfl, H⟩
        refine ⟨H.okS (by simp), ?_⟩
        refine d2 ?_ ?_
        · obtain ⟨x2971, hx2971, ho2933⟩ := bnd ho2933
          obtain ⟨hm2973a, hm2973b, hm2973c⟩ := mk_some hx2971
          refine de rfl (E_make H Tryd.underlying22 ty58 (zs := (repC 256 [.int .i64 0])) rfl (by simp [repC_length]) (by decide) (by decide) rfl hm2973a hm2973b) rfl rfl ?_
          rintro _ wd2974 ⟨b2972, rfl, H⟩
          refine ⟨H.okS (by simp), ?_⟩
          obtain ⟨x2975, hx2975, ho2933⟩ := bnd ho2933
          obtain ⟨hm2977a, hm2977b, hm2977c⟩ := mk_some hx2975
          refine d1 (de rfl (E_make H Tryd.underlying23 ty3 (zs := [.int .i64 0]) rfl rfl (by decide) (by decide) rfl hm2977a hm2977b) rfl rfl ?_)
          rintro _ wd2978 ⟨b2976, rfl, H⟩
          refine ⟨H.okS (by simp), ?_⟩
          refine dq (v := .agg #[(.slice (some ⟨b2972, 0, none⟩) x2865.toNat x2865.toNat), (.slice (some ⟨b2976, 0, none⟩) x2865.toNat x2865.toNat), .slice none 0 0]) rfl (fun _ _ => Q_buildS st25.choose_spec (ps := [(0, [(.slice (some ⟨b2972, 0, none⟩) x2865.toNat x2865.toNat)]), (1, [(.slice (some ⟨b2976, 0, none⟩) x2865.toNat x2865.toNat)])]) rfl ⟨rfl, (arr_cells (H.ok.get (k := 1) rfl)).1, by simp, ⟨rfl, (arr_cells (H.ok.get (k := 0) rfl)).1, by simp, trivial⟩⟩ rfl) rfl rfl ?_
          refine d1 (de rfl (E_stB (k := 2) (cs := [(.slice (some ⟨b2972, 0, none⟩) x2865.toNat x2865.toNat), (.slice (some ⟨b2976, 0, none⟩) x2865.toNat x2865.toNat), .slice none 0 0]) (vs' := [(.slice (some ⟨b2972, 0, none⟩) x2865.toNat x2865.toNat), (.slice (some ⟨b2976, 0, none⟩) x2865.toNat x2865.toNat), .slice none 0 0]) H rfl ty25 rfl rfl rfl rfl (one_cons (arr_cells (H.ok.get (k := 1) rfl)).2 (one_cons (arr_cells (H.ok.get (k := 0) rfl)).2 (one_cons rfl one_nil))) (by simp) rfl) rfl rfl ?_)
          rintro _ wd2979 H
          dsimp only [List.set] at H
          refine ⟨H.okS (by simp), ?_⟩
          refine DL_nil ?_
          replace H := H.front 1 rfl
          dsimp only [List.eraseIdx] at H
          replace H := H.front 2 rfl
          dsimp only [List.eraseIdx] at H
          replace H := H.front 3 rfl
          dsimp only [List.eraseIdx] at H
          replace H := H.front 4 rfl
          dsimp only [List.eraseIdx] at H
          replace H := H.front 5 rfl
          dsimp only [List.eraseIdx] at H
          obtain rfl := Option.some.inj ho2933
          refine x_A fun a hf => ⟨b2969, (.slice (some ⟨b2972, 0, none⟩) x2865.toNat x2865.toNat), (repC x2865.toNat (repC 256 [.int .i64 0])), (.slice (some ⟨b2976, 0, none⟩) x2865.toNat x2865.toNat), (repC x2865.toNat [.int .i64 0]), x2971, x2975, rfl, (hm2973c ▸ rdL_rep (e := (eA 256 (eI .i64))) (ρ := ρ) (⟨by simp, rdL_rep (e:=(eI .i64)) (ρ:=ρ) (rfl) 256⟩) _), (hm2977c ▸ rdL_rep (e := (eI .i64)) (ρ := ρ) (rfl) _), hf.sub ⟨rfl, rfl, rfl, rfl, trivial⟩, H⟩
        · obtain ⟨x2980, hx2980, ho2933⟩ := bnd ho2933
          obtain ⟨x2981, hx2981, ho2933⟩ := bnd ho2933
          obtain ⟨hm2983a, hm2983b, hm2983c⟩ := mk_some hx2981
          refine de rfl (E_make H Tryd.underlying23 ty3 (zs := [.int .i64 0]) rfl rfl (by decide) (by decide) rfl hm2983a hm2983b) rfl rfl ?_
          rintro _ wd2984 ⟨b2982, rfl, H⟩
          refine ⟨H.okS (by simp), ?_⟩
          obtain ⟨hm2986a, hm2986b, hm2986c⟩ := mk_some hx2980
          refine d1 (de rfl (E_make H Tryd.underlying22 ty58 (zs := (repC 256 [.int .i64 0])) rfl (by simp [repC_length]) (by decide) (by decide) rfl hm2986a hm2986b) rfl rfl ?_)
          rintro _ wd2987 ⟨b2985, rfl, H⟩
          refine ⟨H.okS (by simp), ?_⟩
          refine dq (v := .agg #[(.slice (some ⟨b2985, 0, none⟩) x2865.toNat x2865.toNat), (.slice (some ⟨b2982, 0, none⟩) x2865.toNat x2865.toNat), .slice none 0 0]) rfl (fun _ _ => Q_buildS st25.choose_spec (ps := [(0, [(.slice (some ⟨b2985, 0, none⟩) x2865.toNat x2865.toNat)]), (1, [(.slice (some ⟨b2982, 0, none⟩) x2865.toNat x2865.toNat)])]) rfl ⟨rfl, (arr_cells (H.ok.get (k := 0) rfl)).1, by simp, ⟨rfl, (arr_cells (H.ok.get (k := 1) rfl)).1, by simp, trivial⟩⟩ rfl) rfl rfl ?_
          refine d1 (de rfl (E_stB (k := 2) (cs := [(.slice (some ⟨b2985, 0, none⟩) x2865.toNat x2865.toNat), (.slice (some ⟨b2982, 0, none⟩) x2865.toNat x2865.toNat), .slice none 0 0]) (vs' := [(.slice (some ⟨b2985, 0, none⟩) x2865.toNat x2865.toNat), (.slice (some ⟨b2982, 0, none⟩) x2865.toNat x2865.toNat), .slice none 0 0]) H rfl ty25 rfl rfl rfl rfl (one_cons (arr_cells (H.ok.get (k := 0) rfl)).2 (one_cons (arr_cells (H.ok.get (k := 1) rfl)).2 (one_cons rfl one_nil))) (by simp) rfl) rfl rfl ?_)
          rintro _ wd2988 H
          dsimp only [List.set] at H
          refine ⟨H.okS (by simp), ?_⟩
          refine DL_nil ?_
          replace H := H.front 1 rfl
          dsimp only [List.eraseIdx] at H
          replace H := H.front 1 rfl
          dsimp only [List.eraseIdx] at H
          replace H := H.front 2 rfl
          dsimp only [List.eraseIdx] at H
          replace H := H.front 3 rfl
          dsimp only [List.eraseIdx] at H
          replace H := H.front 4 rfl
          dsimp only [List.eraseIdx] at H
          replace H := H.front 5 rfl
          dsimp only [List.eraseIdx] at H
          obtain rfl := Option.some.inj ho2933
          refine x_A fun a hf => ⟨b2969, (.slice (some ⟨b2985, 0, none⟩) x2865.toNat x2865.toNat), (repC x2865.toNat (repC 256 [.int .i64 0])), (.slice (some ⟨b2982, 0, none⟩) x2865.toNat x2865.toNat), (repC x2865.toNat [.int .i64 0]), x2980, x2981, rfl, (hm2986c ▸ rdL_rep (e := (eA 256 (eI .i64))) (ρ := ρ) (⟨by simp, rdL_rep (e:=(eI .i64)) (ρ:=ρ) (rfl) 256⟩) _), (hm2983c ▸ rdL_rep (e := (eI .i64)) (ρ := ρ) (rfl) _), hf.sub ⟨rfl, rfl, rfl, rfl, trivial⟩, H⟩
    · rintro a wd2989 ⟨b2924, v2925, c2926, v2929, c2930, x2927, x2931, rfl, r2928, r2932, hf, H⟩
      try dsimp only at hF
      refine CW.at hf <| C_seq <| C_seq <| R_nd <| nq (Q_move rfl) rfl rfl <| nq (Q_lenA (k := 2) H.ok rfl r2866 (by decide) Tryd.underlying23 rfl) rfl rfl <| nq (Q_move rfl) rfl rfl <| WL_nil <| x_then ?_
      obtain ⟨o4125, ho4125, hF⟩ := bnd hF
      refine C_cutQ (fun a w' => ∃ (c4119 : (List Value)) (c4122 : (List Value)) (x4120 : (List (List Int))) (x4123 : (List Int)), (x4120, x4123) = o4125 ∧ rdL (eA 256 (eI .i64)) ρ x4120 c4119 ∧ rdL (eI .i64) ρ x4123 c4122 ∧ Fr 81 a [(1, .pointer (some ⟨b2851, 0, none⟩)), (2, .pointer (some ⟨b2853, 0, none⟩)), (3, v2862), (5, .pointer (some ⟨b2924, 0, none⟩))] ∧ Hp C w' ρ (Box b2851 [v1, v4, v7] :: Box b2853 [.slice none 0 0, .slice none 0 0, .slice none 0 0] :: Arr v2862 1 c2863 :: Box b2924 [v2925, v2929, .slice none 0 0] :: Arr v2925 256 c4119 :: Arr v2929 1 c4122 :: hs)) ?_ ?_
      · refine C_block ?_
        replace H := H.front 5 rfl
        dsimp only [List.eraseIdx] at H
        replace H := H.front 5 rfl
        dsimp only [List.eraseIdx] at H
        replace H := H.front 5 rfl
        dsimp only [List.eraseIdx] at H
        replace H := H.front 5 rfl
        dsimp only [List.eraseIdx] at H
        replace H := H.front 5 rfl
        dsimp only [List.eraseIdx] at H
        replace H := H.front 5 rfl
        dsimp only [List.eraseIdx] at H
        refine C_iter (f := fun s => F_hopcroft_Merge_l0 N x2 x5 x2864 s.1 s.2.1 s.2.2) ho4125 (fun s a w' => ∃ (c4502 : (List Value)) (c4505 : (List Value)) (x4501 : Int) (x4503 : (List (List Int))) (x4506 : (List Int)), (x4501, x4503, x4506) = s ∧ rdL (eA 256 (eI .i64)) ρ x4503 c4502 ∧ rdL (eI .i64) ρ x4506 c4505 ∧ Fr 81 a [(1, .pointer (some ⟨b2851, 0, none⟩)), (2, .pointer (some ⟨b2853, 0, none⟩)), (3, v2862), (5, .pointer (some ⟨b2924, 0, none⟩)), (26, v2862), (27, .int .i64 (x2864.length : Int)), (28, .int .i64 x4501)] ∧ Hp C w' ρ (Box b2851 [v1, v4, v7] :: Box b2853 [.slice none 0 0, .slice none 0 0, .slice none 0 0] :: Arr v2862 1 c2863 :: Box b2924 [v2925, v2929, .slice none 0 0] :: Arr v2925 256 c4502 :: Arr v2929 1 c4505 :: hs)) ?_ ?_
        · exact fun a hf => ⟨c2926, c2930, 0, x2927, x2931, rfl, r2928, r2932, hf.sub ⟨rfl, rfl, rfl, rfl, rfl, rfl, rfl, trivial⟩, H⟩
        · rintro s o4883 a wd4886 ⟨c4502, c4505, x4501, x4503, x4506, rfl, r4504, r4507, hf, H⟩ hB4884 hO4885
          replace hB4884 : F_hopcroft_Merge_l0 N x2 x5 x2864 x4501 x4503 x4506 = some o4883 := hB4884
          unfold F_hopcroft_Merge_l0 at hB4884
          refine CW.at hf <| C_seq <| R_nd <| nq (Q_lss rfl rfl) rfl rfl <| WL_nil <| x_then <| C_seq ?_
          refine C_cond rfl (fun hb => ?_) (fun hb => ?_)
          · replace hB4884 := itT hb hB4884
            refine C_skip <| x_then <| C_seq <| C_block <| C_seq <| R_nd <| nq (Q_move rfl) rfl rfl ?_
            obtain ⟨x4887, hx4887, hB4884⟩ := bnd hB4884
            obtain ⟨b4888, o4889, hi4893, hc4891, ha4892⟩ := arr_at (hs := [Arr v2862 1 c2863]) (k := 0) (by decide) (H.okS (by simp)) rfl r2866 hx4887
            refine nq (Q_idx hi4893 Tryd.underlying23 ty3 rfl rfl) rfl rfl <| nq (v := .int .i64 x4887) (Q_ld (show cellsAt _ _ _ [.int .i64 x4887] from (show _ = [_] from hc4891) ▸ (ha4892 _ (Ok.subS (by simp) H.ok))) ty3 rfl (fun _ => rfl) rfl rfl) rfl rfl <| nq (Q_assign rfl) rfl rfl <| nq (Q_assign rfl) rfl rfl <| WL_nil <| x_then <| C_seq <| C_seq <| R_nd <| nq (v := .pointer (some ⟨b2851, 0, none⟩)) (Q_fld Tryd.underlying25 rfl ty22 (by decide) rfl rfl) rfl rfl <| nq (v := v1) (Q_ldB (k := 0) (cs := [v1]) H.ok rfl ty22 rfl rfl rfl (fun _ => rfl) rfl) rfl rfl <| nq (Q_move rfl) rfl rfl ?_
            obtain ⟨x4894, hx4894, hB4884⟩ := bnd hB4884
            obtain ⟨b4895, o4896, c4897, hc4898, ha4899, hi4900⟩ := idxR r3 hx4894
            refine nq (Q_idx hi4900 Tryd.underlying22 ty58 rfl rfl) rfl rfl <| nq (v := .agg c4897.toArray) (Q_ld (ha4899.up H.ok.view) ty58 ((eA 256 (eI .i64)).len hc4898) (fun h => nomatch h) rfl rfl) rfl rfl <| nq (Q_move rfl) rfl rfl <| WL_nil <| x_then ?_
            obtain ⟨o5058, ho5058, hB4884⟩ := bnd hB4884
            refine C_cutQ (fun a w' => ∃ (c5055 : (List Value)) (x5056 : (List (List Int))), x5056 = o5058 ∧ rdL (eA 256 (eI .i64)) ρ x5056 c5055 ∧ Fr 81 a [(1, .pointer (some ⟨b2851, 0, none⟩)), (2, .pointer (some ⟨b2853, 0, none⟩)), (3, v2862), (5, .pointer (some ⟨b2924, 0, none⟩)), (6, .int .i64 x4501), (7, .int .i64 x4887), (26, v2862), (27, .int .i64 (x2864.length : Int)), (28, .int .i64 x4501)] ∧ Hp C w' ρ (Box b2851 [v1, v4, v7] :: Box b2853 [.slice none 0 0, .slice none 0 0, .slice none 0 0] :: Arr v2862 1 c2863 :: Box b2924 [v2925, v2929, .slice none 0 0] :: Arr v2925 256 c5055 :: Arr v2929 1 c4505 :: hs)) ?_ ?_
            · refine C_block ?_
              replace H := H.front 5 rfl
              dsimp only [List.eraseIdx] at H
              replace H := H.front 5 rfl
              dsimp only [List.eraseIdx] at H
              replace H := H.front 5 rfl
              dsimp only [List.eraseIdx] at H
              replace H := H.front 5 rfl
              dsimp only [List.eraseIdx] at H
              replace H := H.front 5 rfl
              dsimp only [List.eraseIdx] at H
              replace H := H.front 5 rfl
              dsimp only [List.eraseIdx] at H
              refine C_iter (f := fun s => F_hopcroft_Merge_l1 N x2864 x4887 x4894 s.1 s.2) ho5058 (fun s a w' => ∃ (c5110 : (List Value)) (x5109 : Int) (x5111 : (List (List Int))), (x5109, x5111) = s ∧ rdL (eA 256 (eI .i64)) ρ x5111 c5110 ∧ Fr 81 a [(1, .pointer (some ⟨b2851, 0, none⟩)), (2, .pointer (some ⟨b2853, 0, none⟩)), (3, v2862), (5, .pointer (some ⟨b2924, 0, none⟩)), (6, .int .i64 x4501), (7, .int .i64 x4887), (26, v2862), (27, .int .i64 (x2864.length : Int)), (28, .int .i64 x4501), (37, .agg c4897.toArray), (38, .int .i64 x5109)] ∧ Hp C w' ρ (Box b2851 [v1, v4, v7] :: Box b2853 [.slice none 0 0, .slice none 0 0, .slice none 0 0] :: Arr v2862 1 c2863 :: Box b2924 [v2925, v2929, .slice none 0 0] :: Arr v2925 256 c5110 :: Arr v2929 1 c4505 :: hs)) ?_ ?_
              · exact fun a hf => ⟨c4502, 0, x4503, rfl, r4504, hf.sub ⟨rfl, rfl, rfl, rfl, rfl, rfl, rfl, rfl, rfl, rfl, rfl, trivial⟩, H⟩
              · rintro s o5163 a wd5166 ⟨c5110, x5109, x5111, rfl, r5112, hf, H⟩ hB5164 hO5165
                replace hB5164 : F_hopcroft_Merge_l1 N x2864 x4887 x4894 x5109 x5111 = some o5163 := hB5164
                unfold F_hopcroft_Merge_l1 at hB5164
                refine CW.at hf <| C_seq <| R_nd <| nq (Q_lss rfl rfl) rfl rfl <| WL_nil <| x_then <| C_seq ?_
                refine C_cond rfl (fun hb => ?_) (fun hb => ?_)
                · replace hB5164 := itT hb hB5164
                  refine C_skip <| x_then <| C_seq <| C_block <| C_seq <| R_nd <| nq (Q_move rfl) rfl rfl ?_
                  obtain ⟨x5167, hx5167, hB5164⟩ := bnd hB5164
                  refine nq (Q_ixI hc4898.2 hc4898.1 hx5167 Tryd.underlying58 rfl rfl ty3 rfl) rfl rfl <| nq (Q_assign rfl) rfl rfl <| nq (Q_assign rfl) rfl rfl <| WL_nil <| x_then ?_
                  obtain ⟨o5191, ho5191, hB5164⟩ := bnd hB5164
                  refine C_cutQ (fun a w' => ∃ (c5188 : (List Value)) (x5189 : (List (List Int))), x5189 = o5191 ∧ rdL (eA 256 (eI .i64)) ρ x5189 c5188 ∧ Fr 81 a [(1, .pointer (some ⟨b2851, 0, none⟩)), (2, .pointer (some ⟨b2853, 0, none⟩)), (3, v2862), (5, .pointer (some ⟨b2924, 0, none⟩)), (6, .int .i64 x4501), (7, .int .i64 x4887), (26, v2862), (27, .int .i64 (x2864.length : Int)), (28, .int .i64 x4501), (37, .agg c4897.toArray), (38, .int .i64 x5109)] ∧ Hp C w' ρ (Box b2851 [v1, v4, v7] :: Box b2853 [.slice none 0 0, .slice none 0 0, .slice none 0 0] :: Arr v2862 1 c2863 :: Box b2924 [v2925, v2929, .slice none 0 0] :: Arr v2925 256 c5188 :: Arr v2929 1 c4505 :: hs)) ?_ ?_
                  · refine R_dr (.take 0 (.take 1 (.take 2 (.take 3 (.take 4 (.take 5 (.take 6 (.take 7 (.take 8 (.take 9 (.one 10 .done))))))))))) (fun w' => Ok w' ρ [Box b2851 [v1, v4, v7], Box b2853 [.slice none 0 0, .slice none 0 0, .slice none 0 0], Arr v2862 1 c2863, Box b2924 [v2925, v2929, .slice none 0 0], Arr v2929 1 c4505]) (by kernel_rfl) (by kernel_rfl) (by kernel_rfl) (H.drew.okS (by simp)) ?_
                    replace H := H.drew
                    refine dq (v := .pointer (some ⟨b2924, 0, none⟩)) rfl (fun _ _ => Q_fld Tryd.underlying25 rfl ty22 (by decide) rfl rfl) rfl rfl <| dq (v := v2925) rfl (fun _ hw => Q_ldB (k := 3) (cs := [v2925]) hw rfl ty22 rfl rfl rfl (fun _ => rfl) rfl) rfl rfl <| dq rfl (fun _ _ => Q_move rfl) rfl rfl <| dq rfl (fun _ _ => Q_move rfl) rfl rfl <| dq rfl (fun _ _ => Q_move rfl) rfl rfl <| dq rfl (fun _ _ => Q_move rfl) rfl rfl ?_
                    obtain ⟨x5192, hx5192, ho5191⟩ := bnd ho5191
                    obtain ⟨b5193, o5194, hi5198, hc5196, ha5197⟩ := arr_at (hs := [Arr v2862 1 c2863]) (k := 0) (by decide) (H.okS (by simp)) rfl r2866 hx5192
                    refine dq rfl (fun _ _ => Q_idx hi5198 Tryd.underlying23 ty3 rfl rfl) rfl rfl <| dq (v := .int .i64 x5192) rfl (fun _ hw => Q_ld (show cellsAt _ _ _ [.int .i64 x5192] from (show _ = [_] from hc5196) ▸ (ha5197 _ (Ok.subS (by simp) hw))) ty3 rfl (fun _ => rfl) rfl rfl) rfl rfl ?_
                    obtain ⟨x5199, hx5199, ho5191⟩ := bnd ho5191
                    obtain ⟨b5200, o5201, hi5205, hc5203, ha5204⟩ := arr_at (hs := [Arr v2925 256 c5110]) (k := 0) (by decide) (H.okS (by simp)) rfl r5112 hx5199
                    refine dq rfl (fun _ _ => Q_idx hi5205 Tryd.underlying22 ty58 rfl rfl) rfl rfl ?_
                    obtain ⟨x5206, hx5206, ho5191⟩ := bnd ho5191
                    have hn5207 := idx_lt hc5203.1 hx5206
                    refine dq rfl (fun _ _ => Q_idxA hn5207.1 hn5207.2 Tryd.underlying58 ty3 rfl rfl) rfl rfl ?_
                    obtain ⟨x5208, hx5208, ho5191⟩ := bnd ho5191
                    obtain ⟨x5209, hx5209, ho5191⟩ := bnd ho5191
                    have r5210 : rdL (eA 256 (eI .i64)) ρ x5209 (setC c5110 (x4887.toNat * 256 + x5109.toNat * 1) [.int .i64 x5192]) := rdL_set2 (e := (eI .i64)) (N := 256) r5112 hc5203 hx5208 hx5209 (rfl)
                    refine d1 (de rfl (E_stA (k := 4) (j := x5109.toNat * 1) (c := [.int .i64 x5192]) H rfl ty3 hi5205 rfl rfl rfl rfl (one_cons rfl one_nil) (idx_fit (N := 256) (m := 1) (idx_lt hc5203.1 hx5206))) rfl rfl ?_)
                    rintro _ wd5211 H
                    dsimp only [List.set] at H
                    refine ⟨H.okS (by simp), ?_⟩
                    refine DL_nil ?_
                    replace H := H.front 5 rfl
                    dsimp only [List.eraseIdx] at H
                    replace H := H.front 5 rfl
                    dsimp only [List.eraseIdx] at H
                    replace H := H.front 5 rfl
                    dsimp only [List.eraseIdx] at H
                    replace H := H.front 5 rfl
                    dsimp only [List.eraseIdx] at H
                    replace H := H.front 5 rfl
                    dsimp only [List.eraseIdx] at H
                    replace H := H.front 5 rfl
                    dsimp only [List.eraseIdx] at H
                    obtain rfl := Option.some.inj ho5191
                    refine x_A fun a hf => ⟨(setC c5110 (x4887.toNat * 256 + x5109.toNat * 1) [.int .i64 x5192]), x5209, rfl, r5210, hf.sub ⟨rfl, rfl, rfl, rfl, rfl, rfl, rfl, rfl, rfl, rfl, rfl, trivial⟩, H⟩
                  · rintro a wd5212 ⟨c5188, x5189, rfl, r5190, hf, H⟩
                    try dsimp only at hB5164
                    refine XX.at hf <| x_block <| x_then <| R_nd <| nq (Q_add rfl rfl) rfl rfl <| nq (Q_move rfl) rfl rfl <| WL_nil ?_
                    replace H := H.front 5 rfl
                    dsimp only [List.eraseIdx] at H
                    replace H := H.front 5 rfl
                    dsimp only [List.eraseIdx] at H
                    replace H := H.front 5 rfl
                    dsimp only [List.eraseIdx] at H
                    replace H := H.front 5 rfl
                    dsimp only [List.eraseIdx] at H
                    replace H := H.front 5 rfl
                    dsimp only [List.eraseIdx] at H
                    replace H := H.front 5 rfl
                    dsimp only [List.eraseIdx] at H
                    obtain rfl := Option.some.inj hB5164
                    refine x_A fun a hf => ⟨_, rfl, c5188, w64 (x5109 + 1), x5189, rfl, r5190, hf.sub ⟨rfl, rfl, rfl, rfl, rfl, rfl, rfl, rfl, rfl, rfl, rfl, trivial⟩, H⟩
                · replace hB5164 := itF hb hB5164
                  refine C_exit <| x_then_exit <| x_then_exit <| x_block_exit ?_
                  replace H := H.front 5 rfl
                  dsimp only [List.eraseIdx] at H
                  replace H := H.front 5 rfl
                  dsimp only [List.eraseIdx] at H
                  replace H := H.front 5 rfl
                  dsimp only [List.eraseIdx] at H
                  replace H := H.front 5 rfl
                  dsimp only [List.eraseIdx] at H
                  replace H := H.front 5 rfl
                  dsimp only [List.eraseIdx] at H
                  replace H := H.front 5 rfl
                  dsimp only [List.eraseIdx] at H
                  obtain rfl := Option.some.inj hB5164
                  obtain rfl := hO5165 _ rfl
                  refine x_A fun a hf => ⟨c5110, x5111, rfl, r5112, hf.sub ⟨rfl, rfl, rfl, rfl, rfl, rfl, rfl, rfl, rfl, trivial⟩, H⟩
            · rintro a wd5213 ⟨c5055, x5056, rfl, r5057, hf, H⟩
              try dsimp only at hB4884
              refine XX.at hf <| x_then ?_
              obtain ⟨o5235, ho5235, hB4884⟩ := bnd hB4884
              refine C_cutQ (fun a w' => ∃ (c5232 : (List Value)) (x5233 : (List Int)), x5233 = o5235 ∧ rdL (eI .i64) ρ x5233 c5232 ∧ Fr 81 a [(1, .pointer (some ⟨b2851, 0, none⟩)), (2, .pointer (some ⟨b2853, 0, none⟩)), (3, v2862), (5, .pointer (some ⟨b2924, 0, none⟩)), (26, v2862), (27, .int .i64 (x2864.length : Int)), (28, .int .i64 x4501)] ∧ Hp C w' ρ (Box b2851 [v1, v4, v7] :: Box b2853 [.slice none 0 0, .slice none 0 0, .slice none 0 0] :: Arr v2862 1 c2863 :: Box b2924 [v2925, v2929, .slice none 0 0] :: Arr v2925 256 c5055 :: Arr v2929 1 c5232 :: hs)) ?_ ?_
              · refine R_dr (.take 0 (.take 1 (.take 2 (.take 3 (.take 4 (.take 5 (.take 6 (.take 7 (.take 8 (.one 9 .done)))))))))) (fun w' => Ok w' ρ [Box b2851 [v1, v4, v7], Box b2853 [.slice none 0 0, .slice none 0 0, .slice none 0 0], Arr v2862 1 c2863, Box b2924 [v2925, v2929, .slice none 0 0], Arr v2925 256 c5055]) (by kernel_rfl) (by kernel_rfl) (by kernel_rfl) (H.drew.okS (by simp)) ?_
                replace H := H.drew
                refine dq (v := .pointer (some ⟨b2924, 1, none⟩)) rfl (fun _ _ => Q_fld Tryd.underlying25 rfl ty23 (by decide) rfl rfl) rfl rfl <| dq (v := v2929) rfl (fun _ hw => Q_ldB (k := 3) (cs := [v2929]) hw rfl ty23 rfl rfl rfl (fun _ => rfl) rfl) rfl rfl <| dq rfl (fun _ _ => Q_move rfl) rfl rfl <| dq (v := .pointer (some ⟨b2851, 1, none⟩)) rfl (fun _ _ => Q_fld Tryd.underlying25 rfl ty23 (by decide) rfl rfl) rfl rfl <| dq (v := v4) rfl (fun _ hw => Q_ldB (k := 0) (cs := [v4]) hw rfl ty23 rfl rfl rfl (fun _ => rfl) rfl) rfl rfl <| dq rfl (fun _ _ => Q_move rfl) rfl rfl ?_
                obtain ⟨x5236, hx5236, ho5235⟩ := bnd ho5235
                obtain ⟨b5237, o5238, c5239, hc5240, ha5241, hi5242⟩ := idxR r6 hx5236
                refine dq rfl (fun _ _ => Q_idx hi5242 Tryd.underlying23 ty3 rfl rfl) rfl rfl <| dq (v := .int .i64 x5236) rfl (fun _ hw => Q_ld (show cellsAt _ _ _ [.int .i64 x5236] from (show _ = [_] from hc5240) ▸ (ha5241.up hw.view)) ty3 rfl (fun _ => rfl) rfl rfl) rfl rfl ?_
                obtain ⟨x5243, hx5243, ho5235⟩ := bnd ho5235
                obtain ⟨b5244, o5245, hi5249, hc5247, ha5248⟩ := arr_at (hs := [Arr v2929 1 c4505]) (k := 0) (by decide) (H.okS (by simp)) rfl r4507 hx5243
                refine dq rfl (fun _ _ => Q_idx hi5249 Tryd.underlying23 ty3 rfl rfl) rfl rfl ?_
                obtain ⟨x5250, hx5250, ho5235⟩ := bnd ho5235
                obtain ⟨hs5251a, hs5251b, hs5251c⟩ := setI_some hx5250
                have r5252 : rdL (eI .i64) ρ x5250 (setC c4505 (x4887.toNat * 1 + 0) [.int .i64 x5236]) := hs5251c ▸ rdL.set r4507 hs5251b (rfl)
                refine d1 (de rfl (E_stA (k := 5) (j := 0) (c := [.int .i64 x5236]) H rfl ty3 hi5249 rfl rfl rfl rfl (one_cons rfl one_nil) (by decide)) rfl rfl ?_)
                rintro _ wd5253 H
                dsimp only [List.set] at H
                refine ⟨H.okS (by simp), ?_⟩
                refine DL_nil ?_
                replace H := H.front 5 rfl
                dsimp only [List.eraseIdx] at H
                replace H := H.front 5 rfl
                dsimp only [List.eraseIdx] at H
                replace H := H.front 5 rfl
                dsimp only [List.eraseIdx] at H
                replace H := H.front 5 rfl
                dsimp only [List.eraseIdx] at H
                replace H := H.front 5 rfl
                dsimp only [List.eraseIdx] at H
                replace H := H.front 5 rfl
                dsimp only [List.eraseIdx] at H
                obtain rfl := Option.some.inj ho5235
                refine x_A fun a hf => ⟨(setC c4505 (x4887.toNat * 1 + 0) [.int .i64 x5236]), x5250, rfl, r5252, hf.sub ⟨rfl, rfl, rfl, rfl, rfl, rfl, rfl, trivial⟩, H⟩
              · rintro a wd5254 ⟨c5232, x5233, rfl, r5234, hf, H⟩
                try dsimp only at hB4884
                refine XX.at hf <| x_block <| x_then <| R_nd <| nq (Q_add rfl rfl) rfl rfl <| nq (Q_move rfl) rfl rfl <| WL_nil ?_
                replace H := H.front 5 rfl
                dsimp only [List.eraseIdx] at H
                replace H := H.front 5 rfl
                dsimp only [List.eraseIdx] at H
                replace H := H.front 5 rfl
                dsimp only [List.eraseIdx] at H
                replace H := H.front 5 rfl
                dsimp only [List.eraseIdx] at H
                replace H := H.front 5 rfl
                dsimp only [List.eraseIdx] at H
                replace H := H.front 5 rfl
                dsimp only [List.eraseIdx] at H
                obtain rfl := Option.some.inj hB4884
                refine x_A fun a hf => ⟨_, rfl, c5055, c5232, w64 (x4501 + 1), x5056, x5233, rfl, r5057, r5234, hf.sub ⟨rfl, rfl, rfl, rfl, rfl, rfl, rfl, trivial⟩, H⟩
          · replace hB4884 := itF hb hB4884
            refine C_exit <| x_then_exit <| x_then_exit <| x_block_exit ?_
            replace H := H.front 5 rfl
            dsimp only [List.eraseIdx] at H
            replace H := H.front 5 rfl
            dsimp only [List.eraseIdx] at H
            replace H := H.front 5 rfl
            dsimp only [List.eraseIdx] at H
            replace H := H.front 5 rfl
            dsimp only [List.eraseIdx] at H
            replace H := H.front 5 rfl
            dsimp only [List.eraseIdx] at H
            replace H := H.front 5 rfl
            dsimp only [List.eraseIdx] at H
            obtain rfl := Option.some.inj hB4884
            obtain rfl := hO4885 _ rfl
            refine x_A fun a hf => ⟨c4502, c4505, x4503, x4506, rfl, r4504, r4507, hf.sub ⟨rfl, rfl, rfl, rfl, trivial⟩, H⟩
      · rintro a wd5255 ⟨c4119, c4122, x4120, x4123, rfl, r4121, r4124, hf, H⟩
        try dsimp only at hF
        refine XX.at hf <| x_then <| C_seq <| C_seq <| R_nd <| nq (v := .pointer (some ⟨b2851, 2, none⟩)) (Q_fld Tryd.underlying25 rfl ty23 (by decide) rfl rfl) rfl rfl <| nq (v := v7) (Q_ldB (k := 0) (cs := [v7]) H.ok rfl ty23 rfl rfl rfl (fun _ => rfl) rfl) rfl rfl <| nq (Q_len Tryd.underlying23 rfl r9) rfl rfl <| nq (Q_move rfl) rfl rfl <| WL_nil <| x_then ?_
        obtain ⟨o5468, ho5468, hF⟩ := bnd hF
        refine C_cutQ (fun a w' => ∃ (v5464 : Value) (c5465 : (List Value)) (x5466 : (List Int)), x5466 = o5468 ∧ rdL (eI .i64) ρ x5466 c5465 ∧ Fr 81 a [(2, .pointer (some ⟨b2853, 0, none⟩)), (5, .pointer (some ⟨b2924, 0, none⟩))] ∧ Hp C w' ρ (Box b2853 [.slice none 0 0, .slice none 0 0, .slice none 0 0] :: Box b2924 [v2925, v2929, v5464] :: Arr v2925 256 c4119 :: Arr v2929 1 c4122 :: Arr v5464 1 c5465 :: hs)) ?_ ?_
        · refine C_block ?_
          have H := H.nilArr 1
          replace H := H.front 6 rfl
          dsimp only [List.eraseIdx] at H
          replace H := H.front 6 rfl
          dsimp only [List.eraseIdx] at H
          replace H := H.front 6 rfl
          dsimp only [List.eraseIdx] at H
          replace H := H.front 6 rfl
          dsimp only [List.eraseIdx] at H
          replace H := H.front 6 rfl
          dsimp only [List.eraseIdx] at H
          replace H := H.drop 6 rfl
          dsimp only [List.eraseIdx] at H
          refine C_iter (f := fun s => F_hopcroft_Merge_l2 N x8 x2864 s.1 s.2) ho5468 (fun s a w' => ∃ (v5537 : Value) (c5538 : (List Value)) (x5539 : (List Int)) (x5541 : Int), (x5539, x5541) = s ∧ rdL (eI .i64) ρ x5539 c5538 ∧ Fr 81 a [(2, .pointer (some ⟨b2853, 0, none⟩)), (3, v2862), (5, .pointer (some ⟨b2924, 0, none⟩)), (64, v7), (65, .int .i64 (x8.length : Int)), (66, .int .i64 x5541)] ∧ Hp C w' ρ (Box b2853 [.slice none 0 0, .slice none 0 0, .slice none 0 0] :: Arr v2862 1 c2863 :: Box b2924 [v2925, v2929, v5537] :: Arr v2925 256 c4119 :: Arr v2929 1 c4122 :: Arr v5537 1 c5538 :: hs)) ?_ ?_
          · exact fun a hf => ⟨(.slice none 0 0), [], [], 0, rfl, rdL.nil, hf.sub ⟨rfl, rfl, rfl, rfl, rfl, rfl, trivial⟩, H⟩
          · rintro s o5610 a wd5613 ⟨v5537, c5538, x5539, x5541, rfl, r5540, hf, H⟩ hB5611 hO5612
            replace hB5611 : F_hopcroft_Merge_l2 N x8 x2864 x5539 x5541 = some o5610 := hB5611
            unfold F_hopcroft_Merge_l2 at hB5611
            refine CW.at hf <| C_seq <| R_nd <| nq (Q_lss rfl rfl) rfl rfl <| WL_nil <| x_then <| C_seq ?_
            refine C_cond rfl (fun hb => ?_) (fun hb => ?_)
            · replace hB5611 := itT hb hB5611
              refine C_skip <| x_then <| C_seq <| C_block <| C_seq <| R_nd ?_
              obtain ⟨x5614, hx5614, hB5611⟩ := bnd hB5611
              obtain ⟨b5615, o5616, c5617, hc5618, ha5619, hi5620⟩ := idxR r9 hx5614
              refine nq (Q_idx hi5620 Tryd.underlying23 ty3 rfl rfl) rfl rfl <| nq (v := .int .i64 x5614) (Q_ld (show cellsAt _ _ _ [.int .i64 x5614] from (show _ = [_] from hc5618) ▸ (ha5619.up H.ok.view)) ty3 rfl (fun _ => rfl) rfl rfl) rfl rfl <| nq (Q_assign rfl) rfl rfl <| WL_nil <| x_then ?_
              obtain ⟨o5650, ho5650, hB5611⟩ := bnd hB5611
              refine C_cutQ (fun a w' => ∃ (v5646 : Value) (c5647 : (List Value)) (x5648 : (List Int)), x5648 = o5650 ∧ rdL (eI .i64) ρ x5648 c5647 ∧ Fr 81 a [(2, .pointer (some ⟨b2853, 0, none⟩)), (3, v2862), (5, .pointer (some ⟨b2924, 0, none⟩)), (64, v7), (65, .int .i64 (x8.length : Int)), (66, .int .i64 x5541)] ∧ Hp C w' ρ (Box b2853 [.slice none 0 0, .slice none 0 0, .slice none 0 0] :: Arr v2862 1 c2863 :: Box b2924 [v2925, v2929, v5646] :: Arr v2925 256 c4119 :: Arr v2929 1 c4122 :: Arr v5646 1 c5647 :: hs)) ?_ ?_
              · refine R_dr (.take 0 (.take 2 (.take 3 (.take 4 (.take 5 (.two 1 6 (.one 6 (.one 7 (.take 8 (.one 9 .done)))) (.one 1 (.one 7 (.take 8 (.one 9 .done)))))))))) (fun w' => Ok w' ρ [Box b2853 [.slice none 0 0, .slice none 0 0, .slice none 0 0], Arr v2862 1 c2863, Arr v2925 256 c4119, Arr v2929 1 c4122]) (by kernel_rfl) (by kernel_rfl) (by kernel_rfl) (H.drew.okS (by simp)) ?_
                replace H := H.drew
                refine dq (v := .pointer (some ⟨b2924, 2, none⟩)) rfl (fun _ _ => Q_fld Tryd.underlying25 rfl ty23 (by decide) rfl rfl) rfl rfl <| dq rfl (fun _ _ => Q_move rfl) rfl rfl <| dq rfl (fun _ _ => Q_move rfl) rfl rfl ?_
                obtain ⟨x5651, hx5651, ho5650⟩ := bnd ho5650
                obtain ⟨b5652, o5653, hi5657, hc5655, ha5656⟩ := arr_at (hs := [Arr v2862 1 c2863]) (k := 0) (by decide) (H.okS (by simp)) rfl r2866 hx5651
                refine dq rfl (fun _ _ => Q_idx hi5657 Tryd.underlying23 ty3 rfl rfl) rfl rfl <| dq (v := .int .i64 x5651) rfl (fun _ hw => Q_ld (show cellsAt _ _ _ [.int .i64 x5651] from (show _ = [_] from hc5655) ▸ (ha5656 _ (Ok.subS (by simp) hw))) ty3 rfl (fun _ => rfl) rfl rfl) rfl rfl ?_
                refine d2 ?_ ?_
                · refine de rfl (Eff.quiet (v := v5537) (Q_ldB (k := 2) (cs := [v5537]) H.ok rfl ty23 rfl rfl rfl (fun _ => rfl) rfl)) rfl rfl ?_
                  rintro _ _ ⟨rfl, rfl⟩
                  refine ⟨H.okS (by simp), ?_⟩
                  refine d1 (de rfl (E_bslice (xs := [.tmp 75]) (vs := [.int .i64 x5651]) H Tryd.underlying23 ty3 (by decide) (cs := [.int .i64 x5651]) rfl (sz_cons rfl sz_nil) rfl (by simp) (by simp) rfl rfl) rfl rfl ?_)
                  rintro _ wd5659 ⟨b5658, rfl, H⟩
                  refine ⟨H.okS (by simp), ?_⟩
                  obtain ⟨x5660, hx5660, ho5650⟩ := bnd ho5650
                  obtain ⟨ha5661a, ha5661b⟩ := app_some hx5660
                  have r5663 : rdL (eI .i64) ρ x5660 (c5538 ++ ([.int .i64 x5651])) := ha5661b ▸ rdL.app r5540 (show rdL (eI .i64) ρ ([x5651]) ([.int .i64 x5651]) from ⟨([.int .i64 x5651]), _, rfl, rfl, rdL.nil⟩)
                  refine d1 (de rfl (E_append (k := 6) H rfl Tryd.underlying23 ty3 rfl (by decide) (by decide) rfl rfl (Src.ofArr (k := 0) H.ok rfl) (rdL.one (show rdL (eI .i64) ρ ([x5651]) ([.int .i64 x5651]) from ⟨([.int .i64 x5651]), _, rfl, rfl, rdL.nil⟩)) (app_fit r5540 (show rdL (eI .i64) ρ ([x5651]) ([.int .i64 x5651]) from ⟨([.int .i64 x5651]), _, rfl, rfl, rdL.nil⟩) ha5661a)) rfl rfl ?_)
                  rintro v5662 wd5665 ⟨H, hc5664⟩
                  dsimp only [List.set] at H
                  refine ⟨H.okS (by simp), ?_⟩
                  refine dq (v := .pointer (some ⟨b2924, 2, none⟩)) rfl (fun _ _ => Q_fld Tryd.underlying25 rfl ty23 (by decide) rfl rfl) rfl rfl ?_
                  refine d1 (de rfl (E_stB (k := 3) (cs := [v5662]) (vs' := [v2925, v2929, v5662]) H rfl ty23 rfl rfl (arr_cells (H.ok.get (k := 6) rfl)).1 rfl (one_cons (arr_cells (H.ok.get (k := 6) rfl)).2 one_nil) (by simp) rfl) rfl rfl ?_)
                  rintro _ wd5666 H
                  dsimp only [List.set] at H
                  refine ⟨H.okS (by simp), ?_⟩
                  refine DL_nil ?_
                  replace H := H.front 6 rfl
                  dsimp only [List.eraseIdx] at H
                  replace H := H.front 6 rfl
                  dsimp only [List.eraseIdx] at H
                  replace H := H.front 6 rfl
                  dsimp only [List.eraseIdx] at H
                  replace H := H.front 6 rfl
                  dsimp only [List.eraseIdx] at H
                  replace H := H.front 6 rfl
                  dsimp only [List.eraseIdx] at H
                  replace H := H.front 6 rfl
                  dsimp only [List.eraseIdx] at H
                  replace H := H.drop 6 rfl
                  dsimp only [List.eraseIdx] at H
                  obtain rfl := Option.some.inj ho5650
                  refine x_A fun a hf => ⟨v5662, (c5538 ++ ([.int .i64 x5651])), x5660, rfl, r5663, hf.sub ⟨rfl, rfl, rfl, rfl, rfl, rfl, trivial⟩, H⟩
                · refine de rfl (E_bslice (xs := [.tmp 75]) (vs := [.int .i64 x5651]) H Tryd.underlying23 ty3 (by decide) (cs := [.int .i64 x5651]) rfl (sz_cons rfl sz_nil) rfl (by simp) (by simp) rfl rfl) rfl rfl ?_
                  rintro _ wd5668 ⟨b5667, rfl, H⟩
                  refine ⟨H.okS (by simp), ?_⟩
                  refine d1 (de rfl (Eff.quiet (v := v5537) (Q_ldB (k := 3) (cs := [v5537]) H.ok rfl ty23 rfl rfl rfl (fun _ => rfl) rfl)) rfl rfl ?_)
                  rintro _ _ ⟨rfl, rfl⟩
                  refine ⟨H.okS (by simp), ?_⟩
                  obtain ⟨x5669, hx5669, ho5650⟩ := bnd ho5650
                  obtain ⟨ha5670a, ha5670b⟩ := app_some hx5669
                  have r5672 : rdL (eI .i64) ρ x5669 (c5538 ++ ([.int .i64 x5651])) := ha5670b ▸ rdL.app r5540 (show rdL (eI .i64) ρ ([x5651]) ([.int .i64 x5651]) from ⟨([.int .i64 x5651]), _, rfl, rfl, rdL.nil⟩)
                  refine d1 (de rfl (E_append (k := 6) H rfl Tryd.underlying23 ty3 rfl (by decide) (by decide) rfl rfl (Src.ofArr (k := 0) H.ok rfl) (rdL.one (show rdL (eI .i64) ρ ([x5651]) ([.int .i64 x5651]) from ⟨([.int .i64 x5651]), _, rfl, rfl, rdL.nil⟩)) (app_fit r5540 (show rdL (eI .i64) ρ ([x5651]) ([.int .i64 x5651]) from ⟨([.int .i64 x5651]), _, rfl, rfl, rdL.nil⟩) ha5670a)) rfl rfl ?_)
                  rintro v5671 wd5674 ⟨H, hc5673⟩
                  dsimp only [List.set] at H
                  refine ⟨H.okS (by simp), ?_⟩
                  refine dq (v := .pointer (some ⟨b2924, 2, none⟩)) rfl (fun _ _ => Q_fld Tryd.underlying25 rfl ty23 (by decide) rfl rfl) rfl rfl ?_
                  refine d1 (de rfl (E_stB (k := 3) (cs := [v5671]) (vs' := [v2925, v2929, v5671]) H rfl ty23 rfl rfl (arr_cells (H.ok.get (k := 6) rfl)).1 rfl (one_cons (arr_cells (H.ok.get (k := 6) rfl)).2 one_nil) (by simp) rfl) rfl rfl ?_)
                  rintro _ wd5675 H
                  dsimp only [List.set] at H
                  refine ⟨H.okS (by simp), ?_⟩
                  refine DL_nil ?_
                  replace H := H.front 6 rfl
                  dsimp only [List.eraseIdx] at H
                  replace H := H.front 6 rfl
                  dsimp only [List.eraseIdx] at H
                  replace H := H.front 6 rfl
                  dsimp only [List.eraseIdx] at H
                  replace H := H.front 6 rfl
                  dsimp only [List.eraseIdx] at H
                  replace H := H.front 6 rfl
                  dsimp only [List.eraseIdx] at H
                  replace H := H.front 6 rfl
                  dsimp only [List.eraseIdx] at H
                  replace H := H.drop 6 rfl
                  dsimp only [List.eraseIdx] at H
                  obtain rfl := Option.some.inj ho5650
                  refine x_A fun a hf => ⟨v5671, (c5538 ++ ([.int .i64 x5651])), x5669, rfl, r5672, hf.sub ⟨rfl, rfl, rfl, rfl, rfl, rfl, trivial⟩, H⟩
              · rintro a wd5676 ⟨v5646, c5647, x5648, rfl, r5649, hf, H⟩
                try dsimp only at hB5611
                refine XX.at hf <| x_block <| x_then <| R_nd <| nq (Q_add rfl rfl) rfl rfl <| nq (Q_move rfl) rfl rfl <| WL_nil ?_
                replace H := H.front 5 rfl
                dsimp only [List.eraseIdx] at H
                replace H := H.front 5 rfl
                dsimp only [List.eraseIdx] at H
                replace H := H.front 5 rfl
                dsimp only [List.eraseIdx] at H
                replace H := H.front 5 rfl
                dsimp only [List.eraseIdx] at H
                replace H := H.front 5 rfl
                dsimp only [List.eraseIdx] at H
                replace H := H.front 5 rfl
                dsimp only [List.eraseIdx] at H
                obtain rfl := Option.some.inj hB5611
                refine x_A fun a hf => ⟨_, rfl, v5646, c5647, x5648, w64 (x5541 + 1), rfl, r5649, hf.sub ⟨rfl, rfl, rfl, rfl, rfl, rfl, trivial⟩, H⟩
            · replace hB5611 := itF hb hB5611
              refine C_exit <| x_then_exit <| x_then_exit <| x_block_exit ?_
              replace H := H.front 5 rfl
              dsimp only [List.eraseIdx] at H
              replace H := H.front 5 rfl
              dsimp only [List.eraseIdx] at H
              replace H := H.front 5 rfl
              dsimp only [List.eraseIdx] at H
              replace H := H.front 5 rfl
              dsimp only [List.eraseIdx] at H
              replace H := H.front 4 rfl
              dsimp only [List.eraseIdx] at H
              replace H := H.drop 5 rfl
              dsimp only [List.eraseIdx] at H
              obtain rfl := Option.some.inj hB5611
              obtain rfl := hO5612 _ rfl
              refine x_A fun a hf => ⟨v5537, c5538, x5539, rfl, r5540, hf.sub ⟨rfl, rfl, trivial⟩, H⟩
        · rintro a wd5677 ⟨v5464, c5465, x5466, rfl, r5467, hf, H⟩
          try dsimp only at hF
          refine XX.at hf <| x_then <| C_seq <| R_nd <| nq (v := .agg #[v2925, v2929, v5464]) (Q_ldB (k := 1) (cs := [v2925, v2929, v5464]) H.ok rfl ty25 rfl rfl rfl (fun h => nomatch h) rfl) rfl rfl <| ne (E_stB (k := 0) (cs := [v2925, v2929, v5464]) (vs' := [v2925, v2929, v5464]) H rfl ty25 rfl rfl rfl rfl (one_cons (arr_cells (H.ok.get (k := 2) rfl)).2 (one_cons (arr_cells (H.ok.get (k := 3) rfl)).2 (one_cons (arr_cells (H.ok.get (k := 4) rfl)).2 one_nil))) (by simp) rfl) rfl rfl ?_
          rintro _ wd5678 H
          dsimp only [List.set] at H
          refine WL_nil <| x_then <| C_ret ?_
          have hRV : RV Tryd.prog wd5678 [(2, .pointer (some ⟨b2853, 0, none⟩))] [.cell 2 25] [.agg #[v2925, v2929, v5464]] := ⟨⟨_, rfl, run_ldv ty25 rfl (fun h => nomatch h) (box_at (H.ok.get (k := 0) rfl) 0 3)⟩, trivial⟩
          replace H := H.front 4 rfl
          dsimp only [List.eraseIdx] at H
          replace H := H.front 4 rfl
          dsimp only [List.eraseIdx] at H
          replace H := H.front 4 rfl
          dsimp only [List.eraseIdx] at H
          replace H := H.drop 3 rfl
          dsimp only [List.eraseIdx] at H
          replace H := H.drop 3 rfl
          dsimp only [List.eraseIdx] at H
          obtain rfl := Option.some.inj hF
          exact fn_retV (rs := [.cell 2 25]) (vs := [.agg #[v2925, v2929, v5464]]) rfl hRV ⟨v2925, c4119, v2929, c4122, v5464, c5465, x4120, x4123, x5466, rfl, rfl, r4121, r4124, r5467, H⟩
theorem c_45 {N : Nat} {C : Cx} {w : World} {ρ : View} {hs : List Hl} {v1 : Value} {v4 : Value} {v7 : Value} {x2 : (List (List Int))} {x5 : (List Int)} {x8 : (List Int)} (H : Hp C w ρ (hs)) {ge0 : Value} (gl0 : GErr ρ 0 ge0) (gl1 : GTab ρ 1 .u8 tab_math_bits_deBruijn64tab) (r3 : RdSl ρ (eA 256 (eI .i64)) v1 x2) (r6 : RdSl ρ (eI .i64) v4 x5) (r9 : RdSl ρ (eI .i64) v7 x8) {r : ((List (List Int)) × (List Int) × (List Int))} (hF : F_hopcroft_Least N x2 x5 x8 = some r) :
    Calls Tryd.prog 45 [.agg #[v1, v4, v7]].toArray w (Rets (fun v w' => (∃ (v45 : Value) (c46 : (List Value)) (v49 : Value) (c50 : (List Value)) (v53 : Value) (c54 : (List Value)) (x47 : (List (List Int))) (x51 : (List Int)) (x55 : (List Int)), (x47, x51, x55) = r ∧ .agg #[v45, v49, v53] = v ∧ rdL (eA 256 (eI .i64)) ρ x47 c46 ∧ rdL (eI .i64) ρ x51 c50 ∧ rdL (eI .i64) ρ x55 c54 ∧ Hp C w' ρ (Arr v45 256 c46 :: Arr v49 1 c50 :: Arr v53 1 c54 :: hs)))) := by
  unfold F_hopcroft_Least at hF
  have h0 : Tryd.f45.body = some _ := rfl
  refine fn_calls' Tryd.func45 h0 (n := 6) rfl (by simp) <| C_seq <| R_nd <| ne (E_box H (vs := [v1, v4, v7]) rfl rfl) rfl rfl ?_
  rintro _ wd58 ⟨b57, rfl, H⟩
  refine ne (E_alloc H ty25 (zs := [.slice none 0 0, .slice none 0 0, .slice none 0 0]) rfl) rfl rfl ?_
  rintro _ wd60 ⟨b59, rfl, H⟩
  refine WL_nil <| x_then <| C_seq <| R_nd <| nq (v := .agg #[v1, v4, v7]) (Q_ldB (k := 1) (cs := [v1, v4, v7]) H.ok rfl ty25 rfl rfl rfl (fun h => nomatch h) rfl) rfl rfl ?_
  obtain ⟨q61, hq61, hF⟩ := bnd hF
  refine ne (E_call fn29 rfl (c_29 H gl0 gl1 r3 r6 r9 hq61)) rfl rfl ?_
  rintro _ wd75 ⟨v63, c64, v65, c66, v67, c68, x69, x70, x71, rfl, rfl, r72, r73, r74, H⟩
  try dsimp only at hF
  replace H := H.front 2 rfl
  dsimp only [List.eraseIdx] at H
  replace H := H.front 2 rfl
  dsimp only [List.eraseIdx] at H
  replace H := H.front 2 rfl
  dsimp only [List.eraseIdx] at H
  obtain ⟨q76, hq76, hF⟩ := bnd hF
  obtain ⟨C', ρ', hl77, HA, hL, hback⟩ := Hp.lend (A := []) (L := [Arr v63 256 c64, Arr v65 1 c66, Arr v67 1 c68]) (F := Box b59 [.slice none 0 0, .slice none 0 0, .slice none 0 0] :: Box b57 [v1, v4, v7] :: hs) H
  refine ne (E_call fn43 rfl (c_43 HA  (arr_rd (by decide) hl77 (hL (Arr v63 256 c64) (by simp)) r72) (arr_rd (by decide) hl77 (hL (Arr v65 1 c66) (by simp)) r73) (arr_rd (by decide) hl77 (hL (Arr v67 1 c68) (by simp)) r74) hq76)) rfl rfl ?_
  rintro _ wd90 ⟨v78, c79, v80, c81, v82, c83, x84, x85, x86, rfl, rfl, r87, r88, r89, H⟩
  try dsimp only at hF
  replace H := hback H
  replace r87 := rdL.flat (ρ := ρ') (ρ' := ρ) (flat_A _ (flat_I _)) r87
  replace r88 := rdL.flat (ρ := ρ') (ρ' := ρ) (flat_I _) r88
  replace r89 := rdL.flat (ρ := ρ') (ρ' := ρ) (flat_I _) r89
  dsimp only [List.cons_append, List.nil_append] at H
  refine ne (E_stB (k := 6) (cs := [v78, v80, v82]) (vs' := [v78, v80, v82]) H rfl ty25 rfl rfl rfl rfl (one_cons (arr_cells (H.ok.get (k := 0) rfl)).2 (one_cons (arr_cells (H.ok.get (k := 1) rfl)).2 (one_cons (arr_cells (H.ok.get (k := 2) rfl)).2 one_nil))) (by simp) rfl) rfl rfl ?_
  rintro _ wd91 H
  dsimp only [List.set] at H
  refine WL_nil <| x_then <| C_ret ?_
  have hRV : RV Tryd.prog wd91 [(2, .pointer (some ⟨b59, 0, none⟩))] [.cell 2 25] [.agg #[v78, v80, v82]] := ⟨⟨_, rfl, run_ldv ty25 rfl (fun h => nomatch h) (box_at (H.ok.get (k := 6) rfl) 0 3)⟩, trivial⟩
  replace H := H.front 2 rfl
  dsimp only [List.eraseIdx] at H
  replace H := H.front 2 rfl
  dsimp only [List.eraseIdx] at H
  replace H := H.front 2 rfl
  dsimp only [List.eraseIdx] at H
  replace H := H.drop 3 rfl
  dsimp only [List.eraseIdx] at H
  replace H := H.drop 3 rfl
  dsimp only [List.eraseIdx] at H
  replace H := H.drop 3 rfl
  dsimp only [List.eraseIdx] at H
  replace H := H.drop 3 rfl
  dsimp only [List.eraseIdx] at H
  replace H := H.drop 3 rfl
  dsimp only [List.eraseIdx] at H
  obtain rfl := Option.some.inj hF
  exact fn_retV (rs := [.cell 2 25]) (vs := [.agg #[v78, v80, v82]]) rfl hRV ⟨v78, c79, v80, c81, v82, c83, x84, x85, x86, rfl, rfl, r87, r88, r89, H⟩
theorem c_46 {N : Nat} {C : Cx} {w : World} {ρ : View} {hs : List Hl} {v1 : Value} {v4 : Value} {v7 : Value} {x2 : (List (List Int))} {x5 : (List Int)} {x8 : (List Int)} (H : Hp C w ρ (hs)) {ge0 : Value} (gl0 : GErr ρ 0 ge0) (gl1 : GTab ρ 1 .u8 tab_math_bits_deBruijn64tab) (r3 : RdSl ρ (eA 256 (eI .i64)) v1 x2) (r6 : RdSl ρ (eI .i64) v4 x5) (r9 : RdSl ρ (eI .i64) v7 x8) {r : Bool} (hF : F_hopcroft_IsLeast N x2 x5 x8 = some r) :
    Calls Tryd.prog 46 [.agg #[v1, v4, v7]].toArray w (Rets (fun v w' => (∃ (x24 : Bool), x24 = r ∧ .bool x24 = v ∧ Hp C w' ρ (hs)))) := by
  unfold F_hopcroft_IsLeast at hF
  have h0 : Tryd.f46.body = some _ := rfl
  refine fn_calls' Tryd.func46 h0 (n := 18) rfl (by simp) <| C_seq <| R_nd <| ne (E_box H (vs := [v1, v4, v7]) rfl rfl) rfl rfl ?_
  rintro _ wd26 ⟨b25, rfl, H⟩
  refine nq (Q_assign rfl) rfl rfl <| WL_nil <| x_then <| C_seq <| C_seq <| R_nd <| nq (v := .agg #[v1, v4, v7]) (Q_ldB (k := 0) (cs := [v1, v4, v7]) H.ok rfl ty25 rfl rfl rfl (fun h => nomatch h) rfl) rfl rfl ?_
  obtain ⟨q27, hq27, hF⟩ := bnd hF
  refine ne (E_call fn32 rfl (c_32 H gl0 gl1 r3 r6 r9 hq27)) rfl rfl ?_
  rintro _ wd30 ⟨x29, rfl, rfl, H⟩
  try dsimp only at hF
  refine nq (Q_not rfl) rfl rfl <| WL_nil <| x_then ?_
  refine C_cond rfl (fun hb => ?_) (fun hb => ?_)
  · replace hF := itT hb hF
    refine C_seq <| R_nd <| nq (Q_assign rfl) rfl rfl <| WL_nil <| x_then <| C_ret <| x_then_ret ?_
    replace H := H.drop 0 rfl
    dsimp only [List.eraseIdx] at H
    obtain rfl := Option.some.inj hF
    exact fn_ret (l := [.tmp 2]) (vs := [.bool false]) rfl rfl rfl ⟨false, rfl, rfl, H⟩
  · replace hF := itF hb hF
    refine C_skip <| x_then <| C_seq <| R_nd <| nq (v := .agg #[v1, v4, v7]) (Q_ldB (k := 0) (cs := [v1, v4, v7]) H.ok rfl ty25 rfl rfl rfl (fun h => nomatch h) rfl) rfl rfl ?_
    obtain ⟨q31, hq31, hF⟩ := bnd hF
    refine ne (E_call fn72 rfl (c_72 H  r3 r6 r9 hq31)) rfl rfl ?_
    rintro _ wd38 ⟨v33, c34, x35, x36, rfl, rfl, r37, H⟩
    try dsimp only at hF
    refine nq (Q_move rfl) rfl rfl <| nq (Q_extract rfl rfl) rfl rfl <| nq (Q_extract rfl rfl) rfl rfl <| nq (Q_assign rfl) rfl rfl <| nq (Q_assign rfl) rfl rfl <| WL_nil <| x_then <| C_seq <| R_nd <| nq (Q_move rfl) rfl rfl <| nq (v := .pointer (some ⟨b25, 0, none⟩)) (Q_fld Tryd.underlying25 rfl ty22 (by decide) rfl rfl) rfl rfl <| nq (v := v1) (Q_ldB (k := 1) (cs := [v1]) H.ok rfl ty22 rfl rfl rfl (fun _ => rfl) rfl) rfl rfl <| nq (Q_len Tryd.underlying22 rfl r3) rfl rfl <| nq (Q_eql rfl rfl) rfl rfl ?_
    refine nq (Q_assign rfl) rfl rfl <| WL_nil <| x_then <| C_ret ?_
    replace H := H.drop 0 rfl
    dsimp only [List.eraseIdx] at H
    replace H := H.drop 0 rfl
    dsimp only [List.eraseIdx] at H
    obtain rfl := Option.some.inj hF
    exact fn_ret (l := [.tmp 2]) (vs := [.bool (x36 == (x2.length : Int))]) rfl rfl rfl ⟨x36 == (x2.length : Int), rfl, rfl, H⟩
theorem c_73 {N : Nat} {C : Cx} {w : World} {ρ : View} {hs : List Hl} {v1 : Value} {v4 : Value} {v7 : Value} {x2 : (List (List Int))} {x5 : (List Int)} {x8 : (List Int)} (H : Hp C w ρ (hs)) (r3 : RdSl ρ (eA 256 (eI .i64)) v1 x2) (r6 : RdSl ρ (eI .i64) v4 x5) (_r9 : RdSl ρ (eI .i64) v7 x8) {r : (List (List Int))} (hF : F_dofferref19_Far N x2 x5 x8 = some r) :
    Calls Tryd.prog 73 [.agg #[v1, v4, v7]].toArray w (Rets (fun v w' => (∃ (v260083 : Value) (c260084 : (List Value)) (x260085 : (List (List Int))), x260085 = r ∧ v260083 = v ∧ Hp C w' ρ (NA (eI .i64) 1 v260083 c260084 x260085 :: hs)))) := by
  unfold F_dofferref19_Far at hF
  have h0 : Tryd.f73.body = some _ := rfl
  refine fn_calls' Tryd.func73 h0 (n := 108) rfl (by simp) <| C_seq <| R_nd <| ne (E_box H (vs := [v1, v4, v7]) rfl rfl) rfl rfl ?_
  rintro _ wd260087 ⟨b260086, rfl, H⟩
  refine nq (Q_assign rfl) rfl rfl <| WL_nil <| x_then <| C_seq <| R_nd <| nq (v := .pointer (some ⟨b260086, 0, none⟩)) (Q_fld Tryd.underlying29 rfl ty27 (by decide) rfl rfl) rfl rfl <| nq (v := v1) (Q_ldB (k := 0) (cs := [v1]) H.ok rfl ty27 rfl rfl rfl (fun _ => rfl) rfl) rfl rfl <| nq (Q_len Tryd.underlying27 rfl r3) rfl rfl <| nq (Q_assign rfl) rfl rfl <| WL_nil <| x_then <| C_seq <| R_nd <| ne (E_bslice0 H Tryd.underlying84 ty23) rfl rfl ?_
  rintro _ wd260089 ⟨b260088, rfl, H⟩
  replace H := H.njoin0 (eI .i64)
  refine nq (Q_assign rfl) rfl rfl <| WL_nil <| x_then <| C_seq <| C_seq <| R_nd <| nq (Q_assign rfl) rfl rfl <| WL_nil <| x_then ?_
  obtain ⟨o262218, ho262218, hF⟩ := bnd hF
  refine C_cutQ (fun a w' => ∃ (v262215 : Value) (c262216 : (List Value)) (x262217 : (List (List Int))), x262217 = o262218 ∧ Fr 108 a [(1, .pointer (some ⟨b260086, 0, none⟩)), (3, .int .i64 (x2.length : Int)), (4, v262215)] ∧ Hp C w' ρ (Box b260086 [v1, v4, v7] :: NA (eI .i64) 1 v262215 c262216 x262217 :: hs)) ?_ ?_
  · refine C_block ?_
    replace H := H.front 1 rfl
    dsimp only [List.eraseIdx] at H
    refine C_iter (f := fun s => F_dofferref19_Far_l0 N x2 x5 s.1 s.2) ho262218 (fun s a w' => ∃ (v262926 : Value) (c262927 : (List Value)) (x262928 : (List (List Int))) (x262929 : Int), (x262928, x262929) = s ∧ Fr 108 a [(1, .pointer (some ⟨b260086, 0, none⟩)), (3, .int .i64 (x2.length : Int)), (4, v262926), (5, .int .i64 x262929)] ∧ Hp C w' ρ (Box b260086 [v1, v4, v7] :: NA (eI .i64) 1 v262926 c262927 x262928 :: hs)) ?_ ?_
    · exact fun a hf => ⟨(.slice (some ⟨b260088, 0, none⟩) 0 0), [], [], 0, rfl, hf.sub ⟨rfl, rfl, rfl, rfl, trivial⟩, H⟩
    · rintro s o263637 a wd263640 ⟨v262926, c262927, x262928, x262929, rfl, hf, H⟩ hB263638 hO263639
      replace hB263638 : F_dofferref19_Far_l0 N x2 x5 x262928 x262929 = some o263637 := hB263638
      unfold F_dofferref19_Far_l0 at hB263638
      refine CW.at hf <| C_seq <| C_seq <| R_nd <| nq (Q_move rfl) rfl rfl <| nq (Q_move rfl) rfl rfl <| nq (Q_lss rfl rfl) rfl rfl <| WL_nil <| x_then ?_
      refine C_cond rfl (fun hb => ?_) (fun hb => ?_)
      · replace hB263638 := itT hb hB263638
        refine C_skip <| x_then <| C_seq <| C_block <| C_seq <| R_nd <| nq (Q_move rfl) rfl rfl ?_
        obtain ⟨x263641, hx263641, hB263638⟩ := bnd hB263638
        obtain ⟨hm263643a, hm263643b, hm263643c⟩ := mk_some hx263641
        refine ne (E_make H Tryd.underlying23 ty3 (zs := [.int .i64 0]) rfl rfl (by decide) (by decide) rfl hm263643a hm263643b) rfl rfl ?_
        rintro _ wd263644 ⟨b263642, rfl, H⟩
        refine nq (Q_assign rfl) rfl rfl <| WL_nil <| x_then <| C_seq <| C_seq <| R_nd <| nq (Q_assign rfl) rfl rfl <| WL_nil <| x_then ?_
        obtain ⟨o263991, ho263991, hB263638⟩ := bnd hB263638
        refine C_cutQ (fun a w' => ∃ (c263988 : (List Value)) (x263989 : (List Int)), x263989 = o263991 ∧ rdL (eI .i64) ρ x263989 c263988 ∧ Fr 108 a [(1, .pointer (some ⟨b260086, 0, none⟩)), (3, .int .i64 (x2.length : Int)), (4, v262926), (5, .int .i64 x262929), (6, (.slice (some ⟨b263642, 0, none⟩) (x2.length : Int).toNat (x2.length : Int).toNat))] ∧ Hp C w' ρ (Box b260086 [v1, v4, v7] :: NA (eI .i64) 1 v262926 c262927 x262928 :: Arr (.slice (some ⟨b263642, 0, none⟩) (x2.length : Int).toNat (x2.length : Int).toNat) 1 c263988 :: hs)) ?_ ?_
        · refine C_block ?_
          replace H := H.front 2 rfl
          dsimp only [List.eraseIdx] at H
          replace H := H.front 2 rfl
          dsimp only [List.eraseIdx] at H
          refine C_iter (f := fun s => F_dofferref19_Far_l1 N x2 x5 x262929 s.1 s.2) ho263991 (fun s a w' => ∃ (c264105 : (List Value)) (x264106 : (List Int)) (x264108 : Int), (x264106, x264108) = s ∧ rdL (eI .i64) ρ x264106 c264105 ∧ Fr 108 a [(1, .pointer (some ⟨b260086, 0, none⟩)), (3, .int .i64 (x2.length : Int)), (4, v262926), (5, .int .i64 x262929), (6, (.slice (some ⟨b263642, 0, none⟩) (x2.length : Int).toNat (x2.length : Int).toNat)), (7, .int .i64 x264108)] ∧ Hp C w' ρ (Box b260086 [v1, v4, v7] :: NA (eI .i64) 1 v262926 c262927 x262928 :: Arr (.slice (some ⟨b263642, 0, none⟩) (x2.length : Int).toNat (x2.length : Int).toNat) 1 c264105 :: hs)) ?_ ?_
          · exact fun a hf => ⟨(repC (x2.length : Int).toNat [.int .i64 0]), x263641, 0, rfl, (hm263643c ▸ rdL_rep (e := (eI .i64)) (ρ := ρ) (rfl) _), hf.sub ⟨rfl, rfl, rfl, rfl, rfl, rfl, trivial⟩, H⟩
          · rintro s o264222 a wd264225 ⟨c264105, x264106, x264108, rfl, r264107, hf, H⟩ hB264223 hO264224
            replace hB264223 : F_dofferref19_Far_l1 N x2 x5 x262929 x264106 x264108 = some o264222 := hB264223
            unfold F_dofferref19_Far_l1 at hB264223
            refine CW.at hf <| C_seq <| C_seq <| R_nd <| nq (Q_move rfl) rfl rfl <| nq (Q_move rfl) rfl rfl <| nq (Q_lss rfl rfl) rfl rfl <| WL_nil <| x_then ?_
            refine C_cond rfl (fun hb => ?_) (fun hb => ?_)
            · replace hB264223 := itT hb hB264223
              refine C_skip <| x_then ?_
              obtain ⟨o264281, ho264281, hB264223⟩ := bnd hB264223
              refine C_cut (fun a w' => ∃ (c264278 : (List Value)) (x264279 : (List Int)), x264279 = o264281 ∧ rdL (eI .i64) ρ x264279 c264278 ∧ Fr 108 a [(1, .pointer (some ⟨b260086, 0, none⟩)), (3, .int .i64 (x2.length : Int)), (4, v262926), (5, .int .i64 x262929), (6, (.slice (some ⟨b263642, 0, none⟩) (x2.length : Int).toNat (x2.length : Int).toNat)), (7, .int .i64 x264108)] ∧ Hp C w' ρ (Box b260086 [v1, v4, v7] :: NA (eI .i64) 1 v262926 c262927 x262928 :: Arr (.slice (some ⟨b263642, 0, none⟩) (x2.length : Int).toNat (x2.length : Int).toNat) 1 c264278 :: hs)) ?_ ?_
              · refine C_block <| C_seq <| R_nd <| nq (Q_move rfl) rfl rfl <| nq (Q_move rfl) rfl rfl ?_
                obtain ⟨x264282, hx264282, ho264281⟩ := bnd ho264281
                obtain ⟨b264283, o264284, hi264288, hc264286, ha264287⟩ := arr_at (hs := [Arr (.slice (some ⟨b263642, 0, none⟩) (x2.length : Int).toNat (x2.length : Int).toNat) 1 c264105]) (k := 0) (by decide) (H.okS (by simp)) rfl r264107 hx264282
                refine nq (Q_idx hi264288 Tryd.underlying23 ty3 rfl rfl) rfl rfl ?_
                obtain ⟨x264289, hx264289, ho264281⟩ := bnd ho264281
                obtain ⟨hs264290a, hs264290b, hs264290c⟩ := setI_some hx264289
                have r264291 : rdL (eI .i64) ρ x264289 (setC c264105 (x264108.toNat * 1 + 0) [.int .i64 (-1)]) := hs264290c ▸ rdL.set r264107 hs264290b (rfl)
                refine ne (E_stA (k := 2) (j := 0) (c := [.int .i64 (-1)]) H rfl ty3 hi264288 rfl rfl rfl rfl (one_cons rfl one_nil) (by decide)) rfl rfl ?_
                rintro _ wd264292 H
                dsimp only [List.set] at H
                refine WL_nil <| x_then <| C_seq <| R_dr (.take 0 (.take 1 (.take 2 (.take 3 (.take 4 (.take 5 (.take 6 (.take 7 (.take 8 (.take 9 (.take 10 .done))))))))))) (fun w' => Ok w' ρ [Box b260086 [v1, v4, v7], NA (eI .i64) 1 v262926 c262927 x262928, Arr (.slice (some ⟨b263642, 0, none⟩) (x2.length : Int).toNat (x2.length : Int).toNat) 1 (setC c264105 (x264108.toNat * 1 + 0) [.int .i64 (-1)])]) (by kernel_rfl) (by kernel_rfl) (by kernel_rfl) (H.drew.okS (by simp)) ?_
                replace H := H.drew
                refine dq (v := .pointer (some ⟨b260086, 1, none⟩)) rfl (fun _ _ => Q_fld Tryd.underlying29 rfl ty23 (by decide) rfl rfl) rfl rfl <| dq (v := v4) rfl (fun _ hw => Q_ldB (k := 0) (cs := [v4]) hw rfl ty23 rfl rfl rfl (fun _ => rfl) rfl) rfl rfl <| dq rfl (fun _ _ => Q_move rfl) rfl rfl ?_
                obtain ⟨x264293, hx264293, ho264281⟩ := bnd ho264281
                obtain ⟨b264294, o264295, c264296, hc264297, ha264298, hi264299⟩ := idxR r6 hx264293
                refine dq rfl (fun _ _ => Q_idx hi264299 Tryd.underlying23 ty3 rfl rfl) rfl rfl <| dq (v := .int .i64 x264293) rfl (fun _ hw => Q_ld (show cellsAt _ _ _ [.int .i64 x264293] from (show _ = [_] from hc264297) ▸ (ha264298.up hw.view)) ty3 rfl (fun _ => rfl) rfl rfl) rfl rfl <| dq (v := .pointer (some ⟨b260086, 1, none⟩)) rfl (fun _ _ => Q_fld Tryd.underlying29 rfl ty23 (by decide) rfl rfl) rfl rfl <| dq (v := v4) rfl (fun _ hw => Q_ldB (k := 0) (cs := [v4]) hw rfl ty23 rfl rfl rfl (fun _ => rfl) rfl) rfl rfl <| dq rfl (fun _ _ => Q_move rfl) rfl rfl ?_
                obtain ⟨x264300, hx264300, ho264281⟩ := bnd ho264281
                obtain ⟨b264301, o264302, c264303, hc264304, ha264305, hi264306⟩ := idxR r6 hx264300
                refine dq rfl (fun _ _ => Q_idx hi264306 Tryd.underlying23 ty3 rfl rfl) rfl rfl <| dq (v := .int .i64 x264300) rfl (fun _ hw => Q_ld (show cellsAt _ _ _ [.int .i64 x264300] from (show _ = [_] from hc264304) ▸ (ha264305.up hw.view)) ty3 rfl (fun _ => rfl) rfl rfl) rfl rfl <| dq rfl (fun _ _ => Q_neq rfl rfl) rfl rfl <| DL_nil <| x_then ?_
                obtain ⟨o264321, ho264321, ho264281⟩ := bnd ho264281
                refine C_cutQ (fun a w' => ∃ (c264318 : (List Value)) (x264319 : (List Int)), x264319 = o264321 ∧ rdL (eI .i64) ρ x264319 c264318 ∧ Fr 108 a [(1, .pointer (some ⟨b260086, 0, none⟩)), (3, .int .i64 (x2.length : Int)), (4, v262926), (5, .int .i64 x262929), (6, (.slice (some ⟨b263642, 0, none⟩) (x2.length : Int).toNat (x2.length : Int).toNat)), (7, .int .i64 x264108)] ∧ Hp C w' ρ (Box b260086 [v1, v4, v7] :: NA (eI .i64) 1 v262926 c262927 x262928 :: Arr (.slice (some ⟨b263642, 0, none⟩) (x2.length : Int).toNat (x2.length : Int).toNat) 1 c264318 :: hs)) ?_ ?_
                · refine C_cond rfl (fun hb => ?_) (fun hb => ?_)
                  · replace ho264321 := itT hb ho264321
                    refine R_nd <| nq (Q_move rfl) rfl rfl <| nq (Q_move rfl) rfl rfl ?_
                    obtain ⟨x264322, hx264322, ho264321⟩ := bnd ho264321
                    obtain ⟨b264323, o264324, hi264328, hc264326, ha264327⟩ := arr_at (hs := [Arr (.slice (some ⟨b263642, 0, none⟩) (x2.length : Int).toNat (x2.length : Int).toNat) 1 (setC c264105 (x264108.toNat * 1 + 0) [.int .i64 (-1)])]) (k := 0) (by decide) (H.okS (by simp)) rfl r264291 hx264322
                    refine nq (Q_idx hi264328 Tryd.underlying23 ty3 rfl rfl) rfl rfl ?_
                    obtain ⟨x264329, hx264329, ho264321⟩ := bnd ho264321
                    obtain ⟨hs264330a, hs264330b, hs264330c⟩ := setI_some hx264329
                    have r264331 : rdL (eI .i64) ρ x264329 (setC (setC c264105 (x264108.toNat * 1 + 0) [.int .i64 (-1)]) (x264108.toNat * 1 + 0) [.int .i64 0]) := hs264330c ▸ rdL.set r264291 hs264330b (rfl)
                    refine ne (E_stA (k := 2) (j := 0) (c := [.int .i64 0]) H rfl ty3 hi264328 rfl rfl rfl rfl (one_cons rfl one_nil) (by decide)) rfl rfl ?_
                    rintro _ wd264332 H
                    dsimp only [List.set] at H
                    refine WL_nil ?_
                    replace H := H.front 2 rfl
                    dsimp only [List.eraseIdx] at H
                    replace H := H.front 2 rfl
                    dsimp only [List.eraseIdx] at H
                    replace H := H.front 2 rfl
                    dsimp only [List.eraseIdx] at H
                    obtain rfl := Option.some.inj ho264321
                    refine x_A fun a hf => ⟨(setC (setC c264105 (x264108.toNat * 1 + 0) [.int .i64 (-1)]) (x264108.toNat * 1 + 0) [.int .i64 0]), x264329, rfl, r264331, hf.sub ⟨rfl, rfl, rfl, rfl, rfl, rfl, trivial⟩, H⟩
                  · replace ho264321 := itF hb ho264321
                    refine C_skip ?_
                    replace H := H.front 2 rfl
                    dsimp only [List.eraseIdx] at H
                    replace H := H.front 2 rfl
                    dsimp only [List.eraseIdx] at H
                    replace H := H.front 2 rfl
                    dsimp only [List.eraseIdx] at H
                    obtain rfl := Option.some.inj ho264321
                    refine x_A fun a hf => ⟨(setC c264105 (x264108.toNat * 1 + 0) [.int .i64 (-1)]), x264289, rfl, r264291, hf.sub ⟨rfl, rfl, rfl, rfl, rfl, rfl, trivial⟩, H⟩
                · rintro a wd264333 ⟨c264318, x264319, rfl, r264320, hf, H⟩
                  try dsimp only at ho264281
                  refine XX.at hf <| x_block ?_
                  replace H := H.front 2 rfl
                  dsimp only [List.eraseIdx] at H
                  replace H := H.front 2 rfl
                  dsimp only [List.eraseIdx] at H
                  replace H := H.front 2 rfl
                  dsimp only [List.eraseIdx] at H
                  obtain rfl := Option.some.inj ho264281
                  refine x_A fun a hf => ⟨c264318, x264319, rfl, r264320, hf.sub ⟨rfl, rfl, rfl, rfl, rfl, rfl, trivial⟩, H⟩
              · rintro a wd264334 ⟨c264278, x264279, rfl, r264280, hf, H⟩
                try dsimp only at hB264223
                refine CW.at hf <| R_nd <| nq (Q_move rfl) rfl rfl <| nq (Q_add rfl rfl) rfl rfl <| nq (Q_assign rfl) rfl rfl <| WL_nil ?_
                replace H := H.front 2 rfl
                dsimp only [List.eraseIdx] at H
                replace H := H.front 2 rfl
                dsimp only [List.eraseIdx] at H
                replace H := H.front 2 rfl
                dsimp only [List.eraseIdx] at H
                obtain rfl := Option.some.inj hB264223
                refine x_A fun a hf => ⟨_, rfl, c264278, x264279, w64 (x264108 + 1), rfl, r264280, hf.sub ⟨rfl, rfl, rfl, rfl, rfl, rfl, trivial⟩, H⟩
            · replace hB264223 := itF hb hB264223
              refine C_exit <| x_then_exit <| x_then_exit <| x_block_exit ?_
              replace H := H.front 2 rfl
              dsimp only [List.eraseIdx] at H
              replace H := H.front 2 rfl
              dsimp only [List.eraseIdx] at H
              replace H := H.front 2 rfl
              dsimp only [List.eraseIdx] at H
              obtain rfl := Option.some.inj hB264223
              obtain rfl := hO264224 _ rfl
              refine x_A fun a hf => ⟨c264105, x264106, rfl, r264107, hf.sub ⟨rfl, rfl, rfl, rfl, rfl, trivial⟩, H⟩
        · rintro a wd264335 ⟨c263988, x263989, rfl, r263990, hf, H⟩
          try dsimp only at hB263638
          refine XX.at hf <| x_then <| R_nd <| nq (Q_move rfl) rfl rfl <| nq (Q_move rfl) rfl rfl ?_
          replace H := H.front 2 rfl
          dsimp only [List.eraseIdx] at H
          have hl264337 := arr_len (en := (eI .i64)) (by decide) (H.ok.get (k := 0) rfl) r263990
          refine ne (E_bslice (xs := [.tmp 47]) (vs := [(.slice (some ⟨b263642, 0, none⟩) (x2.length : Int).toNat (x2.length : Int).toNat)]) H Tryd.underlying84 ty23 (by decide) (cs := [(.slice (some ⟨b263642, 0, none⟩) (x2.length : Int).toNat (x2.length : Int).toNat)]) rfl (sz_cons (by rw [(arr_cells (H.ok.get (k := 0) rfl)).1]; rfl) sz_nil) (fm1 (arr_cells (H.ok.get (k := 0) rfl)).1) (by simp) (by simp) rfl rfl) rfl rfl ?_
          rintro _ wd264338 ⟨b264336, rfl, H⟩
          replace H := Hp.njoin1 (flat_I _) H r263990
          obtain ⟨x264339, hx264339, hB263638⟩ := bnd hB263638
          replace H := H.front 2 rfl
          dsimp only [List.eraseIdx] at H
          obtain ⟨hu264341, hj264342⟩ := app_alias (ds := [(.slice (some ⟨b263642, 0, none⟩) (x2.length : Int).toNat (x2.length : Int).toNat)]) (j := 0) (u := (.slice (some ⟨b263642, 0, none⟩) (x2.length : Int).toNat (x2.length : Int).toNat)) (x := x263989) (H.okS (l := [NA (eI .i64) 1 v262926 c262927 x262928]) (by simp)) hx264339 rfl rfl
          refine ne (E_appN1 H Tryd.underlying84 ty23 rfl (by decide) rfl rfl hx264339) rfl rfl ?_
          rintro u264340 wd264343 H
          refine nq (Q_assign rfl) rfl rfl <| WL_nil <| x_block <| x_then <| R_nd <| nq (Q_move rfl) rfl rfl <| nq (Q_add rfl rfl) rfl rfl <| nq (Q_assign rfl) rfl rfl <| WL_nil ?_
          replace H := H.front 1 rfl
          dsimp only [List.eraseIdx] at H
          obtain rfl := Option.some.inj hB263638
          refine x_A fun a hf => ⟨_, rfl, u264340, (c262927 ++ ([(.slice (some ⟨b263642, 0, none⟩) (x2.length : Int).toNat (x2.length : Int).toNat)])), x264339, w64 (x262929 + 1), rfl, hf.sub ⟨rfl, rfl, rfl, rfl, trivial⟩, H⟩
      · replace hB263638 := itF hb hB263638
        refine C_exit <| x_then_exit <| x_then_exit <| x_block_exit ?_
        replace H := H.front 1 rfl
        dsimp only [List.eraseIdx] at H
        replace H := H.front 1 rfl
        dsimp only [List.eraseIdx] at H
        obtain rfl := Option.some.inj hB263638
        obtain rfl := hO263639 _ rfl
        refine x_A fun a hf => ⟨v262926, c262927, x262928, rfl, hf.sub ⟨rfl, rfl, rfl, trivial⟩, H⟩
  · rintro a wd264344 ⟨v262215, c262216, x262217, rfl, hf, H⟩
    try dsimp only at hF
    refine XX.at hf <| x_then <| C_seq <| R_nd <| nq (Q_assign rfl) rfl rfl <| WL_nil <| x_then <| C_block ?_
    replace H := H.front 1 rfl
    dsimp only [List.eraseIdx] at H
    replace H := H.front 1 rfl
    dsimp only [List.eraseIdx] at H
    refine C_iter (f := fun s => F_dofferref19_Far_l2 N x2 s.1 s.2) hF (fun s a w' => ∃ (c434885 : (List Value)) (x434886 : (List (List Int))) (x434887 : Int), (x434886, x434887) = s ∧ Fr 108 a [(1, .pointer (some ⟨b260086, 0, none⟩)), (3, .int .i64 (x2.length : Int)), (4, v262215), (8, .int .i64 x434887)] ∧ Hp C w' ρ (Box b260086 [v1, v4, v7] :: NA (eI .i64) 1 v262215 c434885 x434886 :: hs)) ?_ ?_
    · exact fun a hf => ⟨c262216, x262217, 1, rfl, hf.sub ⟨rfl, rfl, rfl, rfl, trivial⟩, H⟩
    · rintro s o477522 a wd477525 ⟨c434885, x434886, x434887, rfl, hf, H⟩ hB477523 hO477524
      replace hB477523 : F_dofferref19_Far_l2 N x2 x434886 x434887 = some o477522 := hB477523
      unfold F_dofferref19_Far_l2 at hB477523
      refine CW.at hf <| C_seq <| C_block <| C_seq <| R_nd <| nq (Q_assign rfl) rfl rfl <| WL_nil <| x_then <| C_seq <| C_seq <| R_nd <| nq (Q_assign rfl) rfl rfl <| WL_nil <| x_then ?_
      obtain ⟨o498842, ho498842, hB477523⟩ := bnd hB477523
      refine C_cutQ (fun a w' => ∃ (c498839 : (List Value)) (x498840 : (List (List Int))) (x498841 : Bool), (x498840, x498841) = o498842 ∧ Fr 108 a [(1, .pointer (some ⟨b260086, 0, none⟩)), (3, .int .i64 (x2.length : Int)), (4, v262215), (8, .int .i64 x434887), (9, .bool x498841)] ∧ Hp C w' ρ (Box b260086 [v1, v4, v7] :: NA (eI .i64) 1 v262215 c498839 x498840 :: hs)) ?_ ?_
      · refine C_block ?_
        replace H := H.front 1 rfl
        dsimp only [List.eraseIdx] at H
        replace H := H.front 1 rfl
        dsimp only [List.eraseIdx] at H
        refine C_iter (f := fun s => F_dofferref19_Far_l3 N x2 x434887 s.1 s.2.1 s.2.2) ho498842 (fun s a w' => ∃ (c505947 : (List Value)) (x505946 : Int) (x505948 : (List (List Int))) (x505949 : Bool), (x505946, x505948, x505949) = s ∧ Fr 108 a [(1, .pointer (some ⟨b260086, 0, none⟩)), (3, .int .i64 (x2.length : Int)), (4, v262215), (8, .int .i64 x434887), (9, .bool x505949), (10, .int .i64 x505946)] ∧ Hp C w' ρ (Box b260086 [v1, v4, v7] :: NA (eI .i64) 1 v262215 c505947 x505948 :: hs)) ?_ ?_
        · exact fun a hf => ⟨c434885, 0, x434886, false, rfl, hf.sub ⟨rfl, rfl, rfl, rfl, rfl, rfl, trivial⟩, H⟩
        · rintro s o513053 a wd513056 ⟨c505947, x505946, x505948, x505949, rfl, hf, H⟩ hB513054 hO513055
          replace hB513054 : F_dofferref19_Far_l3 N x2 x434887 x505946 x505948 x505949 = some o513053 := hB513054
          unfold F_dofferref19_Far_l3 at hB513054
          refine CW.at hf <| C_seq <| C_seq <| R_nd <| nq (Q_move rfl) rfl rfl <| nq (Q_move rfl) rfl rfl <| nq (Q_lss rfl rfl) rfl rfl <| WL_nil <| x_then ?_
          refine C_cond rfl (fun hb => ?_) (fun hb => ?_)
          · replace hB513054 := itT hb hB513054
            refine C_skip <| x_then <| C_seq <| C_block <| C_seq <| R_nd <| nq (Q_assign rfl) rfl rfl <| WL_nil <| x_then ?_
            obtain ⟨o516607, ho516607, hB513054⟩ := bnd hB513054
            refine C_cutQ (fun a w' => ∃ (c516604 : (List Value)) (x516605 : (List (List Int))) (x516606 : Bool), (x516605, x516606) = o516607 ∧ Fr 108 a [(1, .pointer (some ⟨b260086, 0, none⟩)), (3, .int .i64 (x2.length : Int)), (4, v262215), (8, .int .i64 x434887), (9, .bool x516606), (10, .int .i64 x505946)] ∧ Hp C w' ρ (Box b260086 [v1, v4, v7] :: NA (eI .i64) 1 v262215 c516604 x516605 :: hs)) ?_ ?_
            · refine C_block ?_
              replace H := H.front 1 rfl
              dsimp only [List.eraseIdx] at H
              replace H := H.front 1 rfl
              dsimp only [List.eraseIdx] at H
              refine C_iter (f := fun s => F_dofferref19_Far_l4 N x2 x434887 x505946 s.1 s.2.1 s.2.2) ho516607 (fun s a w' => ∃ (c517790 : (List Value)) (x517789 : Int) (x517791 : (List (List Int))) (x517792 : Bool), (x517789, x517791, x517792) = s ∧ Fr 108 a [(1, .pointer (some ⟨b260086, 0, none⟩)), (3, .int .i64 (x2.length : Int)), (4, v262215), (8, .int .i64 x434887), (9, .bool x517792), (10, .int .i64 x505946), (11, .int .i64 x517789)] ∧ Hp C w' ρ (Box b260086 [v1, v4, v7] :: NA (eI .i64) 1 v262215 c517790 x517791 :: hs)) ?_ ?_
              · exact fun a hf => ⟨c505947, 0, x505948, x505949, rfl, hf.sub ⟨rfl, rfl, rfl, rfl, rfl, rfl, rfl, trivial⟩, H⟩
              · rintro s o518974 a wd518977 ⟨c517790, x517789, x517791, x517792, rfl, hf, H⟩ hB518975 hO518976
                replace hB518975 : F_dofferref19_Far_l4 N x2 x434887 x505946 x517789 x517791 x517792 = some o518974 := hB518975
                unfold F_dofferref19_Far_l4 at hB518975
                refine CW.at hf <| C_seq <| C_seq <| R_nd <| nq (Q_move rfl) rfl rfl <| nq (Q_move rfl) rfl rfl <| nq (Q_lss rfl rfl) rfl rfl <| WL_nil <| x_then ?_
                refine C_cond rfl (fun hb => ?_) (fun hb => ?_)
                · replace hB518975 := itT hb hB518975
                  refine C_skip <| x_then <| C_seq <| C_block <| C_seq <| R_nd <| nq (Q_assign rfl) rfl rfl <| WL_nil <| x_then ?_
                  obtain ⟨o519567, ho519567, hB518975⟩ := bnd hB518975
                  refine C_cutQ (fun a w' => ∃ (c519564 : (List Value)) (x519565 : (List (List Int))) (x519566 : Bool), (x519565, x519566) = o519567 ∧ Fr 108 a [(1, .pointer (some ⟨b260086, 0, none⟩)), (3, .int .i64 (x2.length : Int)), (4, v262215), (8, .int .i64 x434887), (9, .bool x519566), (10, .int .i64 x505946), (11, .int .i64 x517789)] ∧ Hp C w' ρ (Box b260086 [v1, v4, v7] :: NA (eI .i64) 1 v262215 c519564 x519565 :: hs)) ?_ ?_
                  · refine C_block ?_
                    replace H := H.front 1 rfl
                    dsimp only [List.eraseIdx] at H
                    replace H := H.front 1 rfl
                    dsimp only [List.eraseIdx] at H
                    refine C_iter (f := fun s => F_dofferref19_Far_l5 N x2 x434887 x505946 x517789 s.1 s.2.1 s.2.2) ho519567 (fun s a w' => ∃ (c519763 : (List Value)) (x519762 : Int) (x519764 : (List (List Int))) (x519765 : Bool), (x519762, x519764, x519765) = s ∧ Fr 108 a [(1, .pointer (some ⟨b260086, 0, none⟩)), (3, .int .i64 (x2.length : Int)), (4, v262215), (8, .int .i64 x434887), (9, .bool x519765), (10, .int .i64 x505946), (11, .int .i64 x517789), (12, .int .i64 x519762)] ∧ Hp C w' ρ (Box b260086 [v1, v4, v7] :: NA (eI .i64) 1 v262215 c519763 x519764 :: hs)) ?_ ?_
                    · exact fun a hf => ⟨c517790, 0, x517791, x517792, rfl, hf.sub ⟨rfl, rfl, rfl, rfl, rfl, rfl, rfl, rfl, trivial⟩, H⟩
                    · rintro s o519960 a wd519963 ⟨c519763, x519762, x519764, x519765, rfl, hf, H⟩ hB519961 hO519962
                      replace hB519961 : F_dofferref19_Far_l5 N x2 x434887 x505946 x517789 x519762 x519764 x519765 = some o519960 := hB519961
                      unfold F_dofferref19_Far_l5 at hB519961
                      refine CW.at hf <| C_seq ?_
                      obtain ⟨o519979, ho519979, hB519961⟩ := bnd hB519961
                      refine C_cut (fun a w' => ∃ (x519978 : Bool), x519978 = o519979 ∧ Fr 108 a [(1, .pointer (some ⟨b260086, 0, none⟩)), (3, .int .i64 (x2.length : Int)), (4, v262215), (8, .int .i64 x434887), (9, .bool x519765), (10, .int .i64 x505946), (11, .int .i64 x517789), (12, .int .i64 x519762), (73, .bool x519978)] ∧ Hp C w' ρ (Box b260086 [v1, v4, v7] :: NA (eI .i64) 1 v262215 c519763 x519764 :: hs)) ?_ ?_
                      · refine R_nd <| nq (Q_move rfl) rfl rfl <| nq (Q_lss rfl rfl) rfl rfl <| nq (Q_move rfl) rfl rfl ?_
                        rcases Bool.eq_false_or_eq_true (decide (x519762 < 256)) with hb | hb
                        · rw [hb]
                          replace ho519979 := itT hb ho519979
                          refine gq (Q_move rfl) rfl rfl rfl <| gq (Q_move rfl) rfl rfl rfl ?_
                          obtain ⟨x519980, hx519980, ho519979⟩ := bnd ho519979
                          obtain ⟨b519981, o519982, u519984, hi519983, hu519985, ha519986, hl519987, hj519988⟩ := na_at1 (by decide) (H.okS (l := [NA (eI .i64) 1 v262215 c519763 x519764]) (by simp)) hx519980
                          refine gq (Q_idx hi519983 Tryd.underlying84 ty23 rfl rfl) rfl rfl rfl <| gq (v := u519984) (Q_ld (ha519986 _ (Ok.subS (by simp) H.ok)) ty23 rfl (fun _ => rfl) rfl rfl) rfl rfl rfl <| gq (Q_move rfl) rfl rfl rfl ?_
                          obtain ⟨x519989, hx519989, ho519979⟩ := bnd ho519979
                          obtain ⟨b519990, o519991, hi519992, ha519993⟩ := inn_at (by decide) (H.okS (l := [NA (eI .i64) 1 v262215 c519763 x519764]) (by simp)) hu519985 hj519988 hx519989
                          refine gq (Q_idx hi519992 Tryd.underlying23 ty3 rfl rfl) rfl rfl rfl <| gq (v := .int .i64 x519989) (Q_ld (show cellsAt _ _ _ [.int .i64 x519989] from match ha519993 _ (Ok.subS (by simp) H.ok) with | ⟨_, rfl, h⟩ => h) ty3 rfl (fun _ => rfl) rfl rfl) rfl rfl rfl <| gq (Q_lss rfl rfl) rfl rfl rfl <| nq (Q_pickT rfl rfl) rfl rfl <| WL_nil ?_
                          replace H := H.front 1 rfl
                          dsimp only [List.eraseIdx] at H
                          replace H := H.front 1 rfl
                          dsimp only [List.eraseIdx] at H
                          obtain rfl := Option.some.inj ho519979
                          refine x_A fun a hf => ⟨decide (x519989 < 0), rfl, hf.sub ⟨rfl, rfl, rfl, rfl, rfl, rfl, rfl, rfl, rfl, trivial⟩, H⟩
                        · rw [hb]
                          replace ho519979 := itF hb ho519979
                          refine gs rfl rfl rfl rfl <| gs rfl rfl rfl rfl <| gs rfl rfl rfl rfl <| gs rfl rfl rfl rfl <| gs rfl rfl rfl rfl <| gs rfl rfl rfl rfl <| gs rfl rfl rfl rfl <| gs rfl rfl rfl rfl <| nq (Q_pickF rfl rfl) rfl rfl <| WL_nil ?_
                          replace H := H.front 1 rfl
                          dsimp only [List.eraseIdx] at H
                          replace H := H.front 1 rfl
                          dsimp only [List.eraseIdx] at H
                          obtain rfl := Option.some.inj ho519979
                          refine x_A fun a hf => ⟨false, rfl, hf.sub ⟨rfl, rfl, rfl, rfl, rfl, rfl, rfl, rfl, rfl, trivial⟩, H⟩
                      · rintro a wd519994 ⟨x519978, rfl, hf, H⟩
                        try dsimp only at hB519961
                        refine CW.at hf ?_
                        refine C_cond rfl (fun hb => ?_) (fun hb => ?_)
                        · replace hB519961 := itT hb hB519961
                          refine C_skip <| x_then ?_
                          obtain ⟨o520075, ho520075, hB519961⟩ := bnd hB519961
                          refine C_cut (fun a w' => ∃ (c520072 : (List Value)) (x520073 : (List (List Int))) (x520074 : Bool), (x520073, x520074) = o520075 ∧ Fr 108 a [(1, .pointer (some ⟨b260086, 0, none⟩)), (3, .int .i64 (x2.length : Int)), (4, v262215), (8, .int .i64 x434887), (9, .bool x520074), (10, .int .i64 x505946), (11, .int .i64 x517789), (12, .int .i64 x519762)] ∧ Hp C w' ρ (Box b260086 [v1, v4, v7] :: NA (eI .i64) 1 v262215 c520072 x520073 :: hs)) ?_ ?_
                          · refine C_block <| C_seq <| R_dr (.take 0 (.take 1 (.take 2 (.take 3 (.take 4 (.take 5 (.take 6 (.take 7 (.take 8 (.take 9 (.take 10 (.take 11 (.take 12 (.take 13 (.take 14 (.take 15 (.take 16 (.take 17 (.take 18 (.take 19 (.take 20 (.take 21 .done)))))))))))))))))))))) (fun w' => Ok w' ρ [Box b260086 [v1, v4, v7], NA (eI .i64) 1 v262215 c519763 x519764]) (by kernel_rfl) (by kernel_rfl) (by kernel_rfl) (H.drew.okS (by simp)) ?_
                            replace H := H.drew
                            refine dq rfl (fun _ _ => Q_move rfl) rfl rfl <| dq (v := .pointer (some ⟨b260086, 0, none⟩)) rfl (fun _ _ => Q_fld Tryd.underlying29 rfl ty27 (by decide) rfl rfl) rfl rfl <| dq (v := v1) rfl (fun _ hw => Q_ldB (k := 0) (cs := [v1]) hw rfl ty27 rfl rfl rfl (fun _ => rfl) rfl) rfl rfl <| dq rfl (fun _ _ => Q_move rfl) rfl rfl <| dq rfl (fun _ _ => Q_move rfl) rfl rfl ?_
                            obtain ⟨x520076, hx520076, ho520075⟩ := bnd ho520075
                            obtain ⟨b520077, o520078, c520079, hc520080, ha520081, hi520082⟩ := idxR r3 hx520076
                            refine dq rfl (fun _ _ => Q_idx hi520082 Tryd.underlying27 ty57 rfl rfl) rfl rfl ?_
                            obtain ⟨x520083, hx520083, ho520075⟩ := bnd ho520075
                            have hn520084 := idx_lt hc520080.1 hx520083
                            refine dq rfl (fun _ _ => Q_idxA hn520084.1 hn520084.2 Tryd.underlying57 ty3 rfl rfl) rfl rfl ?_
                            obtain ⟨c520085, hc520086, ha520087, _⟩ := arrR hc520080 ha520081 hx520083
                            refine dq (v := .int .i64 x520083) rfl (fun _ hw => Q_ld (show cellsAt _ _ _ [.int .i64 x520083] from (show _ = [_] from hc520086) ▸ (ha520087.up hw.view)) ty3 rfl (fun _ => rfl) rfl rfl) rfl rfl ?_
                            obtain ⟨x520088, hx520088, ho520075⟩ := bnd ho520075
                            obtain ⟨b520089, o520090, u520092, hi520091, hu520093, ha520094, hl520095, hj520096⟩ := na_at1 (by decide) (H.okS (l := [NA (eI .i64) 1 v262215 c519763 x519764]) (by simp)) hx520088
                            refine dq rfl (fun _ _ => Q_idx hi520091 Tryd.underlying84 ty23 rfl rfl) rfl rfl <| dq (v := u520092) rfl (fun _ hw => Q_ld (ha520094 _ (Ok.subS (by simp) hw)) ty23 rfl (fun _ => rfl) rfl rfl) rfl rfl <| dq (v := .pointer (some ⟨b260086, 0, none⟩)) rfl (fun _ _ => Q_fld Tryd.underlying29 rfl ty27 (by decide) rfl rfl) rfl rfl <| dq (v := v1) rfl (fun _ hw => Q_ldB (k := 0) (cs := [v1]) hw rfl ty27 rfl rfl rfl (fun _ => rfl) rfl) rfl rfl <| dq rfl (fun _ _ => Q_move rfl) rfl rfl <| dq rfl (fun _ _ => Q_move rfl) rfl rfl ?_
                            obtain ⟨x520097, hx520097, ho520075⟩ := bnd ho520075
                            obtain ⟨b520098, o520099, c520100, hc520101, ha520102, hi520103⟩ := idxR r3 hx520097
                            refine dq rfl (fun _ _ => Q_idx hi520103 Tryd.underlying27 ty57 rfl rfl) rfl rfl ?_
                            obtain ⟨x520104, hx520104, ho520075⟩ := bnd ho520075
                            have hn520105 := idx_lt hc520101.1 hx520104
                            refine dq rfl (fun _ _ => Q_idxA hn520105.1 hn520105.2 Tryd.underlying57 ty3 rfl rfl) rfl rfl ?_
                            obtain ⟨c520106, hc520107, ha520108, _⟩ := arrR hc520101 ha520102 hx520104
                            refine dq (v := .int .i64 x520104) rfl (fun _ hw => Q_ld (show cellsAt _ _ _ [.int .i64 x520104] from (show _ = [_] from hc520107) ▸ (ha520108.up hw.view)) ty3 rfl (fun _ => rfl) rfl rfl) rfl rfl ?_
                            obtain ⟨x520109, hx520109, ho520075⟩ := bnd ho520075
                            obtain ⟨b520110, o520111, hi520112, ha520113⟩ := inn_at (by decide) (H.okS (l := [NA (eI .i64) 1 v262215 c519763 x519764]) (by simp)) hu520093 hj520096 hx520109
                            refine dq rfl (fun _ _ => Q_idx hi520112 Tryd.underlying23 ty3 rfl rfl) rfl rfl <| dq (v := .int .i64 x520109) rfl (fun _ hw => Q_ld (show cellsAt _ _ _ [.int .i64 x520109] from match ha520113 _ (Ok.subS (by simp) hw) with | ⟨_, rfl, h⟩ => h) ty3 rfl (fun _ => rfl) rfl rfl) rfl rfl <| dq rfl (fun _ _ => Q_move rfl) rfl rfl <| dq rfl (fun _ _ => Q_sub rfl rfl) rfl rfl <| dq rfl (fun _ _ => Q_eql rfl rfl) rfl rfl <| DL_nil <| x_then ?_
                            obtain ⟨o520134, ho520134, ho520075⟩ := bnd ho520075
                            refine C_cutQ (fun a w' => ∃ (c520131 : (List Value)) (x520132 : (List (List Int))) (x520133 : Bool), (x520132, x520133) = o520134 ∧ Fr 108 a [(1, .pointer (some ⟨b260086, 0, none⟩)), (3, .int .i64 (x2.length : Int)), (4, v262215), (8, .int .i64 x434887), (9, .bool x520133), (10, .int .i64 x505946), (11, .int .i64 x517789), (12, .int .i64 x519762)] ∧ Hp C w' ρ (Box b260086 [v1, v4, v7] :: NA (eI .i64) 1 v262215 c520131 x520132 :: hs)) ?_ ?_
                            · refine C_cond rfl (fun hb => ?_) (fun hb => ?_)
                              · replace ho520134 := itT hb ho520134
                                refine C_seq <| R_nd <| nq (Q_move rfl) rfl rfl <| nq (Q_move rfl) rfl rfl ?_
                                obtain ⟨x520135, hx520135, ho520134⟩ := bnd ho520134
                                obtain ⟨b520136, o520137, u520139, hi520138, hu520140, ha520141, hl520142, hj520143⟩ := na_at1 (by decide) (H.okS (l := [NA (eI .i64) 1 v262215 c519763 x519764]) (by simp)) hx520135
                                refine nq (Q_idx hi520138 Tryd.underlying84 ty23 rfl rfl) rfl rfl <| nq (v := u520139) (Q_ld (ha520141 _ (Ok.subS (by simp) H.ok)) ty23 rfl (fun _ => rfl) rfl rfl) rfl rfl <| nq (Q_move rfl) rfl rfl <| nq (Q_move rfl) rfl rfl ?_
                                obtain ⟨x520144, hx520144, ho520134⟩ := bnd ho520134
                                obtain ⟨b520145, o520146, hi520147, ha520148⟩ := inn_at (by decide) (H.okS (l := [NA (eI .i64) 1 v262215 c519763 x519764]) (by simp)) hu520140 hj520143 hx520144
                                refine nq (Q_idx hi520147 Tryd.underlying23 ty3 rfl rfl) rfl rfl ?_
                                replace H := H.front 1 rfl
                                dsimp only [List.eraseIdx] at H
                                obtain ⟨x520149, hx520149, ho520134⟩ := bnd ho520134
                                obtain ⟨x520150, hx520150, ho520134⟩ := bnd ho520134
                                refine ne (E_stI1 (flat_I _) H hu520140 hj520143 ty3 rfl hi520147 rfl rfl rfl (show ((eI .i64)).rd _ _ _ from rfl) hx520149 hx520150) rfl rfl ?_
                                rintro _ wd520151 H
                                refine WL_nil <| x_then <| R_nd <| nq (Q_assign rfl) rfl rfl <| WL_nil ?_
                                replace H := H.front 1 rfl
                                dsimp only [List.eraseIdx] at H
                                obtain rfl := Option.some.inj ho520134
                                refine x_A fun a hf => ⟨c519763, x520150, true, rfl, hf.sub ⟨rfl, rfl, rfl, rfl, rfl, rfl, rfl, rfl, trivial⟩, H⟩
                              · replace ho520134 := itF hb ho520134
                                refine C_skip ?_
                                replace H := H.front 1 rfl
                                dsimp only [List.eraseIdx] at H
                                replace H := H.front 1 rfl
                                dsimp only [List.eraseIdx] at H
                                obtain rfl := Option.some.inj ho520134
                                refine x_A fun a hf => ⟨c519763, x519764, x519765, rfl, hf.sub ⟨rfl, rfl, rfl, rfl, rfl, rfl, rfl, rfl, trivial⟩, H⟩
                            · rintro a wd520152 ⟨c520131, x520132, x520133, rfl, hf, H⟩
                              try dsimp only at ho520075
                              refine XX.at hf <| x_block ?_
                              replace H := H.front 1 rfl
                              dsimp only [List.eraseIdx] at H
                              replace H := H.front 1 rfl
                              dsimp only [List.eraseIdx] at H
                              obtain rfl := Option.some.inj ho520075
                              refine x_A fun a hf => ⟨c520131, x520132, x520133, rfl, hf.sub ⟨rfl, rfl, rfl, rfl, rfl, rfl, rfl, rfl, trivial⟩, H⟩
                          · rintro a wd520153 ⟨c520072, x520073, x520074, rfl, hf, H⟩
                            try dsimp only at hB519961
                            refine CW.at hf <| R_nd <| nq (Q_move rfl) rfl rfl <| nq (Q_add rfl rfl) rfl rfl <| nq (Q_assign rfl) rfl rfl <| WL_nil ?_
                            replace H := H.front 1 rfl
                            dsimp only [List.eraseIdx] at H
                            replace H := H.front 1 rfl
                            dsimp only [List.eraseIdx] at H
                            obtain rfl := Option.some.inj hB519961
                            refine x_A fun a hf => ⟨_, rfl, c520072, w64 (x519762 + 1), x520073, x520074, rfl, hf.sub ⟨rfl, rfl, rfl, rfl, rfl, rfl, rfl, rfl, trivial⟩, H⟩
                        · replace hB519961 := itF hb hB519961
                          refine C_exit <| x_then_exit <| x_then_exit <| x_block_exit ?_
                          replace H := H.front 1 rfl
                          dsimp only [List.eraseIdx] at H
                          replace H := H.front 1 rfl
                          dsimp only [List.eraseIdx] at H
                          obtain rfl := Option.some.inj hB519961
                          obtain rfl := hO519962 _ rfl
                          refine x_A fun a hf => ⟨c519763, x519764, x519765, rfl, hf.sub ⟨rfl, rfl, rfl, rfl, rfl, rfl, rfl, trivial⟩, H⟩
                  · rintro a wd520154 ⟨c519564, x519565, x519566, rfl, hf, H⟩
                    try dsimp only at hB518975
                    refine XX.at hf <| x_block <| x_then <| R_nd <| nq (Q_move rfl) rfl rfl <| nq (Q_add rfl rfl) rfl rfl <| nq (Q_assign rfl) rfl rfl <| WL_nil ?_
                    replace H := H.front 1 rfl
                    dsimp only [List.eraseIdx] at H
                    replace H := H.front 1 rfl
                    dsimp only [List.eraseIdx] at H
                    obtain rfl := Option.some.inj hB518975
                    refine x_A fun a hf => ⟨_, rfl, c519564, w64 (x517789 + 1), x519565, x519566, rfl, hf.sub ⟨rfl, rfl, rfl, rfl, rfl, rfl, rfl, trivial⟩, H⟩
                · replace hB518975 := itF hb hB518975
                  refine C_exit <| x_then_exit <| x_then_exit <| x_block_exit ?_
                  replace H := H.front 1 rfl
                  dsimp only [List.eraseIdx] at H
                  replace H := H.front 1 rfl
                  dsimp only [List.eraseIdx] at H
                  obtain rfl := Option.some.inj hB518975
                  obtain rfl := hO518976 _ rfl
                  refine x_A fun a hf => ⟨c517790, x517791, x517792, rfl, hf.sub ⟨rfl, rfl, rfl, rfl, rfl, rfl, trivial⟩, H⟩
            · rintro a wd520155 ⟨c516604, x516605, x516606, rfl, hf, H⟩
              try dsimp only at hB513054
              refine XX.at hf <| x_block <| x_then <| R_nd <| nq (Q_move rfl) rfl rfl <| nq (Q_add rfl rfl) rfl rfl <| nq (Q_assign rfl) rfl rfl <| WL_nil ?_
              replace H := H.front 1 rfl
              dsimp only [List.eraseIdx] at H
              replace H := H.front 1 rfl
              dsimp only [List.eraseIdx] at H
              obtain rfl := Option.some.inj hB513054
              refine x_A fun a hf => ⟨_, rfl, c516604, w64 (x505946 + 1), x516605, x516606, rfl, hf.sub ⟨rfl, rfl, rfl, rfl, rfl, rfl, trivial⟩, H⟩
          · replace hB513054 := itF hb hB513054
            refine C_exit <| x_then_exit <| x_then_exit <| x_block_exit ?_
            replace H := H.front 1 rfl
            dsimp only [List.eraseIdx] at H
            replace H := H.front 1 rfl
            dsimp only [List.eraseIdx] at H
            obtain rfl := Option.some.inj hB513054
            obtain rfl := hO513055 _ rfl
            refine x_A fun a hf => ⟨c505947, x505948, x505949, rfl, hf.sub ⟨rfl, rfl, rfl, rfl, rfl, trivial⟩, H⟩
      · rintro a wd520156 ⟨c498839, x498840, x498841, rfl, hf, H⟩
        try dsimp only at hB477523
        refine XX.at hf <| x_then <| C_seq <| R_nd <| nq (Q_move rfl) rfl rfl <| nq (Q_not rfl) rfl rfl <| WL_nil <| x_then ?_
        refine C_cond rfl (fun hb => ?_) (fun hb => ?_)
        · replace hB477523 := itT hb hB477523
          refine C_seq <| R_nd <| nq (Q_move rfl) rfl rfl <| nq (Q_assign rfl) rfl rfl <| WL_nil <| x_then <| C_ret <| x_block_ret <| x_then_ret <| x_then_ret <| x_block_ret ?_
          replace H := H.front 1 rfl
          dsimp only [List.eraseIdx] at H
          replace H := H.drop 1 rfl
          dsimp only [List.eraseIdx] at H
          obtain rfl := Option.some.inj hB477523
          obtain rfl := hO477524 _ rfl
          exact fn_ret (l := [.tmp 2]) (vs := [v262215]) rfl rfl rfl ⟨v262215, c498839, x498840, rfl, rfl, H⟩
        · replace hB477523 := itF hb hB477523
          refine C_skip <| x_block <| x_then <| R_nd <| nq (Q_move rfl) rfl rfl <| nq (Q_add rfl rfl) rfl rfl <| nq (Q_assign rfl) rfl rfl <| WL_nil ?_
          replace H := H.front 1 rfl
          dsimp only [List.eraseIdx] at H
          replace H := H.front 1 rfl
          dsimp only [List.eraseIdx] at H
          obtain rfl := Option.some.inj hB477523
          refine x_A fun a hf => ⟨_, rfl, c498839, x498840, w64 (x434887 + 1), rfl, hf.sub ⟨rfl, rfl, rfl, rfl, trivial⟩, H⟩
theorem c_47 {N : Nat} {C : Cx} {w : World} {ρ : View} {hs : List Hl} {v1 : Value} {v4 : Value} {v7 : Value} {x2 : (List (List Int))} {x5 : (List Int)} {x8 : (List Int)} (H : Hp C w ρ (hs)) (r3 : RdSl ρ (eA 256 (eI .i64)) v1 x2) (r6 : RdSl ρ (eI .i64) v4 x5) (r9 : RdSl ρ (eI .i64) v7 x8) {r : (List Int)} (hF : F_dofferref19_Parts N x2 x5 x8 = some r) :
    Calls Tryd.prog 47 [.agg #[v1, v4, v7]].toArray w (Rets (fun v w' => (∃ (v5428 : Value) (c5429 : (List Value)) (x5430 : (List Int)), x5430 = r ∧ v5428 = v ∧ rdL (eI .i64) ρ x5430 c5429 ∧ Hp C w' ρ (Arr v5428 1 c5429 :: hs)))) := by
  unfold F_dofferref19_Parts at hF
  have h0 : Tryd.f47.body = some _ := rfl
  refine fn_calls' Tryd.func47 h0 (n := 50) rfl (by simp) <| C_seq <| R_nd <| ne (E_box H (vs := [v1, v4, v7]) rfl rfl) rfl rfl ?_
  rintro _ wd5433 ⟨b5432, rfl, H⟩
  refine nq (Q_assign rfl) rfl rfl <| WL_nil <| x_then <| C_seq <| R_nd <| nq (v := .agg #[v1, v4, v7]) (Q_ldB (k := 0) (cs := [v1, v4, v7]) H.ok rfl ty29 rfl rfl rfl (fun h => nomatch h) rfl) rfl rfl ?_
  obtain ⟨q5434, hq5434, hF⟩ := bnd hF
  refine ne (E_call fn73 rfl (c_73 H  r3 r6 r9 hq5434)) rfl rfl ?_
  rintro _ wd5439 ⟨v5436, c5437, x5438, rfl, rfl, H⟩
  try dsimp only at hF
  refine nq (Q_assign rfl) rfl rfl <| WL_nil <| x_then <| C_seq <| R_nd <| ne (E_bslice0 H Tryd.underlying23 ty3) rfl rfl ?_
  rintro _ wd5441 ⟨b5440, rfl, H⟩
  refine nq (Q_assign rfl) rfl rfl <| WL_nil <| x_then <| C_seq <| R_nd <| nq (Q_assign rfl) rfl rfl <| WL_nil <| x_then <| C_seq <| C_seq <| R_nd <| nq (v := .pointer (some ⟨b5432, 0, none⟩)) (Q_fld Tryd.underlying29 rfl ty27 (by decide) rfl rfl) rfl rfl <| nq (v := v1) (Q_ldB (k := 2) (cs := [v1]) H.ok rfl ty27 rfl rfl rfl (fun _ => rfl) rfl) rfl rfl <| nq (Q_len Tryd.underlying27 rfl r3) rfl rfl ?_
  refine nq (Q_move rfl) rfl rfl <| WL_nil <| x_then ?_
  obtain ⟨o8147, ho8147, hF⟩ := bnd hF
  refine C_cutQ (fun a w' => ∃ (v8143 : Value) (c8144 : (List Value)) (x8145 : (List Int)), x8145 = o8147 ∧ rdL (eI .i64) ρ x8145 c8144 ∧ Fr 50 a [(4, v8143)] ∧ Hp C w' ρ (Arr v8143 1 c8144 :: hs)) ?_ ?_
  · refine C_block ?_
    replace H := H.front 1 rfl
    dsimp only [List.eraseIdx] at H
    replace H := H.drop 2 rfl
    dsimp only [List.eraseIdx] at H
    refine C_iter (f := fun s => F_dofferref19_Parts_l0 N x2 x5438 s.1 s.2.1 s.2.2) ho8147 (fun s a w' => ∃ (v9048 : Value) (c9049 : (List Value)) (x9047 : Int) (x9050 : (List Int)) (x9052 : Int), (x9047, x9050, x9052) = s ∧ rdL (eI .i64) ρ x9050 c9049 ∧ Fr 50 a [(3, v5436), (4, v9048), (5, .int .i64 x9052), (14, .int .i64 (x2.length : Int)), (15, .int .i64 x9047)] ∧ Hp C w' ρ (NA (eI .i64) 1 v5436 c5437 x5438 :: Arr v9048 1 c9049 :: hs)) ?_ ?_
    · exact fun a hf => ⟨(.slice (some ⟨b5440, 0, none⟩) 0 0), [], 0, [], 0, rfl, rdL.nil, hf.sub ⟨rfl, rfl, rfl, rfl, rfl, trivial⟩, H⟩
    · rintro s o9952 a wd9955 ⟨v9048, c9049, x9047, x9050, x9052, rfl, r9051, hf, H⟩ hB9953 hO9954
      replace hB9953 : F_dofferref19_Parts_l0 N x2 x5438 x9047 x9050 x9052 = some o9952 := hB9953
      unfold F_dofferref19_Parts_l0 at hB9953
      refine CW.at hf <| C_seq <| R_nd <| nq (Q_lss rfl rfl) rfl rfl <| WL_nil <| x_then <| C_seq ?_
      refine C_cond rfl (fun hb => ?_) (fun hb => ?_)
      · replace hB9953 := itT hb hB9953
        refine C_skip <| x_then ?_
        obtain ⟨o10404, ho10404, hB9953⟩ := bnd hB9953
        refine C_cut (fun a w' => ∃ (v10399 : Value) (c10400 : (List Value)) (x10401 : (List Int)) (x10403 : Int), (x10401, x10403) = o10404 ∧ rdL (eI .i64) ρ x10401 c10400 ∧ Fr 50 a [(3, v5436), (4, v10399), (5, .int .i64 x10403), (14, .int .i64 (x2.length : Int)), (15, .int .i64 x9047)] ∧ Hp C w' ρ (NA (eI .i64) 1 v5436 c5437 x5438 :: Arr v10399 1 c10400 :: hs)) ?_ ?_
        · refine C_block <| C_seq <| R_nd <| nq (Q_move rfl) rfl rfl <| nq (Q_assign rfl) rfl rfl <| WL_nil <| x_then <| C_seq <| R_nd <| nq (Q_assign rfl) rfl rfl <| WL_nil <| x_then <| C_seq <| C_seq ?_
          refine R_nd <| nq (Q_assign rfl) rfl rfl <| WL_nil <| x_then ?_
          obtain ⟨o10620, ho10620, ho10404⟩ := bnd ho10404
          refine C_cutQ (fun a w' => ∃ (x10619 : Int), x10619 = o10620 ∧ Fr 50 a [(3, v5436), (4, v9048), (5, .int .i64 x9052), (7, .int .i64 x10619), (14, .int .i64 (x2.length : Int)), (15, .int .i64 x9047)] ∧ Hp C w' ρ (NA (eI .i64) 1 v5436 c5437 x5438 :: Arr v9048 1 c9049 :: hs)) ?_ ?_
          · refine C_block ?_
            replace H := H.front 1 rfl
            dsimp only [List.eraseIdx] at H
            replace H := H.front 1 rfl
            dsimp only [List.eraseIdx] at H
            refine C_iter (f := fun s => F_dofferref19_Parts_l1 N x5438 x9047 x9050 s.1 s.2) ho10620 (fun s a w' => ∃ (x10691 : Int) (x10692 : Int), (x10691, x10692) = s ∧ Fr 50 a [(3, v5436), (4, v9048), (5, .int .i64 x9052), (6, .int .i64 x9047), (7, .int .i64 x10691), (8, .int .i64 x10692), (14, .int .i64 (x2.length : Int)), (15, .int .i64 x9047)] ∧ Hp C w' ρ (NA (eI .i64) 1 v5436 c5437 x5438 :: Arr v9048 1 c9049 :: hs)) ?_ ?_
            · exact fun a hf => ⟨(-1), 0, rfl, hf.sub ⟨rfl, rfl, rfl, rfl, rfl, rfl, rfl, rfl, trivial⟩, H⟩
            · rintro s o10763 a wd10766 ⟨x10691, x10692, rfl, hf, H⟩ hB10764 hO10765
              replace hB10764 : F_dofferref19_Parts_l1 N x5438 x9047 x9050 x10691 x10692 = some o10763 := hB10764
              unfold F_dofferref19_Parts_l1 at hB10764
              refine CW.at hf <| C_seq ?_
              obtain ⟨o10768, ho10768, hB10764⟩ := bnd hB10764
              refine C_cut (fun a w' => ∃ (x10767 : Bool), x10767 = o10768 ∧ Fr 50 a [(3, v5436), (4, v9048), (5, .int .i64 x9052), (6, .int .i64 x9047), (7, .int .i64 x10691), (8, .int .i64 x10692), (14, .int .i64 (x2.length : Int)), (15, .int .i64 x9047), (24, .bool x10767)] ∧ Hp C w' ρ (NA (eI .i64) 1 v5436 c5437 x5438 :: Arr v9048 1 c9049 :: hs)) ?_ ?_
              · refine R_nd <| nq (Q_move rfl) rfl rfl <| nq (Q_move rfl) rfl rfl <| nq (Q_lss rfl rfl) rfl rfl <| nq (Q_move rfl) rfl rfl ?_
                rcases Bool.eq_false_or_eq_true (decide (x10692 < x9047)) with hb | hb
                · rw [hb]
                  replace ho10768 := itT hb ho10768
                  refine gq (Q_move rfl) rfl rfl rfl <| gq (Q_lss rfl rfl) rfl rfl rfl <| nq (Q_pickT rfl rfl) rfl rfl <| WL_nil ?_
                  replace H := H.front 1 rfl
                  dsimp only [List.eraseIdx] at H
                  replace H := H.front 1 rfl
                  dsimp only [List.eraseIdx] at H
                  obtain rfl := Option.some.inj ho10768
                  refine x_A fun a hf => ⟨decide (x10691 < 0), rfl, hf.sub ⟨rfl, rfl, rfl, rfl, rfl, rfl, rfl, rfl, rfl, trivial⟩, H⟩
                · rw [hb]
                  replace ho10768 := itF hb ho10768
                  refine gs rfl rfl rfl rfl <| gs rfl rfl rfl rfl <| nq (Q_pickF rfl rfl) rfl rfl <| WL_nil ?_
                  replace H := H.front 1 rfl
                  dsimp only [List.eraseIdx] at H
                  replace H := H.front 1 rfl
                  dsimp only [List.eraseIdx] at H
                  obtain rfl := Option.some.inj ho10768
                  refine x_A fun a hf => ⟨false, rfl, hf.sub ⟨rfl, rfl, rfl, rfl, rfl, rfl, rfl, rfl, rfl, trivial⟩, H⟩
              · rintro a wd10769 ⟨x10767, rfl, hf, H⟩
                try dsimp only at hB10764
                refine CW.at hf ?_
                refine C_cond rfl (fun hb => ?_) (fun hb => ?_)
                · replace hB10764 := itT hb hB10764
                  refine C_skip <| x_then ?_
                  obtain ⟨o10802, ho10802, hB10764⟩ := bnd hB10764
                  refine C_cut (fun a w' => ∃ (x10801 : Int), x10801 = o10802 ∧ Fr 50 a [(3, v5436), (4, v9048), (5, .int .i64 x9052), (6, .int .i64 x9047), (7, .int .i64 x10801), (8, .int .i64 x10692), (14, .int .i64 (x2.length : Int)), (15, .int .i64 x9047)] ∧ Hp C w' ρ (NA (eI .i64) 1 v5436 c5437 x5438 :: Arr v9048 1 c9049 :: hs)) ?_ ?_
                  · refine C_block <| C_seq <| R_nd <| nq (Q_move rfl) rfl rfl <| nq (Q_move rfl) rfl rfl ?_
                    obtain ⟨x10803, hx10803, ho10802⟩ := bnd ho10802
                    obtain ⟨b10804, o10805, u10807, hi10806, hu10808, ha10809, hl10810, hj10811⟩ := na_at1 (by decide) (H.okS (l := [NA (eI .i64) 1 v5436 c5437 x5438]) (by simp)) hx10803
                    refine nq (Q_idx hi10806 Tryd.underlying84 ty23 rfl rfl) rfl rfl <| nq (v := u10807) (Q_ld (ha10809 _ (Ok.subS (by simp) H.ok)) ty23 rfl (fun _ => rfl) rfl rfl) rfl rfl <| nq (Q_move rfl) rfl rfl ?_
                    obtain ⟨x10812, hx10812, ho10802⟩ := bnd ho10802
                    obtain ⟨b10813, o10814, hi10815, ha10816⟩ := inn_at (by decide) (H.okS (l := [NA (eI .i64) 1 v5436 c5437 x5438]) (by simp)) hu10808 hj10811 hx10812
                    refine nq (Q_idx hi10815 Tryd.underlying23 ty3 rfl rfl) rfl rfl <| nq (v := .int .i64 x10812) (Q_ld (show cellsAt _ _ _ [.int .i64 x10812] from match ha10816 _ (Ok.subS (by simp) H.ok) with | ⟨_, rfl, h⟩ => h) ty3 rfl (fun _ => rfl) rfl rfl) rfl rfl <| nq (Q_lss rfl rfl) rfl rfl <| WL_nil <| x_then ?_
                    obtain ⟨o10825, ho10825, ho10802⟩ := bnd ho10802
                    refine C_cutQ (fun a w' => ∃ (x10824 : Int), x10824 = o10825 ∧ Fr 50 a [(3, v5436), (4, v9048), (5, .int .i64 x9052), (6, .int .i64 x9047), (7, .int .i64 x10824), (8, .int .i64 x10692), (14, .int .i64 (x2.length : Int)), (15, .int .i64 x9047)] ∧ Hp C w' ρ (NA (eI .i64) 1 v5436 c5437 x5438 :: Arr v9048 1 c9049 :: hs)) ?_ ?_
                    · refine C_cond rfl (fun hb => ?_) (fun hb => ?_)
                      · replace ho10825 := itT hb ho10825
                        refine R_nd <| nq (Q_move rfl) rfl rfl <| nq (Q_move rfl) rfl rfl ?_
                        obtain ⟨x10826, hx10826, ho10825⟩ := bnd ho10825
                        obtain ⟨b10827, o10828, hi10832, hc10830, ha10831⟩ := arr_at (hs := [Arr v9048 1 c9049]) (k := 0) (by decide) (H.okS (by simp)) rfl r9051 hx10826
                        refine nq (Q_idx hi10832 Tryd.underlying23 ty3 rfl rfl) rfl rfl <| nq (v := .int .i64 x10826) (Q_ld (show cellsAt _ _ _ [.int .i64 x10826] from (show _ = [_] from hc10830) ▸ (ha10831 _ (Ok.subS (by simp) H.ok))) ty3 rfl (fun _ => rfl) rfl rfl) rfl rfl <| nq (Q_assign rfl) rfl rfl <| WL_nil ?_
                        replace H := H.front 1 rfl
                        dsimp only [List.eraseIdx] at H
                        replace H := H.front 1 rfl
                        dsimp only [List.eraseIdx] at H
                        obtain rfl := Option.some.inj ho10825
                        refine x_A fun a hf => ⟨x10826, rfl, hf.sub ⟨rfl, rfl, rfl, rfl, rfl, rfl, rfl, rfl, trivial⟩, H⟩
                      · replace ho10825 := itF hb ho10825
                        refine C_skip ?_
                        replace H := H.front 1 rfl
                        dsimp only [List.eraseIdx] at H
                        replace H := H.front 1 rfl
                        dsimp only [List.eraseIdx] at H
                        obtain rfl := Option.some.inj ho10825
                        refine x_A fun a hf => ⟨x10691, rfl, hf.sub ⟨rfl, rfl, rfl, rfl, rfl, rfl, rfl, rfl, trivial⟩, H⟩
                    · rintro a wd10833 ⟨x10824, rfl, hf, H⟩
                      try dsimp only at ho10802
                      refine XX.at hf <| x_block ?_
                      replace H := H.front 1 rfl
                      dsimp only [List.eraseIdx] at H
                      replace H := H.front 1 rfl
                      dsimp only [List.eraseIdx] at H
                      obtain rfl := Option.some.inj ho10802
                      refine x_A fun a hf => ⟨x10824, rfl, hf.sub ⟨rfl, rfl, rfl, rfl, rfl, rfl, rfl, rfl, trivial⟩, H⟩
                  · rintro a wd10834 ⟨x10801, rfl, hf, H⟩
                    try dsimp only at hB10764
                    refine CW.at hf <| R_nd <| nq (Q_move rfl) rfl rfl <| nq (Q_add rfl rfl) rfl rfl <| nq (Q_assign rfl) rfl rfl <| WL_nil ?_
                    replace H := H.front 1 rfl
                    dsimp only [List.eraseIdx] at H
                    replace H := H.front 1 rfl
                    dsimp only [List.eraseIdx] at H
                    obtain rfl := Option.some.inj hB10764
                    refine x_A fun a hf => ⟨_, rfl, x10801, w64 (x10692 + 1), rfl, hf.sub ⟨rfl, rfl, rfl, rfl, rfl, rfl, rfl, rfl, trivial⟩, H⟩
                · replace hB10764 := itF hb hB10764
                  refine C_exit <| x_then_exit <| x_then_exit <| x_block_exit ?_
                  replace H := H.front 1 rfl
                  dsimp only [List.eraseIdx] at H
                  replace H := H.front 1 rfl
                  dsimp only [List.eraseIdx] at H
                  obtain rfl := Option.some.inj hB10764
                  obtain rfl := hO10765 _ rfl
                  refine x_A fun a hf => ⟨x10691, rfl, hf.sub ⟨rfl, rfl, rfl, rfl, rfl, rfl, trivial⟩, H⟩
          · rintro a wd10835 ⟨x10619, rfl, hf, H⟩
            try dsimp only at ho10404
            refine XX.at hf <| x_then <| C_seq <| C_seq <| R_nd <| nq (Q_move rfl) rfl rfl <| nq (Q_lss rfl rfl) rfl rfl <| WL_nil <| x_then ?_
            obtain ⟨o10838, ho10838, ho10404⟩ := bnd ho10404
            refine C_cutQ (fun a w' => ∃ (x10836 : Int) (x10837 : Int), (x10836, x10837) = o10838 ∧ Fr 50 a [(3, v5436), (4, v9048), (5, .int .i64 x10836), (7, .int .i64 x10837), (14, .int .i64 (x2.length : Int)), (15, .int .i64 x9047)] ∧ Hp C w' ρ (NA (eI .i64) 1 v5436 c5437 x5438 :: Arr v9048 1 c9049 :: hs)) ?_ ?_
            · refine C_cond rfl (fun hb => ?_) (fun hb => ?_)
              · replace ho10838 := itT hb ho10838
                refine C_seq <| R_nd <| nq (Q_move rfl) rfl rfl <| nq (Q_assign rfl) rfl rfl <| WL_nil <| x_then <| R_nd <| nq (Q_move rfl) rfl rfl <| nq (Q_add rfl rfl) rfl rfl <| nq (Q_assign rfl) rfl rfl <| WL_nil ?_
                replace H := H.front 1 rfl
                dsimp only [List.eraseIdx] at H
                replace H := H.front 1 rfl
                dsimp only [List.eraseIdx] at H
                obtain rfl := Option.some.inj ho10838
                refine x_A fun a hf => ⟨w64 (x9052 + 1), x9052, rfl, hf.sub ⟨rfl, rfl, rfl, rfl, rfl, rfl, trivial⟩, H⟩
              · replace ho10838 := itF hb ho10838
                refine C_skip ?_
                replace H := H.front 1 rfl
                dsimp only [List.eraseIdx] at H
                replace H := H.front 1 rfl
                dsimp only [List.eraseIdx] at H
                obtain rfl := Option.some.inj ho10838
                refine x_A fun a hf => ⟨x9052, x10619, rfl, hf.sub ⟨rfl, rfl, rfl, rfl, rfl, rfl, trivial⟩, H⟩
            · rintro a wd10839 ⟨x10836, x10837, rfl, hf, H⟩
              try dsimp only at ho10404
              refine XX.at hf <| x_then <| R_nd <| nq (Q_move rfl) rfl rfl <| nq (Q_move rfl) rfl rfl <| ne (E_bslice (xs := [.tmp 45]) (vs := [.int .i64 x10837]) H Tryd.underlying23 ty3 (by decide) (cs := [.int .i64 x10837]) rfl (sz_cons rfl sz_nil) rfl (by simp) (by simp) rfl rfl) rfl rfl ?_
              rintro _ wd10841 ⟨b10840, rfl, H⟩
              obtain ⟨x10842, hx10842, ho10404⟩ := bnd ho10404
              obtain ⟨ha10843a, ha10843b⟩ := app_some hx10842
              have r10845 : rdL (eI .i64) ρ x10842 (c9049 ++ ([.int .i64 x10837])) := ha10843b ▸ rdL.app r9051 (show rdL (eI .i64) ρ ([x10837]) ([.int .i64 x10837]) from ⟨([.int .i64 x10837]), _, rfl, rfl, rdL.nil⟩)
              refine ne (E_append (k := 2) H rfl Tryd.underlying23 ty3 rfl (by decide) (by decide) rfl rfl (Src.ofArr (k := 0) H.ok rfl) (rdL.one (show rdL (eI .i64) ρ ([x10837]) ([.int .i64 x10837]) from ⟨([.int .i64 x10837]), _, rfl, rfl, rdL.nil⟩)) (app_fit r9051 (show rdL (eI .i64) ρ ([x10837]) ([.int .i64 x10837]) from ⟨([.int .i64 x10837]), _, rfl, rfl, rdL.nil⟩) ha10843a)) rfl rfl ?_
              rintro v10844 wd10847 ⟨H, hc10846⟩
              dsimp only [List.set] at H
              refine nq (Q_assign rfl) rfl rfl <| WL_nil <| x_block ?_
              replace H := H.front 2 rfl
              dsimp only [List.eraseIdx] at H
              replace H := H.front 2 rfl
              dsimp only [List.eraseIdx] at H
              replace H := H.drop 2 rfl
              dsimp only [List.eraseIdx] at H
              obtain rfl := Option.some.inj ho10404
              refine x_A fun a hf => ⟨v10844, (c9049 ++ ([.int .i64 x10837])), x10842, x10836, rfl, r10845, hf.sub ⟨rfl, rfl, rfl, rfl, rfl, trivial⟩, H⟩
        · rintro a wd10848 ⟨v10399, c10400, x10401, x10403, rfl, r10402, hf, H⟩
          try dsimp only at hB9953
          refine CW.at hf <| R_nd <| nq (Q_add rfl rfl) rfl rfl <| nq (Q_move rfl) rfl rfl <| WL_nil ?_
          replace H := H.front 1 rfl
          dsimp only [List.eraseIdx] at H
          replace H := H.front 1 rfl
          dsimp only [List.eraseIdx] at H
          obtain rfl := Option.some.inj hB9953
          refine x_A fun a hf => ⟨_, rfl, v10399, c10400, w64 (x9047 + 1), x10401, x10403, rfl, r10402, hf.sub ⟨rfl, rfl, rfl, rfl, rfl, trivial⟩, H⟩
      · replace hB9953 := itF hb hB9953
        refine C_exit <| x_then_exit <| x_then_exit <| x_block_exit ?_
        replace H := H.front 1 rfl
        dsimp only [List.eraseIdx] at H
        replace H := H.drop 1 rfl
        dsimp only [List.eraseIdx] at H
        obtain rfl := Option.some.inj hB9953
        obtain rfl := hO9954 _ rfl
        refine x_A fun a hf => ⟨v9048, c9049, x9050, rfl, r9051, hf.sub ⟨rfl, trivial⟩, H⟩
  · rintro a wd10849 ⟨v8143, c8144, x8145, rfl, r8146, hf, H⟩
    try dsimp only at hF
    refine XX.at hf <| x_then <| C_seq <| R_nd <| nq (Q_move rfl) rfl rfl <| nq (Q_assign rfl) rfl rfl <| WL_nil <| x_then <| C_ret ?_
    obtain rfl := Option.some.inj hF
    exact fn_ret (l := [.tmp 2]) (vs := [v8143]) rfl rfl rfl ⟨v8143, c8144, x8145, rfl, rfl, r8146, H⟩
theorem c_48 {N : Nat} {C : Cx} {w : World} {ρ : View} {hs : List Hl} {v1 : Value} {v4 : Value} {v7 : Value} {x2 : (List (List Int))} {x5 : (List Int)} {x8 : (List Int)} (H : Hp C w ρ (hs)) (r3 : RdSl ρ (eA 256 (eI .i64)) v1 x2) (r6 : RdSl ρ (eI .i64) v4 x5) (r9 : RdSl ρ (eI .i64) v7 x8) {r : ((List (List Int)) × (List Int) × (List Int))} (hF : F_dofferref19_Merge N x2 x5 x8 = some r) :
    Calls Tryd.prog 48 [.agg #[v1, v4, v7]].toArray w (Rets (fun v w' => (∃ (v3174 : Value) (c3175 : (List Value)) (v3178 : Value) (c3179 : (List Value)) (v3182 : Value) (c3183 : (List Value)) (x3176 : (List (List Int))) (x3180 : (List Int)) (x3184 : (List Int)), (x3176, x3180, x3184) = r ∧ .agg #[v3174, v3178, v3182] = v ∧ rdL (eA 256 (eI .i64)) ρ x3176 c3175 ∧ rdL (eI .i64) ρ x3180 c3179 ∧ rdL (eI .i64) ρ x3184 c3183 ∧ Hp C w' ρ (Arr v3174 256 c3175 :: Arr v3178 1 c3179 :: Arr v3182 1 c3183 :: hs)))) := by
  unfold F_dofferref19_Merge at hF
  have h0 : Tryd.f48.body = some _ := rfl
  refine fn_calls' Tryd.func48 h0 (n := 79) rfl (by simp) <| C_seq <| R_nd <| ne (E_box H (vs := [v1, v4, v7]) rfl rfl) rfl rfl ?_
  rintro _ wd3187 ⟨b3186, rfl, H⟩
  refine ne (E_alloc H ty29 (zs := [.slice none 0 0, .slice none 0 0, .slice none 0 0]) rfl) rfl rfl ?_
  rintro _ wd3189 ⟨b3188, rfl, H⟩
  refine WL_nil <| x_then <| C_seq <| R_nd <| nq (v := .agg #[v1, v4, v7]) (Q_ldB (k := 1) (cs := [v1, v4, v7]) H.ok rfl ty29 rfl rfl rfl (fun h => nomatch h) rfl) rfl rfl ?_
  obtain ⟨q3190, hq3190, hF⟩ := bnd hF
  refine ne (E_call fn47 rfl (c_47 H  r3 r6 r9 hq3190)) rfl rfl ?_
  rintro _ wd3196 ⟨v3192, c3193, x3194, rfl, rfl, r3195, H⟩
  try dsimp only at hF
  refine nq (Q_assign rfl) rfl rfl <| WL_nil <| x_then <| C_seq <| R_nd <| nq (v := .agg #[.slice none 0 0, .slice none 0 0, .slice none 0 0]) (Q_buildS st29.choose_spec (ps := []) rfl trivial rfl) rfl rfl <| ne (E_alloc H ty29 (zs := [.slice none 0 0, .slice none 0 0, .slice none 0 0]) rfl) rfl rfl ?_
  rintro _ wd3198 ⟨b3197, rfl, H⟩
  refine ne (E_stB (k := 0) (cs := [.slice none 0 0, .slice none 0 0, .slice none 0 0]) (vs' := [.slice none 0 0, .slice none 0 0, .slice none 0 0]) H rfl ty29 rfl rfl rfl rfl (one_cons rfl (one_cons rfl (one_cons rfl one_nil))) (by simp) rfl) rfl rfl ?_
  rintro _ wd3199 H
  dsimp only [List.set] at H
  refine WL_nil <| x_then <| C_seq <| C_seq <| R_nd <| nq (Q_move rfl) rfl rfl <| nq (Q_lenA (k := 1) H.ok rfl r3195 (by decide) Tryd.underlying23 rfl) rfl rfl <| nq (Q_move rfl) rfl rfl <| WL_nil <| x_then ?_
  obtain ⟨o4565, ho4565, hF⟩ := bnd hF
  refine C_cutQ (fun a w' => ∃ (v4557 : Value) (c4558 : (List Value)) (v4561 : Value) (c4562 : (List Value)) (x4559 : (List (List Int))) (x4563 : (List Int)), (x4559, x4563) = o4565 ∧ rdL (eA 256 (eI .i64)) ρ x4559 c4558 ∧ rdL (eI .i64) ρ x4563 c4562 ∧ Fr 79 a [(1, .pointer (some ⟨b3186, 0, none⟩)), (2, .pointer (some ⟨b3188, 0, none⟩)), (3, v3192), (4, .pointer (some ⟨b3197, 0, none⟩))] ∧ Hp C w' ρ (Box b3186 [v1, v4, v7] :: Box b3188 [.slice none 0 0, .slice none 0 0, .slice none 0 0] :: Arr v3192 1 c3193 :: Box b3197 [v4557, v4561, .slice none 0 0] :: Arr v4557 256 c4558 :: Arr v4561 1 c4562 :: hs)) ?_ ?_
  · refine C_block ?_
    have H := H.nilArr 256
    have H := H.nilArr 1
    replace H := H.front 1 rfl
    dsimp only [List.eraseIdx] at H
    replace H := H.front 2 rfl
    dsimp only [List.eraseIdx] at H
    replace H := H.front 4 rfl
    dsimp only [List.eraseIdx] at H
    replace H := H.front 4 rfl
    dsimp only [List.eraseIdx] at H
    replace H := H.front 5 rfl
    dsimp only [List.eraseIdx] at H
    refine C_iter (f := fun s => F_dofferref19_Merge_l0 N x2 x5 x3194 s.1 s.2.1 s.2.2) ho4565 (fun s a w' => ∃ (v5018 : Value) (c5019 : (List Value)) (v5022 : Value) (c5023 : (List Value)) (x5017 : Int) (x5020 : (List (List Int))) (x5024 : (List Int)), (x5017, x5020, x5024) = s ∧ rdL (eA 256 (eI .i64)) ρ x5020 c5019 ∧ rdL (eI .i64) ρ x5024 c5023 ∧ Fr 79 a [(1, .pointer (some ⟨b3186, 0, none⟩)), (2, .pointer (some ⟨b3188, 0, none⟩)), (3, v3192), (4, .pointer (some ⟨b3197, 0, none⟩)), (15, v3192), (16, .int .i64 (x3194.length : Int)), (17, .int .i64 x5017)] ∧ Hp C w' ρ (Box b3186 [v1, v4, v7] :: Arr v3192 1 c3193 :: Box b3188 [.slice none 0 0, .slice none 0 0, .slice none 0 0] :: Box b3197 [v5018, v5022, .slice none 0 0] :: Arr v5018 256 c5019 :: Arr v5022 1 c5023 :: hs)) ?_ ?_
    · exact fun a hf => ⟨(.slice none 0 0), [], (.slice none 0 0), [], 0, [], [], rfl, rdL.nil, rdL.nil, hf.sub ⟨rfl, rfl, rfl, rfl, rfl, rfl, rfl, trivial⟩, H⟩
    · rintro s o5477 a wd5480 ⟨v5018, c5019, v5022, c5023, x5017, x5020, x5024, rfl, r5021, r5025, hf, H⟩ hB5478 hO5479
      replace hB5478 : F_dofferref19_Merge_l0 N x2 x5 x3194 x5017 x5020 x5024 = some o5477 := hB5478
      unfold F_dofferref19_Merge_l0 at hB5478
      refine CW.at hf <| C_seq <| R_nd <| nq (Q_lss rfl rfl) rfl rfl <| WL_nil <| x_then <| C_seq ?_
      refine C_cond rfl (fun hb => ?_) (fun hb => ?_)
      · replace hB5478 := itT hb hB5478
        refine C_skip <| x_then ?_
        obtain ⟨o5705, ho5705, hB5478⟩ := bnd hB5478
        refine C_cut (fun a w' => ∃ (v5697 : Value) (c5698 : (List Value)) (v5701 : Value) (c5702 : (List Value)) (x5699 : (List (List Int))) (x5703 : (List Int)), (x5699, x5703) = o5705 ∧ rdL (eA 256 (eI .i64)) ρ x5699 c5698 ∧ rdL (eI .i64) ρ x5703 c5702 ∧ Fr 79 a [(1, .pointer (some ⟨b3186, 0, none⟩)), (2, .pointer (some ⟨b3188, 0, none⟩)), (3, v3192), (4, .pointer (some ⟨b3197, 0, none⟩)), (15, v3192), (16, .int .i64 (x3194.length : Int)), (17, .int .i64 x5017)] ∧ Hp C w' ρ (Box b3186 [v1, v4, v7] :: Arr v3192 1 c3193 :: Box b3188 [.slice none 0 0, .slice none 0 0, .slice none 0 0] :: Box b3197 [v5697, v5701, .slice none 0 0] :: Arr v5697 256 c5698 :: Arr v5701 1 c5702 :: hs)) ?_ ?_
        · refine C_block <| C_seq <| R_nd <| nq (Q_move rfl) rfl rfl ?_
          obtain ⟨x5706, hx5706, ho5705⟩ := bnd ho5705
          obtain ⟨b5707, o5708, hi5712, hc5710, ha5711⟩ := arr_at (hs := [Arr v3192 1 c3193]) (k := 0) (by decide) (H.okS (by simp)) rfl r3195 hx5706
          refine nq (Q_idx hi5712 Tryd.underlying23 ty3 rfl rfl) rfl rfl <| nq (v := .int .i64 x5706) (Q_ld (show cellsAt _ _ _ [.int .i64 x5706] from (show _ = [_] from hc5710) ▸ (ha5711 _ (Ok.subS (by simp) H.ok))) ty3 rfl (fun _ => rfl) rfl rfl) rfl rfl <| nq (Q_assign rfl) rfl rfl <| nq (Q_assign rfl) rfl rfl <| WL_nil <| x_then <| C_seq <| C_seq <| R_nd <| nq (Q_move rfl) rfl rfl <| nq (v := .pointer (some ⟨b3197, 0, none⟩)) (Q_fld Tryd.underlying29 rfl ty27 (by decide) rfl rfl) rfl rfl <| nq (v := v5018) (Q_ldB (k := 3) (cs := [v5018]) H.ok rfl ty27 rfl rfl rfl (fun _ => rfl) rfl) rfl rfl <| nq (Q_lenA (k := 4) H.ok rfl r5021 (by decide) Tryd.underlying27 rfl) rfl rfl <| nq (Q_lss rfl rfl) rfl rfl ?_
          refine WL_nil <| x_then ?_
          refine C_cond rfl (fun hb => ?_) (fun hb => ?_)
          · replace ho5705 := itT hb ho5705
            refine C_exit <| x_then_exit <| x_block_exit ?_
            replace H := H.front 5 rfl
            dsimp only [List.eraseIdx] at H
            replace H := H.front 5 rfl
            dsimp only [List.eraseIdx] at H
            replace H := H.front 5 rfl
            dsimp only [List.eraseIdx] at H
            replace H := H.front 5 rfl
            dsimp only [List.eraseIdx] at H
            replace H := H.front 5 rfl
            dsimp only [List.eraseIdx] at H
            replace H := H.front 5 rfl
            dsimp only [List.eraseIdx] at H
            obtain rfl := Option.some.inj ho5705
            refine x_A fun a hf => ⟨v5018, c5019, v5022, c5023, x5020, x5024, rfl, r5021, r5025, hf.sub ⟨rfl, rfl, rfl, rfl, rfl, rfl, rfl, trivial⟩, H⟩
          · replace ho5705 := itF hb ho5705
            refine C_skip <| x_then <| C_seq <| R_nd <| nq (v := .agg (repC 256 [.int .i64 0]).toArray) (Q_build0 (zs := (repC 256 [.int .i64 0])) ty57 Tryd.underlying57 ty3 rfl) rfl rfl <| ne (E_allocA (N := 256) (n := 1) (zs := (repC 256 [.int .i64 0])) H ty57 rfl (by simp [repC_length])) rfl rfl ?_
            rintro _ wd5714 ⟨b5713, rfl, H⟩
            refine ne (E_stW (k := 0) H rfl ty57 rfl rfl (rdL.one (rdL_rep (e:=(eI .i64)) (ρ:=ρ) (rfl) 256)) (arr_clen (rdL_rep (e:=(eI .i64)) (ρ:=ρ) (rfl) 256) List.length_replicate) (arr_clen (rdL_rep (e:=(eI .i64)) (ρ:=ρ) (rfl) 256) List.length_replicate)) rfl rfl ?_
            rintro _ wd5715 H
            dsimp only [List.set] at H
            refine WL_nil <| x_then <| C_seq <| C_seq <| R_nd <| nq (v := .pointer (some ⟨b3186, 0, none⟩)) (Q_fld Tryd.underlying29 rfl ty27 (by decide) rfl rfl) rfl rfl <| nq (v := v1) (Q_ldB (k := 1) (cs := [v1]) H.ok rfl ty27 rfl rfl rfl (fun _ => rfl) rfl) rfl rfl <| nq (Q_move rfl) rfl rfl ?_
            obtain ⟨x5716, hx5716, ho5705⟩ := bnd ho5705
            obtain ⟨b5717, o5718, c5719, hc5720, ha5721, hi5722⟩ := idxR r3 hx5716
            refine nq (Q_idx hi5722 Tryd.underlying27 ty57 rfl rfl) rfl rfl <| nq (v := .agg c5719.toArray) (Q_ld (ha5721.up H.ok.view) ty57 ((eA 256 (eI .i64)).len hc5720) (fun h => nomatch h) rfl rfl) rfl rfl <| nq (Q_move rfl) rfl rfl <| WL_nil <| x_then ?_
            obtain ⟨o5791, ho5791, ho5705⟩ := bnd ho5705
            refine C_cutQ (fun a w' => ∃ (c5787 : (List Value)) (x5788 : (List Int)), x5788 = o5791 ∧ rdL (eI .i64) ρ x5788 c5787 ∧ x5788.length = 256 ∧ Fr 79 a [(1, .pointer (some ⟨b3186, 0, none⟩)), (2, .pointer (some ⟨b3188, 0, none⟩)), (3, v3192), (4, .pointer (some ⟨b3197, 0, none⟩)), (5, .int .i64 x5017), (7, .pointer (some ⟨b5713, 0, none⟩)), (15, v3192), (16, .int .i64 (x3194.length : Int)), (17, .int .i64 x5017)] ∧ Hp C w' ρ (Box b3186 [v1, v4, v7] :: Arr v3192 1 c3193 :: Box b3188 [.slice none 0 0, .slice none 0 0, .slice none 0 0] :: Box b3197 [v5018, v5022, .slice none 0 0] :: Arr v5018 256 c5019 :: Arr v5022 1 c5023 :: Arr (.slice (some ⟨b5713, 0, none⟩) 256 256) 1 c5787 :: hs)) ?_ ?_
            · refine C_block ?_
              replace H := H.front 6 rfl
              dsimp only [List.eraseIdx] at H
              replace H := H.front 6 rfl
              dsimp only [List.eraseIdx] at H
              replace H := H.front 6 rfl
              dsimp only [List.eraseIdx] at H
              replace H := H.front 6 rfl
              dsimp only [List.eraseIdx] at H
              replace H := H.front 6 rfl
              dsimp only [List.eraseIdx] at H
              replace H := H.front 6 rfl
              dsimp only [List.eraseIdx] at H
              refine C_iter (f := fun s => F_dofferref19_Merge_l1 N x3194 x5716 s.1 s.2) ho5791 (fun s a w' => ∃ (c5813 : (List Value)) (x5812 : Int) (x5814 : (List Int)), (x5812, x5814) = s ∧ rdL (eI .i64) ρ x5814 c5813 ∧ x5814.length = 256 ∧ Fr 79 a [(1, .pointer (some ⟨b3186, 0, none⟩)), (2, .pointer (some ⟨b3188, 0, none⟩)), (3, v3192), (4, .pointer (some ⟨b3197, 0, none⟩)), (5, .int .i64 x5017), (7, .pointer (some ⟨b5713, 0, none⟩)), (15, v3192), (16, .int .i64 (x3194.length : Int)), (17, .int .i64 x5017), (32, .agg c5719.toArray), (33, .int .i64 x5812)] ∧ Hp C w' ρ (Box b3186 [v1, v4, v7] :: Arr v3192 1 c3193 :: Box b3188 [.slice none 0 0, .slice none 0 0, .slice none 0 0] :: Box b3197 [v5018, v5022, .slice none 0 0] :: Arr v5018 256 c5019 :: Arr v5022 1 c5023 :: Arr (.slice (some ⟨b5713, 0, none⟩) 256 256) 1 c5813 :: hs)) ?_ ?_
              · exact fun a hf => ⟨(repC 256 [.int .i64 0]), 0, (List.replicate 256 0), rfl, (rdL_rep (e:=(eI .i64)) (ρ:=ρ) (rfl) 256), List.length_replicate, hf.sub ⟨rfl, rfl, rfl, rfl, rfl, rfl, rfl, rfl, rfl, rfl, rfl, trivial⟩, H⟩
              · rintro s o5837 a wd5840 ⟨c5813, x5812, x5814, rfl, r5815, lp5816, hf, H⟩ hB5838 hO5839
                replace hB5838 : F_dofferref19_Merge_l1 N x3194 x5716 x5812 x5814 = some o5837 := hB5838
                unfold F_dofferref19_Merge_l1 at hB5838
                refine CW.at hf <| C_seq <| R_nd <| nq (Q_lss rfl rfl) rfl rfl <| WL_nil <| x_then <| C_seq ?_
                refine C_cond rfl (fun hb => ?_) (fun hb => ?_)
                · replace hB5838 := itT hb hB5838
                  refine C_skip <| x_then <| C_seq <| C_block <| C_seq <| R_nd <| nq (Q_move rfl) rfl rfl ?_
                  obtain ⟨x5841, hx5841, hB5838⟩ := bnd hB5838
                  refine nq (Q_ixI hc5720.2 hc5720.1 hx5841 Tryd.underlying57 rfl rfl ty3 rfl) rfl rfl <| nq (Q_assign rfl) rfl rfl <| nq (Q_assign rfl) rfl rfl <| WL_nil <| x_then <| R_nd <| nq (Q_move rfl) rfl rfl <| nq (Q_move rfl) rfl rfl <| nq (Q_move rfl) rfl rfl ?_
                  obtain ⟨x5842, hx5842, hB5838⟩ := bnd hB5838
                  obtain ⟨b5843, o5844, hi5848, hc5846, ha5847⟩ := arr_at (hs := [Arr v3192 1 c3193]) (k := 0) (by decide) (H.okS (by simp)) rfl r3195 hx5842
                  refine nq (Q_idx hi5848 Tryd.underlying23 ty3 rfl rfl) rfl rfl <| nq (v := .int .i64 x5842) (Q_ld (show cellsAt _ _ _ [.int .i64 x5842] from (show _ = [_] from hc5846) ▸ (ha5847 _ (Ok.subS (by simp) H.ok))) ty3 rfl (fun _ => rfl) rfl rfl) rfl rfl ?_
                  obtain ⟨x5849, hx5849, hB5838⟩ := bnd hB5838
                  have hn5851 := idx_lt (N := 256) (lp5816) hx5849
                  have hi5850 : IdxOk (.slice (some ⟨b5713, 0, none⟩) 256 256) x5812 1 b5713 (0 + x5812.toNat * 1) := ⟨0, 256, 256, rfl, hn5851.1, hn5851.2, rfl⟩
                  refine nq (Q_idxA hn5851.1 hn5851.2 Tryd.underlying57 ty3 rfl rfl) rfl rfl ?_
                  obtain ⟨x5852, hx5852, hB5838⟩ := bnd hB5838
                  obtain ⟨hs5853a, hs5853b, hs5853c⟩ := setI_some hx5852
                  have r5854 : rdL (eI .i64) ρ x5852 (setC c5813 (x5812.toNat * 1 + 0) [.int .i64 x5842]) := hs5853c ▸ rdL.set r5815 hs5853b (rfl)
                  refine ne (E_stA (k := 6) (j := 0) (c := [.int .i64 x5842]) H rfl ty3 hi5850 rfl rfl rfl rfl (one_cons rfl one_nil) (by decide)) rfl rfl ?_
                  rintro _ wd5855 H
                  dsimp only [List.set] at H
                  refine WL_nil <| x_block <| x_then <| R_nd <| nq (Q_add rfl rfl) rfl rfl <| nq (Q_move rfl) rfl rfl <| WL_nil ?_
                  replace H := H.front 6 rfl
                  dsimp only [List.eraseIdx] at H
                  replace H := H.front 6 rfl
                  dsimp only [List.eraseIdx] at H
                  replace H := H.front 6 rfl
                  dsimp only [List.eraseIdx] at H
                  replace H := H.front 6 rfl
                  dsimp only [List.eraseIdx] at H
                  replace H := H.front 6 rfl
                  dsimp only [List.eraseIdx] at H
                  replace H := H.front 6 rfl
                  dsimp only [List.eraseIdx] at H
                  replace H := H.front 6 rfl
                  dsimp only [List.eraseIdx] at H
                  obtain rfl := Option.some.inj hB5838
                  refine x_A fun a hf => ⟨_, rfl, (setC c5813 (x5812.toNat * 1 + 0) [.int .i64 x5842]), w64 (x5812 + 1), x5852, rfl, r5854, (setI_len hx5852 lp5816), hf.sub ⟨rfl, rfl, rfl, rfl, rfl, rfl, rfl, rfl, rfl, rfl, rfl, trivial⟩, H⟩
                · replace hB5838 := itF hb hB5838
                  refine C_exit <| x_then_exit <| x_then_exit <| x_block_exit ?_
                  replace H := H.front 6 rfl
                  dsimp only [List.eraseIdx] at H
                  replace H := H.front 6 rfl
                  dsimp only [List.eraseIdx] at H
                  replace H := H.front 6 rfl
                  dsimp only [List.eraseIdx] at H
                  replace H := H.front 6 rfl
                  dsimp only [List.eraseIdx] at H
                  replace H := H.front 6 rfl
                  dsimp only [List.eraseIdx] at H
                  replace H := H.front 6 rfl
                  dsimp only [List.eraseIdx] at H
                  replace H := H.front 6 rfl
                  dsimp only [List.eraseIdx] at H
                  obtain rfl := Option.some.inj hB5838
                  obtain rfl := hO5839 _ rfl
                  refine x_A fun a hf => ⟨c5813, x5814, rfl, r5815, lp5816, hf.sub ⟨rfl, rfl, rfl, rfl, rfl, rfl, rfl, rfl, rfl, trivial⟩, H⟩
            · rintro a wd5856 ⟨c5787, x5788, rfl, r5789, lp5790, hf, H⟩
              try dsimp only at ho5705
              refine XX.at hf <| x_then <| C_seq <| R_nd <| nq (v := .pointer (some ⟨b3197, 0, none⟩)) (Q_fld Tryd.underlying29 rfl ty27 (by decide) rfl rfl) rfl rfl <| nq (v := v5018) (Q_ldB (k := 3) (cs := [v5018]) H.ok rfl ty27 rfl rfl rfl (fun _ => rfl) rfl) rfl rfl <| nq (Q_ldW (k := 6) H.ok rfl ty57 rfl (arr_clen r5789 lp5790)) rfl rfl <| ne (E_bslice (xs := [.tmp 46]) (vs := [.agg c5787.toArray]) H Tryd.underlying27 ty57 (by decide) (cs := c5787) rfl (sz_cons (arr_clen r5789 lp5790) sz_nil) (by simp [Value.cells]) (by simp) (by simp) rfl rfl) rfl rfl ?_
              rintro _ wd5858 ⟨b5857, rfl, H⟩
              obtain ⟨x5859, hx5859, ho5705⟩ := bnd ho5705
              obtain ⟨ha5860a, ha5860b⟩ := app_some hx5859
              have r5862 : rdL (eA 256 (eI .i64)) ρ x5859 (c5019 ++ c5787) := ha5860b ▸ rdL.app r5021 (show rdL (eA 256 (eI .i64)) ρ ([x5788]) c5787 from rdL.single ⟨lp5790, r5789⟩)
              refine ne (E_append (k := 5) H rfl Tryd.underlying27 ty57 rfl (by decide) (by decide) rfl rfl (Src.ofArr (k := 0) H.ok rfl) (rdL.one (show rdL (eA 256 (eI .i64)) ρ ([x5788]) c5787 from rdL.single ⟨lp5790, r5789⟩)) (app_fit r5021 (show rdL (eA 256 (eI .i64)) ρ ([x5788]) c5787 from rdL.single ⟨lp5790, r5789⟩) ha5860a)) rfl rfl ?_
              rintro v5861 wd5864 ⟨H, hc5863⟩
              dsimp only [List.set] at H
              refine nq (v := .pointer (some ⟨b3197, 0, none⟩)) (Q_fld Tryd.underlying29 rfl ty27 (by decide) rfl rfl) rfl rfl <| ne (E_stB (k := 4) (cs := [v5861]) (vs' := [v5861, v5022, .slice none 0 0]) H rfl ty27 rfl rfl (arr_cells (H.ok.get (k := 5) rfl)).1 rfl (one_cons (arr_cells (H.ok.get (k := 5) rfl)).2 one_nil) (by simp) rfl) rfl rfl ?_
              rintro _ wd5865 H
              dsimp only [List.set] at H
              refine WL_nil <| x_then ?_
              obtain ⟨o5895, ho5895, ho5705⟩ := bnd ho5705
              refine C_cutQ (fun a w' => ∃ (v5891 : Value) (c5892 : (List Value)) (x5893 : (List Int)), x5893 = o5895 ∧ rdL (eI .i64) ρ x5893 c5892 ∧ Fr 79 a [(1, .pointer (some ⟨b3186, 0, none⟩)), (2, .pointer (some ⟨b3188, 0, none⟩)), (3, v3192), (4, .pointer (some ⟨b3197, 0, none⟩)), (15, v3192), (16, .int .i64 (x3194.length : Int)), (17, .int .i64 x5017)] ∧ Hp C w' ρ (Box b3186 [v1, v4, v7] :: Arr v3192 1 c3193 :: Box b3188 [.slice none 0 0, .slice none 0 0, .slice none 0 0] :: Box b3197 [v5861, v5891, .slice none 0 0] :: Arr v5861 256 (c5019 ++ c5787) :: Arr v5891 1 c5892 :: hs)) ?_ ?_
              · refine R_dr (.take 0 (.take 2 (.take 3 (.take 4 (.take 5 (.take 6 (.two 1 7 (.one 7 (.one 8 (.take 9 (.one 10 .done)))) (.one 1 (.one 8 (.take 9 (.one 10 .done))))))))))) (fun w' => Ok w' ρ [Arr (.slice (some ⟨b5857, 0, none⟩) 1 1) 256 c5787, Box b3186 [v1, v4, v7], Arr v3192 1 c3193, Box b3188 [.slice none 0 0, .slice none 0 0, .slice none 0 0], Arr v5861 256 (c5019 ++ c5787), Arr (.slice (some ⟨b5713, 0, none⟩) 256 256) 1 c5787]) (by kernel_rfl) (by kernel_rfl) (by kernel_rfl) (H.drew.okS (by simp)) ?_
                replace H := H.drew
                refine dq (v := .pointer (some ⟨b3197, 1, none⟩)) rfl (fun _ _ => Q_fld Tryd.underlying29 rfl ty23 (by decide) rfl rfl) rfl rfl <| dq (v := .pointer (some ⟨b3186, 1, none⟩)) rfl (fun _ _ => Q_fld Tryd.underlying29 rfl ty23 (by decide) rfl rfl) rfl rfl <| dq (v := v4) rfl (fun _ hw => Q_ldB (k := 1) (cs := [v4]) hw rfl ty23 rfl rfl rfl (fun _ => rfl) rfl) rfl rfl <| dq rfl (fun _ _ => Q_move rfl) rfl rfl ?_
                obtain ⟨x5896, hx5896, ho5895⟩ := bnd ho5895
                obtain ⟨b5897, o5898, c5899, hc5900, ha5901, hi5902⟩ := idxR r6 hx5896
                refine dq rfl (fun _ _ => Q_idx hi5902 Tryd.underlying23 ty3 rfl rfl) rfl rfl <| dq (v := .int .i64 x5896) rfl (fun _ hw => Q_ld (show cellsAt _ _ _ [.int .i64 x5896] from (show _ = [_] from hc5900) ▸ (ha5901.up hw.view)) ty3 rfl (fun _ => rfl) rfl rfl) rfl rfl ?_
                refine d2 ?_ ?_
                · refine de rfl (Eff.quiet (v := v5022) (Q_ldB (k := 4) (cs := [v5022]) H.ok rfl ty23 rfl rfl rfl (fun _ => rfl) rfl)) rfl rfl ?_
                  rintro _ _ ⟨rfl, rfl⟩
                  refine ⟨H.okS (by simp), ?_⟩
                  refine d1 (de rfl (E_bslice (xs := [.tmp 56]) (vs := [.int .i64 x5896]) H Tryd.underlying23 ty3 (by decide) (cs := [.int .i64 x5896]) rfl (sz_cons rfl sz_nil) rfl (by simp) (by simp) rfl rfl) rfl rfl ?_)
                  rintro _ wd5904 ⟨b5903, rfl, H⟩
                  refine ⟨H.okS (by simp), ?_⟩
                  obtain ⟨x5905, hx5905, ho5895⟩ := bnd ho5895
                  obtain ⟨ha5906a, ha5906b⟩ := app_some hx5905
                  have r5908 : rdL (eI .i64) ρ x5905 (c5023 ++ ([.int .i64 x5896])) := ha5906b ▸ rdL.app r5025 (show rdL (eI .i64) ρ ([x5896]) ([.int .i64 x5896]) from ⟨([.int .i64 x5896]), _, rfl, rfl, rdL.nil⟩)
                  refine d1 (de rfl (E_append (k := 7) H rfl Tryd.underlying23 ty3 rfl (by decide) (by decide) rfl rfl (Src.ofArr (k := 0) H.ok rfl) (rdL.one (show rdL (eI .i64) ρ ([x5896]) ([.int .i64 x5896]) from ⟨([.int .i64 x5896]), _, rfl, rfl, rdL.nil⟩)) (app_fit r5025 (show rdL (eI .i64) ρ ([x5896]) ([.int .i64 x5896]) from ⟨([.int .i64 x5896]), _, rfl, rfl, rdL.nil⟩) ha5906a)) rfl rfl ?_)
                  rintro v5907 wd5910 ⟨H, hc5909⟩
                  dsimp only [List.set] at H
                  refine ⟨H.okS (by simp), ?_⟩
                  refine dq (v := .pointer (some ⟨b3197, 1, none⟩)) rfl (fun _ _ => Q_fld Tryd.underlying29 rfl ty23 (by decide) rfl rfl) rfl rfl ?_
                  refine d1 (de rfl (E_stB (k := 5) (cs := [v5907]) (vs' := [v5861, v5907, .slice none 0 0]) H rfl ty23 rfl rfl (arr_cells (H.ok.get (k := 7) rfl)).1 rfl (one_cons (arr_cells (H.ok.get (k := 7) rfl)).2 one_nil) (by simp) rfl) rfl rfl ?_)
                  rintro _ wd5911 H
                  dsimp only [List.set] at H
                  refine ⟨H.okS (by simp), ?_⟩
                  refine DL_nil ?_
                  replace H := H.front 7 rfl
                  dsimp only [List.eraseIdx] at H
                  replace H := H.front 7 rfl
                  dsimp only [List.eraseIdx] at H
                  replace H := H.front 7 rfl
                  dsimp only [List.eraseIdx] at H
                  replace H := H.front 7 rfl
                  dsimp only [List.eraseIdx] at H
                  replace H := H.front 7 rfl
                  dsimp only [List.eraseIdx] at H
                  replace H := H.front 7 rfl
                  dsimp only [List.eraseIdx] at H
                  replace H := H.drop 6 rfl
                  dsimp only [List.eraseIdx] at H
                  replace H := H.drop 6 rfl
                  dsimp only [List.eraseIdx] at H
                  replace H := H.drop 6 rfl
                  dsimp only [List.eraseIdx] at H
                  obtain rfl := Option.some.inj ho5895
                  refine x_A fun a hf => ⟨v5907, (c5023 ++ ([.int .i64 x5896])), x5905, rfl, r5908, hf.sub ⟨rfl, rfl, rfl, rfl, rfl, rfl, rfl, trivial⟩, H⟩
                · refine de rfl (E_bslice (xs := [.tmp 56]) (vs := [.int .i64 x5896]) H Tryd.underlying23 ty3 (by decide) (cs := [.int .i64 x5896]) rfl (sz_cons rfl sz_nil) rfl (by simp) (by simp) rfl rfl) rfl rfl ?_
                  rintro _ wd5913 ⟨b5912, rfl, H⟩
                  refine ⟨H.okS (by simp), ?_⟩
                  refine d1 (de rfl (Eff.quiet (v := v5022) (Q_ldB (k := 5) (cs := [v5022]) H.ok rfl ty23 rfl rfl rfl (fun _ => rfl) rfl)) rfl rfl ?_)
                  rintro _ _ ⟨rfl, rfl⟩
                  refine ⟨H.okS (by simp), ?_⟩
                  obtain ⟨x5914, hx5914, ho5895⟩ := bnd ho5895
                  obtain ⟨ha5915a, ha5915b⟩ := app_some hx5914
                  have r5917 : rdL (eI .i64) ρ x5914 (c5023 ++ ([.int .i64 x5896])) := ha5915b ▸ rdL.app r5025 (show rdL (eI .i64) ρ ([x5896]) ([.int .i64 x5896]) from ⟨([.int .i64 x5896]), _, rfl, rfl, rdL.nil⟩)
                  refine d1 (de rfl (E_append (k := 7) H rfl Tryd.underlying23 ty3 rfl (by decide) (by decide) rfl rfl (Src.ofArr (k := 0) H.ok rfl) (rdL.one (show rdL (eI .i64) ρ ([x5896]) ([.int .i64 x5896]) from ⟨([.int .i64 x5896]), _, rfl, rfl, rdL.nil⟩)) (app_fit r5025 (show rdL (eI .i64) ρ ([x5896]) ([.int .i64 x5896]) from ⟨([.int .i64 x5896]), _, rfl, rfl, rdL.nil⟩) ha5915a)) rfl rfl ?_)
                  rintro v5916 wd5919 ⟨H, hc5918⟩
                  dsimp only [List.set] at H
                  refine ⟨H.okS (by simp), ?_⟩
                  refine dq (v := .pointer (some ⟨b3197, 1, none⟩)) rfl (fun _ _ => Q_fld Tryd.underlying29 rfl ty23 (by decide) rfl rfl) rfl rfl ?_
                  refine d1 (de rfl (E_stB (k := 5) (cs := [v5916]) (vs' := [v5861, v5916, .slice none 0 0]) H rfl ty23 rfl rfl (arr_cells (H.ok.get (k := 7) rfl)).1 rfl (one_cons (arr_cells (H.ok.get (k := 7) rfl)).2 one_nil) (by simp) rfl) rfl rfl ?_)
                  rintro _ wd5920 H
                  dsimp only [List.set] at H
                  refine ⟨H.okS (by simp), ?_⟩
                  refine DL_nil ?_
                  replace H := H.front 7 rfl
                  dsimp only [List.eraseIdx] at H
                  replace H := H.front 7 rfl
                  dsimp only [List.eraseIdx] at H
                  replace H := H.front 7 rfl
                  dsimp only [List.eraseIdx] at H
                  replace H := H.front 7 rfl
                  dsimp only [List.eraseIdx] at H
                  replace H := H.front 7 rfl
                  dsimp only [List.eraseIdx] at H
                  replace H := H.front 7 rfl
                  dsimp only [List.eraseIdx] at H
                  replace H := H.drop 6 rfl
                  dsimp only [List.eraseIdx] at H
                  replace H := H.drop 6 rfl
                  dsimp only [List.eraseIdx] at H
                  replace H := H.drop 6 rfl
                  dsimp only [List.eraseIdx] at H
                  obtain rfl := Option.some.inj ho5895
                  refine x_A fun a hf => ⟨v5916, (c5023 ++ ([.int .i64 x5896])), x5914, rfl, r5917, hf.sub ⟨rfl, rfl, rfl, rfl, rfl, rfl, rfl, trivial⟩, H⟩
              · rintro a wd5921 ⟨v5891, c5892, x5893, rfl, r5894, hf, H⟩
                try dsimp only at ho5705
                refine XX.at hf <| x_block ?_
                replace H := H.front 5 rfl
                dsimp only [List.eraseIdx] at H
                replace H := H.front 5 rfl
                dsimp only [List.eraseIdx] at H
                replace H := H.front 5 rfl
                dsimp only [List.eraseIdx] at H
                replace H := H.front 5 rfl
                dsimp only [List.eraseIdx] at H
                replace H := H.front 5 rfl
                dsimp only [List.eraseIdx] at H
                replace H := H.front 5 rfl
                dsimp only [List.eraseIdx] at H
                obtain rfl := Option.some.inj ho5705
                refine x_A fun a hf => ⟨v5861, (c5019 ++ c5787), v5891, c5892, x5859, x5893, rfl, r5862, r5894, hf.sub ⟨rfl, rfl, rfl, rfl, rfl, rfl, rfl, trivial⟩, H⟩
        · rintro a wd5922 ⟨v5697, c5698, v5701, c5702, x5699, x5703, rfl, r5700, r5704, hf, H⟩
          try dsimp only at hB5478
          refine CW.at hf <| R_nd <| nq (Q_add rfl rfl) rfl rfl <| nq (Q_move rfl) rfl rfl <| WL_nil ?_
          replace H := H.front 5 rfl
          dsimp only [List.eraseIdx] at H
          replace H := H.front 5 rfl
          dsimp only [List.eraseIdx] at H
          replace H := H.front 5 rfl
          dsimp only [List.eraseIdx] at H
          replace H := H.front 5 rfl
          dsimp only [List.eraseIdx] at H
          replace H := H.front 5 rfl
          dsimp only [List.eraseIdx] at H
          replace H := H.front 5 rfl
          dsimp only [List.eraseIdx] at H
          obtain rfl := Option.some.inj hB5478
          refine x_A fun a hf => ⟨_, rfl, v5697, c5698, v5701, c5702, w64 (x5017 + 1), x5699, x5703, rfl, r5700, r5704, hf.sub ⟨rfl, rfl, rfl, rfl, rfl, rfl, rfl, trivial⟩, H⟩
      · replace hB5478 := itF hb hB5478
        refine C_exit <| x_then_exit <| x_then_exit <| x_block_exit ?_
        replace H := H.front 5 rfl
        dsimp only [List.eraseIdx] at H
        replace H := H.front 5 rfl
        dsimp only [List.eraseIdx] at H
        replace H := H.front 5 rfl
        dsimp only [List.eraseIdx] at H
        replace H := H.front 4 rfl
        dsimp only [List.eraseIdx] at H
        replace H := H.front 5 rfl
        dsimp only [List.eraseIdx] at H
        replace H := H.front 5 rfl
        dsimp only [List.eraseIdx] at H
        obtain rfl := Option.some.inj hB5478
        obtain rfl := hO5479 _ rfl
        refine x_A fun a hf => ⟨v5018, c5019, v5022, c5023, x5020, x5024, rfl, r5021, r5025, hf.sub ⟨rfl, rfl, rfl, rfl, trivial⟩, H⟩
  · rintro a wd5923 ⟨v4557, c4558, v4561, c4562, x4559, x4563, rfl, r4560, r4564, hf, H⟩
    try dsimp only at hF
    refine XX.at hf <| x_then <| C_seq <| C_seq <| R_nd <| nq (v := .pointer (some ⟨b3186, 2, none⟩)) (Q_fld Tryd.underlying29 rfl ty23 (by decide) rfl rfl) rfl rfl <| nq (v := v7) (Q_ldB (k := 0) (cs := [v7]) H.ok rfl ty23 rfl rfl rfl (fun _ => rfl) rfl) rfl rfl <| nq (Q_len Tryd.underlying23 rfl r9) rfl rfl <| nq (Q_move rfl) rfl rfl <| WL_nil <| x_then ?_
    obtain ⟨o6136, ho6136, hF⟩ := bnd hF
    refine C_cutQ (fun a w' => ∃ (v6132 : Value) (c6133 : (List Value)) (x6134 : (List Int)), x6134 = o6136 ∧ rdL (eI .i64) ρ x6134 c6133 ∧ Fr 79 a [(2, .pointer (some ⟨b3188, 0, none⟩)), (4, .pointer (some ⟨b3197, 0, none⟩))] ∧ Hp C w' ρ (Box b3188 [.slice none 0 0, .slice none 0 0, .slice none 0 0] :: Box b3197 [v4557, v4561, v6132] :: Arr v4557 256 c4558 :: Arr v4561 1 c4562 :: Arr v6132 1 c6133 :: hs)) ?_ ?_
    · refine C_block ?_
      have H := H.nilArr 1
      replace H := H.front 6 rfl
      dsimp only [List.eraseIdx] at H
      replace H := H.front 6 rfl
      dsimp only [List.eraseIdx] at H
      replace H := H.front 6 rfl
      dsimp only [List.eraseIdx] at H
      replace H := H.front 6 rfl
      dsimp only [List.eraseIdx] at H
      replace H := H.front 6 rfl
      dsimp only [List.eraseIdx] at H
      replace H := H.drop 6 rfl
      dsimp only [List.eraseIdx] at H
      refine C_iter (f := fun s => F_dofferref19_Merge_l2 N x8 x3194 s.1 s.2) ho6136 (fun s a w' => ∃ (v6205 : Value) (c6206 : (List Value)) (x6207 : (List Int)) (x6209 : Int), (x6207, x6209) = s ∧ rdL (eI .i64) ρ x6207 c6206 ∧ Fr 79 a [(2, .pointer (some ⟨b3188, 0, none⟩)), (3, v3192), (4, .pointer (some ⟨b3197, 0, none⟩)), (62, v7), (63, .int .i64 (x8.length : Int)), (64, .int .i64 x6209)] ∧ Hp C w' ρ (Box b3188 [.slice none 0 0, .slice none 0 0, .slice none 0 0] :: Arr v3192 1 c3193 :: Box b3197 [v4557, v4561, v6205] :: Arr v4557 256 c4558 :: Arr v4561 1 c4562 :: Arr v6205 1 c6206 :: hs)) ?_ ?_
      · exact fun a hf => ⟨(.slice none 0 0), [], [], 0, rfl, rdL.nil, hf.sub ⟨rfl, rfl, rfl, rfl, rfl, rfl, trivial⟩, H⟩
      · rintro s o6278 a wd6281 ⟨v6205, c6206, x6207, x6209, rfl, r6208, hf, H⟩ hB6279 hO6280
        replace hB6279 : F_dofferref19_Merge_l2 N x8 x3194 x6207 x6209 = some o6278 := hB6279
        unfold F_dofferref19_Merge_l2 at hB6279
        refine CW.at hf <| C_seq <| R_nd <| nq (Q_lss rfl rfl) rfl rfl <| WL_nil <| x_then <| C_seq ?_
        refine C_cond rfl (fun hb => ?_) (fun hb => ?_)
        · replace hB6279 := itT hb hB6279
          refine C_skip <| x_then <| C_seq <| C_block <| C_seq <| R_nd ?_
          obtain ⟨x6282, hx6282, hB6279⟩ := bnd hB6279
          obtain ⟨b6283, o6284, c6285, hc6286, ha6287, hi6288⟩ := idxR r9 hx6282
          refine nq (Q_idx hi6288 Tryd.underlying23 ty3 rfl rfl) rfl rfl <| nq (v := .int .i64 x6282) (Q_ld (show cellsAt _ _ _ [.int .i64 x6282] from (show _ = [_] from hc6286) ▸ (ha6287.up H.ok.view)) ty3 rfl (fun _ => rfl) rfl rfl) rfl rfl <| nq (Q_assign rfl) rfl rfl <| WL_nil <| x_then ?_
          obtain ⟨o6318, ho6318, hB6279⟩ := bnd hB6279
          refine C_cutQ (fun a w' => ∃ (v6314 : Value) (c6315 : (List Value)) (x6316 : (List Int)), x6316 = o6318 ∧ rdL (eI .i64) ρ x6316 c6315 ∧ Fr 79 a [(2, .pointer (some ⟨b3188, 0, none⟩)), (3, v3192), (4, .pointer (some ⟨b3197, 0, none⟩)), (62, v7), (63, .int .i64 (x8.length : Int)), (64, .int .i64 x6209)] ∧ Hp C w' ρ (Box b3188 [.slice none 0 0, .slice none 0 0, .slice none 0 0] :: Arr v3192 1 c3193 :: Box b3197 [v4557, v4561, v6314] :: Arr v4557 256 c4558 :: Arr v4561 1 c4562 :: Arr v6314 1 c6315 :: hs)) ?_ ?_
          · refine R_dr (.take 0 (.take 2 (.take 3 (.take 4 (.take 5 (.two 1 6 (.one 6 (.one 7 (.take 8 (.one 9 .done)))) (.one 1 (.one 7 (.take 8 (.one 9 .done)))))))))) (fun w' => Ok w' ρ [Box b3188 [.slice none 0 0, .slice none 0 0, .slice none 0 0], Arr v3192 1 c3193, Arr v4557 256 c4558, Arr v4561 1 c4562]) (by kernel_rfl) (by kernel_rfl) (by kernel_rfl) (H.drew.okS (by simp)) ?_
            replace H := H.drew
            refine dq (v := .pointer (some ⟨b3197, 2, none⟩)) rfl (fun _ _ => Q_fld Tryd.underlying29 rfl ty23 (by decide) rfl rfl) rfl rfl <| dq rfl (fun _ _ => Q_move rfl) rfl rfl <| dq rfl (fun _ _ => Q_move rfl) rfl rfl ?_
            obtain ⟨x6319, hx6319, ho6318⟩ := bnd ho6318
            obtain ⟨b6320, o6321, hi6325, hc6323, ha6324⟩ := arr_at (hs := [Arr v3192 1 c3193]) (k := 0) (by decide) (H.okS (by simp)) rfl r3195 hx6319
            refine dq rfl (fun _ _ => Q_idx hi6325 Tryd.underlying23 ty3 rfl rfl) rfl rfl <| dq (v := .int .i64 x6319) rfl (fun _ hw => Q_ld (show cellsAt _ _ _ [.int .i64 x6319] from (show _ = [_] from hc6323) ▸ (ha6324 _ (Ok.subS (by simp) hw))) ty3 rfl (fun _ => rfl) rfl rfl) rfl rfl ?_
            refine d2 ?_ ?_
            · refine de rfl (Eff.quiet (v := v6205) (Q_ldB (k := 2) (cs := [v6205]) H.ok rfl ty23 rfl rfl rfl (fun _ => rfl) rfl)) rfl rfl ?_
              rintro _ _ ⟨rfl, rfl⟩
              refine ⟨H.okS (by simp), ?_⟩
              refine d1 (de rfl (E_bslice (xs := [.tmp 73]) (vs := [.int .i64 x6319]) H Tryd.underlying23 ty3 (by decide) (cs := [.int .i64 x6319]) rfl (sz_cons rfl sz_nil) rfl (by simp) (by simp) rfl rfl) rfl rfl ?_)
              rintro _ wd6327 ⟨b6326, rfl, H⟩
              refine ⟨H.okS (by simp), ?_⟩
              obtain ⟨x6328, hx6328, ho6318⟩ := bnd ho6318
              obtain ⟨ha6329a, ha6329b⟩ := app_some hx6328
              have r6331 : rdL (eI .i64) ρ x6328 (c6206 ++ ([.int .i64 x6319])) := ha6329b ▸ rdL.app r6208 (show rdL (eI .i64) ρ ([x6319]) ([.int .i64 x6319]) from ⟨([.int .i64 x6319]), _, rfl, rfl, rdL.nil⟩)
              refine d1 (de rfl (E_append (k := 6) H rfl Tryd.underlying23 ty3 rfl (by decide) (by decide) rfl rfl (Src.ofArr (k := 0) H.ok rfl) (rdL.one (show rdL (eI .i64) ρ ([x6319]) ([.int .i64 x6319]) from ⟨([.int .i64 x6319]), _, rfl, rfl, rdL.nil⟩)) (app_fit r6208 (show rdL (eI .i64) ρ ([x6319]) ([.int .i64 x6319]) from ⟨([.int .i64 x6319]), _, rfl, rfl, rdL.nil⟩) ha6329a)) rfl rfl ?_)
              rintro v6330 wd6333 ⟨H, hc6332⟩
              dsimp only [List.set] at H
              refine ⟨H.okS (by simp), ?_⟩
              refine dq (v := .pointer (some ⟨b3197, 2, none⟩)) rfl (fun _ _ => Q_fld Tryd.underlying29 rfl ty23 (by decide) rfl rfl) rfl rfl ?_
              refine d1 (de rfl (E_stB (k := 3) (cs := [v6330]) (vs' := [v4557, v4561, v6330]) H rfl ty23 rfl rfl (arr_cells (H.ok.get (k := 6) rfl)).1 rfl (one_cons (arr_cells (H.ok.get (k := 6) rfl)).2 one_nil) (by simp) rfl) rfl rfl ?_)
              rintro _ wd6334 H
              dsimp only [List.set] at H
              refine ⟨H.okS (by simp), ?_⟩
              refine DL_nil ?_
              replace H := H.front 6 rfl
              dsimp only [List.eraseIdx] at H
              replace H := H.front 6 rfl
              dsimp only [List.eraseIdx] at H
              replace H := H.front 6 rfl
              dsimp only [List.eraseIdx] at H
              replace H := H.front 6 rfl
              dsimp only [List.eraseIdx] at H
              replace H := H.front 6 rfl
              dsimp only [List.eraseIdx] at H
              replace H := H.front 6 rfl
              dsimp only [List.eraseIdx] at H
              replace H := H.drop 6 rfl
              dsimp only [List.eraseIdx] at H
              obtain rfl := Option.some.inj ho6318
              refine x_A fun a hf => ⟨v6330, (c6206 ++ ([.int .i64 x6319])), x6328, rfl, r6331, hf.sub ⟨rfl, rfl, rfl, rfl, rfl, rfl, trivial⟩, H⟩
            · refine de rfl (E_bslice (xs := [.tmp 73]) (vs := [.int .i64 x6319]) H Tryd.underlying23 ty3 (by decide) (cs := [.int .i64 x6319]) rfl (sz_cons rfl sz_nil) rfl (by simp) (by simp) rfl rfl) rfl rfl ?_
              rintro _ wd6336 ⟨b6335, rfl, H⟩
              refine ⟨H.okS (by simp), ?_⟩
              refine d1 (de rfl (Eff.quiet (v := v6205) (Q_ldB (k := 3) (cs := [v6205]) H.ok rfl ty23 rfl rfl rfl (fun _ => rfl) rfl)) rfl rfl ?_)
              rintro _ _ ⟨rfl, rfl⟩
              refine ⟨H.okS (by simp), ?_⟩
              obtain ⟨x6337, hx6337, ho6318⟩ := bnd ho6318
              obtain ⟨ha6338a, ha6338b⟩ := app_some hx6337
              have r6340 : rdL (eI .i64) ρ x6337 (c6206 ++ ([.int .i64 x6319])) := ha6338b ▸ rdL.app r6208 (show rdL (eI .i64) ρ ([x6319]) ([.int .i64 x6319]) from ⟨([.int .i64 x6319]), _, rfl, rfl, rdL.nil⟩)
              refine d1 (de rfl (E_append (k := 6) H rfl Tryd.underlying23 ty3 rfl (by decide) (by decide) rfl rfl (Src.ofArr (k := 0) H.ok rfl) (rdL.one (show rdL (eI .i64) ρ ([x6319]) ([.int .i64 x6319]) from ⟨([.int .i64 x6319]), _, rfl, rfl, rdL.nil⟩)) (app_fit r6208 (show rdL (eI .i64) ρ ([x6319]) ([.int .i64 x6319]) from ⟨([.int .i64 x6319]), _, rfl, rfl, rdL.nil⟩) ha6338a)) rfl rfl ?_)
              rintro v6339 wd6342 ⟨H, hc6341⟩
              dsimp only [List.set] at H
              refine ⟨H.okS (by simp), ?_⟩
              refine dq (v := .pointer (some ⟨b3197, 2, none⟩)) rfl (fun _ _ => Q_fld Tryd.underlying29 rfl ty23 (by decide) rfl rfl) rfl rfl ?_
              refine d1 (de rfl (E_stB (k := 3) (cs := [v6339]) (vs' := [v4557, v4561, v6339]) H rfl ty23 rfl rfl (arr_cells (H.ok.get (k := 6) rfl)).1 rfl (one_cons (arr_cells (H.ok.get (k := 6) rfl)).2 one_nil) (by simp) rfl) rfl rfl ?_)
              rintro _ wd6343 H
              dsimp only [List.set] at H
              refine ⟨H.okS (by simp), ?_⟩
              refine DL_nil ?_
              replace H := H.front 6 rfl
              dsimp only [List.eraseIdx] at H
              replace H := H.front 6 rfl
              dsimp only [List.eraseIdx] at H
              replace H := H.front 6 rfl
              dsimp only [List.eraseIdx] at H
              replace H := H.front 6 rfl
              dsimp only [List.eraseIdx] at H
              replace H := H.front 6 rfl
              dsimp only [List.eraseIdx] at H
              replace H := H.front 6 rfl
              dsimp only [List.eraseIdx] at H
              replace H := H.drop 6 rfl
              dsimp only [List.eraseIdx] at H
              obtain rfl := Option.some.inj ho6318
              refine x_A fun a hf => ⟨v6339, (c6206 ++ ([.int .i64 x6319])), x6337, rfl, r6340, hf.sub ⟨rfl, rfl, rfl, rfl, rfl, rfl, trivial⟩, H⟩
          · rintro a wd6344 ⟨v6314, c6315, x6316, rfl, r6317, hf, H⟩
            try dsimp only at hB6279
            refine XX.at hf <| x_block <| x_then <| R_nd <| nq (Q_add rfl rfl) rfl rfl <| nq (Q_move rfl) rfl rfl <| WL_nil ?_
            replace H := H.front 5 rfl
            dsimp only [List.eraseIdx] at H
            replace H := H.front 5 rfl
            dsimp only [List.eraseIdx] at H
            replace H := H.front 5 rfl
            dsimp only [List.eraseIdx] at H
            replace H := H.front 5 rfl
            dsimp only [List.eraseIdx] at H
            replace H := H.front 5 rfl
            dsimp only [List.eraseIdx] at H
            replace H := H.front 5 rfl
            dsimp only [List.eraseIdx] at H
            obtain rfl := Option.some.inj hB6279
            refine x_A fun a hf => ⟨_, rfl, v6314, c6315, x6316, w64 (x6209 + 1), rfl, r6317, hf.sub ⟨rfl, rfl, rfl, rfl, rfl, rfl, trivial⟩, H⟩
        · replace hB6279 := itF hb hB6279
          refine C_exit <| x_then_exit <| x_then_exit <| x_block_exit ?_
          replace H := H.front 5 rfl
          dsimp only [List.eraseIdx] at H
          replace H := H.front 5 rfl
          dsimp only [List.eraseIdx] at H
          replace H := H.front 5 rfl
          dsimp only [List.eraseIdx] at H
          replace H := H.front 5 rfl
          dsimp only [List.eraseIdx] at H
          replace H := H.front 4 rfl
          dsimp only [List.eraseIdx] at H
          replace H := H.drop 5 rfl
          dsimp only [List.eraseIdx] at H
          obtain rfl := Option.some.inj hB6279
          obtain rfl := hO6280 _ rfl
          refine x_A fun a hf => ⟨v6205, c6206, x6207, rfl, r6208, hf.sub ⟨rfl, rfl, trivial⟩, H⟩
    · rintro a wd6345 ⟨v6132, c6133, x6134, rfl, r6135, hf, H⟩
      try dsimp only at hF
      refine XX.at hf <| x_then <| C_seq <| R_nd <| nq (v := .agg #[v4557, v4561, v6132]) (Q_ldB (k := 1) (cs := [v4557, v4561, v6132]) H.ok rfl ty29 rfl rfl rfl (fun h => nomatch h) rfl) rfl rfl <| ne (E_stB (k := 0) (cs := [v4557, v4561, v6132]) (vs' := [v4557, v4561, v6132]) H rfl ty29 rfl rfl rfl rfl (one_cons (arr_cells (H.ok.get (k := 2) rfl)).2 (one_cons (arr_cells (H.ok.get (k := 3) rfl)).2 (one_cons (arr_cells (H.ok.get (k := 4) rfl)).2 one_nil))) (by simp) rfl) rfl rfl ?_
      rintro _ wd6346 H
      dsimp only [List.set] at H
      refine WL_nil <| x_then <| C_ret ?_
      have hRV : RV Tryd.prog wd6346 [(2, .pointer (some ⟨b3188, 0, none⟩))] [.cell 2 29] [.agg #[v4557, v4561, v6132]] := ⟨⟨_, rfl, run_ldv ty29 rfl (fun h => nomatch h) (box_at (H.ok.get (k := 0) rfl) 0 3)⟩, trivial⟩
      replace H := H.front 4 rfl
      dsimp only [List.eraseIdx] at H
      replace H := H.front 4 rfl
      dsimp only [List.eraseIdx] at H
      replace H := H.front 4 rfl
      dsimp only [List.eraseIdx] at H
      replace H := H.drop 3 rfl
      dsimp only [List.eraseIdx] at H
      replace H := H.drop 3 rfl
      dsimp only [List.eraseIdx] at H
      obtain rfl := Option.some.inj hF
      exact fn_retV (rs := [.cell 2 29]) (vs := [.agg #[v4557, v4561, v6132]]) rfl hRV ⟨v4557, c4558, v4561, c4562, v6132, c6133, x4559, x4563, x6134, rfl, rfl, r4560, r4564, r6135, H⟩
theorem c_9 {N : Nat} {C : Cx} {w : World} {ρ : View} {hs : List Hl} {v1 : Value} {v4 : Value} {v7 : Value} {x2 : (List (List Int))} {x5 : (List Int)} {x8 : (List Int)} (H : Hp C w ρ (hs)) {ge0 : Value} (gl0 : GErr ρ 0 ge0) (gl1 : GTab ρ 1 .u8 tab_math_bits_deBruijn64tab) (r3 : RdSl ρ (eA 256 (eI .i64)) v1 x2) (r6 : RdSl ρ (eI .i64) v4 x5) (r9 : RdSl ρ (eI .i64) v7 x8) {r : Bool} (hF : F_dofferlaw19_HopcroftParts N x2 x5 x8 = some r) :
    Calls Tryd.prog 9 [.agg #[v1, v4, v7]].toArray w (Rets (fun v w' => (∃ (x257 : Bool), x257 = r ∧ .bool x257 = v ∧ Hp C w' ρ (hs)))) := by
  unfold F_dofferlaw19_HopcroftParts at hF
  have h0 : Tryd.f9.body = some _ := rfl
  refine fn_calls' Tryd.func9 h0 (n := 68) rfl (by simp) <| C_seq <| R_nd <| ne (E_box H (vs := [v1, v4, v7]) rfl rfl) rfl rfl ?_
  rintro _ wd259 ⟨b258, rfl, H⟩
  refine nq (Q_assign rfl) rfl rfl <| WL_nil <| x_then <| C_seq <| C_seq <| R_nd ?_
  obtain ⟨q260, hq260, hF⟩ := bnd hF
  refine ne (E_call fn42 rfl (c_42 H   hq260)) rfl rfl ?_
  rintro _ wd263 ⟨x262, rfl, rfl, H⟩
  try dsimp only at hF
  refine nq (Q_not rfl) rfl rfl <| WL_nil <| x_then ?_
  refine C_cond rfl (fun hb => ?_) (fun hb => ?_)
  · replace hF := itT hb hF
    refine C_seq <| R_nd <| nq (Q_assign rfl) rfl rfl <| WL_nil <| x_then <| C_ret <| x_then_ret ?_
    replace H := H.drop 0 rfl
    dsimp only [List.eraseIdx] at H
    obtain rfl := Option.some.inj hF
    exact fn_ret (l := [.tmp 2]) (vs := [.bool false]) rfl rfl rfl ⟨false, rfl, rfl, H⟩
  · replace hF := itF hb hF
    refine C_skip <| x_then <| C_seq <| R_nd <| nq (v := .agg #[v1, v4, v7]) (Q_ldB (k := 0) (cs := [v1, v4, v7]) H.ok rfl ty25 rfl rfl rfl (fun h => nomatch h) rfl) rfl rfl ?_
    obtain ⟨q264, hq264, hF⟩ := bnd hF
    refine ne (E_call fn15 rfl (c_15 H  r3 r6 r9 hq264)) rfl rfl ?_
    rintro _ wd271 ⟨v266, c267, x268, x269, rfl, rfl, r270, H⟩
    try dsimp only at hF
    refine nq (Q_move rfl) rfl rfl <| nq (Q_extract rfl rfl) rfl rfl <| nq (Q_extract rfl rfl) rfl rfl <| ne (E_alloc H ty29 (zs := [.slice none 0 0, .slice none 0 0, .slice none 0 0]) rfl) rfl rfl ?_
    rintro _ wd273 ⟨b272, rfl, H⟩
    refine ne (E_stB (k := 0) (cs := [v266, v4, v7]) (vs' := [v266, v4, v7]) H rfl ty29 rfl rfl rfl rfl (one_cons (arr_cells (H.ok.get (k := 1) rfl)).2 (one_cons (RdSl.one r6) (one_cons (RdSl.one r9) one_nil))) (by simp) rfl) rfl rfl ?_
    rintro _ wd274 H
    dsimp only [List.set] at H
    refine nq (Q_assign rfl) rfl rfl <| WL_nil <| x_then <| C_seq <| C_seq <| R_nd <| nq (Q_move rfl) rfl rfl <| nq (Q_not rfl) rfl rfl <| WL_nil <| x_then ?_
    refine C_cond rfl (fun hb => ?_) (fun hb => ?_)
    · replace hF := itT hb hF
      refine C_seq <| R_nd <| nq (Q_assign rfl) rfl rfl <| WL_nil <| x_then <| C_ret <| x_then_ret ?_
      replace H := H.drop 0 rfl
      dsimp only [List.eraseIdx] at H
      replace H := H.drop 0 rfl
      dsimp only [List.eraseIdx] at H
      replace H := H.drop 0 rfl
      dsimp only [List.eraseIdx] at H
      obtain rfl := Option.some.inj hF
      exact fn_ret (l := [.tmp 2]) (vs := [.bool true]) rfl rfl rfl ⟨true, rfl, rfl, H⟩
    · replace hF := itF hb hF
      refine C_skip <| x_then <| C_seq <| R_nd <| nq (v := .agg #[v1, v4, v7]) (Q_ldB (k := 2) (cs := [v1, v4, v7]) H.ok rfl ty25 rfl rfl rfl (fun h => nomatch h) rfl) rfl rfl ?_
      obtain ⟨q275, hq275, hF⟩ := bnd hF
      refine ne (E_call fn43 rfl (c_43 H  r3 r6 r9 hq275)) rfl rfl ?_
      rintro _ wd289 ⟨v277, c278, v279, c280, v281, c282, x283, x284, x285, rfl, rfl, r286, r287, r288, H⟩
      try dsimp only at hF
      refine ne (E_alloc H ty25 (zs := [.slice none 0 0, .slice none 0 0, .slice none 0 0]) rfl) rfl rfl ?_
      rintro _ wd291 ⟨b290, rfl, H⟩
      refine ne (E_stB (k := 0) (cs := [v277, v279, v281]) (vs' := [v277, v279, v281]) H rfl ty25 rfl rfl rfl rfl (one_cons (arr_cells (H.ok.get (k := 1) rfl)).2 (one_cons (arr_cells (H.ok.get (k := 2) rfl)).2 (one_cons (arr_cells (H.ok.get (k := 3) rfl)).2 one_nil))) (by simp) rfl) rfl rfl ?_
      rintro _ wd292 H
      dsimp only [List.set] at H
      refine WL_nil <| x_then <| C_seq <| C_seq <| R_nd <| nq (v := .agg #[v266, v4, v7]) (Q_ldB (k := 4) (cs := [v266, v4, v7]) H.ok rfl ty29 rfl rfl rfl (fun h => nomatch h) rfl) rfl rfl ?_
      replace H := H.front 5 rfl
      dsimp only [List.eraseIdx] at H
      obtain ⟨q293, hq293, hF⟩ := bnd hF
      obtain ⟨C', ρ', hl294, HA, hL, hback⟩ := Hp.lend (A := []) (L := [Arr v266 256 c267]) (F := Box b290 [v277, v279, v281] :: Arr v277 256 c278 :: Arr v279 1 c280 :: Arr v281 1 c282 :: Box b272 [v266, v4, v7] :: Box b258 [v1, v4, v7] :: hs) H
      refine ne (E_call fn17 rfl (c_17 HA  (arr_rd (by decide) hl294 (hL (Arr v266 256 c267) (by simp)) r270) (r6.up hl294) (r9.up hl294) hq293)) rfl rfl ?_
      rintro _ wd296 ⟨x295, rfl, rfl, H⟩
      try dsimp only at hF
      replace H := hback H
      dsimp only [List.cons_append, List.nil_append] at H
      refine nq (Q_not rfl) rfl rfl <| WL_nil <| x_then ?_
      refine C_cond rfl (fun hb => ?_) (fun hb => ?_)
      · replace hF := itT hb hF
        obtain ⟨o347, ho347, hF⟩ := bnd hF
        refine C_cut (fun a w' => ∃ (x346 : Bool), x346 = o347 ∧ Fr 68 a [(2, .bool x346)] ∧ Hp C w' ρ (hs)) ?_ ?_
        · refine R_dr (.take 0 (.take 3 (.take 4 (.take 5 (.take 7 (.one 1 (.two 2 8 (.take 6 (.one 8 (.take 9 (.one 10 (.take 11 (.take 12 (.take 13 (.take 14 (.one 15 (.take 16 (.take 17 (.take 18 .done)))))))))))) (.take 9 (.two 2 10 (.take 6 (.one 10 (.take 11 (.take 12 (.take 13 (.take 14 (.one 15 (.take 16 (.take 17 (.take 18 .done)))))))))) (.one 2 (.take 6 (.take 11 (.take 12 (.take 13 (.take 14 (.one 15 (.take 16 (.take 17 (.take 18 .done))))))))))))))))))) (fun w' => Ok w' ρ [Arr v266 256 c267, Box b290 [v277, v279, v281], Arr v277 256 c278, Arr v279 1 c280, Arr v281 1 c282, Box b272 [v266, v4, v7], Box b258 [v1, v4, v7]]) (by kernel_rfl) (by kernel_rfl) (by kernel_rfl) (H.drew.okS (by simp)) ?_
          replace H := H.drew
          refine dq (v := .agg #[v1, v4, v7]) rfl (fun _ hw => Q_ldB (k := 6) (cs := [v1, v4, v7]) hw rfl ty25 rfl rfl rfl (fun h => nomatch h) rfl) rfl rfl <| dq (v := .pointer (some ⟨b290, 0, none⟩)) rfl (fun _ _ => Q_fld Tryd.underlying25 rfl ty22 (by decide) rfl rfl) rfl rfl <| dq (v := v277) rfl (fun _ hw => Q_ldB (k := 1) (cs := [v277]) hw rfl ty22 rfl rfl rfl (fun _ => rfl) rfl) rfl rfl <| dq rfl (fun _ hw => Q_lenA (k := 2) hw rfl r286 (by decide) Tryd.underlying22 rfl) rfl rfl <| dq (v := .agg #[v1, v4, v7]) rfl (fun _ hw => Q_ldB (k := 6) (cs := [v1, v4, v7]) hw rfl ty25 rfl rfl rfl (fun h => nomatch h) rfl) rfl rfl ?_
          obtain ⟨q348, hq348, ho347⟩ := bnd ho347
          refine d1 (de rfl (E_call fn44 rfl (c_44 H  r3 r6 r9 hq348)) rfl rfl ?_)
          rintro _ wd354 ⟨v350, c351, x352, rfl, rfl, r353, H⟩
          try dsimp only at ho347
          refine ⟨H.okS (by simp), ?_⟩
          refine d2 ?_ ?_
          · refine de rfl (Eff.quiet (v := .int .i64 (x352.length : Int)) (Q_lenA (k := 0) H.ok rfl r353 (by decide) Tryd.underlying23 rfl)) rfl rfl ?_
            rintro _ _ ⟨rfl, rfl⟩
            refine ⟨H.okS (by simp), ?_⟩
            refine dq rfl (fun _ _ => Q_add rfl rfl) rfl rfl ?_
            obtain ⟨q355, hq355, ho347⟩ := bnd ho347
            refine d1 (de rfl (E_call fn45 rfl (c_45 H gl0 gl1 r3 r6 r9 hq355)) rfl rfl ?_)
            rintro _ wd369 ⟨v357, c358, v359, c360, v361, c362, x363, x364, x365, rfl, rfl, r366, r367, r368, H⟩
            try dsimp only at ho347
            refine ⟨H.okS (by simp), ?_⟩
            refine dq (v := v357) rfl (fun _ _ => Q_field1 Tryd.underlying25 rfl ty22 rfl rfl) rfl rfl ?_
            refine d1 (de rfl (Eff.quiet (v := .int .i64 (x363.length : Int)) (Q_lenA (k := 0) H.ok rfl r366 (by decide) Tryd.underlying22 rfl)) rfl rfl ?_)
            rintro _ _ ⟨rfl, rfl⟩
            refine ⟨H.okS (by simp), ?_⟩
            refine dq rfl (fun _ _ => Q_add rfl rfl) rfl rfl <| dq rfl (fun _ _ => Q_eql rfl rfl) rfl rfl <| dq rfl (fun _ _ => Q_move rfl) rfl rfl ?_
            rcases Bool.eq_false_or_eq_true ((w64 ((w64 ((x352.length : Int) + (x283.length : Int))) + (x363.length : Int))) == 0) with hb | hb
            · rw [hb]
              replace ho347 := itT hb ho347
              refine dgq (v := .agg #[v1, v4, v7]) rfl (fun _ hw => Q_ldB (k := 6) (cs := [v1, v4, v7]) hw rfl ty25 rfl rfl rfl (fun h => nomatch h) rfl) rfl rfl rfl ?_
              obtain ⟨q370, hq370, ho347⟩ := bnd ho347
              refine d1 (dge rfl (E_call fn46 rfl (c_46 H gl0 gl1 r3 r6 r9 hq370)) rfl rfl rfl ?_)
              rintro _ wd373 ⟨x372, rfl, rfl, H⟩
              try dsimp only at ho347
              refine ⟨H.okS (by simp), ?_⟩
              refine dgq rfl (fun _ _ => Q_not rfl) rfl rfl rfl <| dq rfl (fun _ _ => Q_pickT rfl rfl) rfl rfl <| dq rfl (fun _ _ => Q_assign rfl) rfl rfl <| DL_nil ?_
              replace H := H.drop 0 rfl
              dsimp only [List.eraseIdx] at H
              replace H := H.drop 0 rfl
              dsimp only [List.eraseIdx] at H
              replace H := H.drop 0 rfl
              dsimp only [List.eraseIdx] at H
              replace H := H.drop 0 rfl
              dsimp only [List.eraseIdx] at H
              replace H := H.drop 0 rfl
              dsimp only [List.eraseIdx] at H
              replace H := H.drop 0 rfl
              dsimp only [List.eraseIdx] at H
              replace H := H.drop 0 rfl
              dsimp only [List.eraseIdx] at H
              replace H := H.drop 0 rfl
              dsimp only [List.eraseIdx] at H
              replace H := H.drop 0 rfl
              dsimp only [List.eraseIdx] at H
              replace H := H.drop 0 rfl
              dsimp only [List.eraseIdx] at H
              replace H := H.drop 0 rfl
              dsimp only [List.eraseIdx] at H
              obtain rfl := Option.some.inj ho347
              refine x_A fun a hf => ⟨!x372, rfl, hf.sub ⟨rfl, trivial⟩, H⟩
            · rw [hb]
              replace ho347 := itF hb ho347
              refine dgs rfl rfl rfl rfl rfl ?_
              refine d1 (dges rfl rfl rfl rfl rfl ?_)
              refine dgs rfl rfl rfl rfl rfl <| dq rfl (fun _ _ => Q_pickF rfl rfl) rfl rfl <| dq rfl (fun _ _ => Q_assign rfl) rfl rfl <| DL_nil ?_
              replace H := H.drop 0 rfl
              dsimp only [List.eraseIdx] at H
              replace H := H.drop 0 rfl
              dsimp only [List.eraseIdx] at H
              replace H := H.drop 0 rfl
              dsimp only [List.eraseIdx] at H
              replace H := H.drop 0 rfl
              dsimp only [List.eraseIdx] at H
              replace H := H.drop 0 rfl
              dsimp only [List.eraseIdx] at H
              replace H := H.drop 0 rfl
              dsimp only [List.eraseIdx] at H
              replace H := H.drop 0 rfl
              dsimp only [List.eraseIdx] at H
              replace H := H.drop 0 rfl
              dsimp only [List.eraseIdx] at H
              replace H := H.drop 0 rfl
              dsimp only [List.eraseIdx] at H
              replace H := H.drop 0 rfl
              dsimp only [List.eraseIdx] at H
              replace H := H.drop 0 rfl
              dsimp only [List.eraseIdx] at H
              obtain rfl := Option.some.inj ho347
              refine x_A fun a hf => ⟨false, rfl, hf.sub ⟨rfl, trivial⟩, H⟩
          · obtain ⟨q374, hq374, ho347⟩ := bnd ho347
            refine de rfl (E_call fn45 rfl (c_45 H gl0 gl1 r3 r6 r9 hq374)) rfl rfl ?_
            rintro _ wd388 ⟨v376, c377, v378, c379, v380, c381, x382, x383, x384, rfl, rfl, r385, r386, r387, H⟩
            try dsimp only at ho347
            refine ⟨H.okS (by simp), ?_⟩
            refine dq (v := v376) rfl (fun _ _ => Q_field1 Tryd.underlying25 rfl ty22 rfl rfl) rfl rfl ?_
            refine d2 ?_ ?_
            · refine de rfl (Eff.quiet (v := .int .i64 (x352.length : Int)) (Q_lenA (k := 3) H.ok rfl r353 (by decide) Tryd.underlying23 rfl)) rfl rfl ?_
              rintro _ _ ⟨rfl, rfl⟩
              refine ⟨H.okS (by simp), ?_⟩
              refine dq rfl (fun _ _ => Q_add rfl rfl) rfl rfl ?_
              refine d1 (de rfl (Eff.quiet (v := .int .i64 (x382.length : Int)) (Q_lenA (k := 0) H.ok rfl r385 (by decide) Tryd.underlying22 rfl)) rfl rfl ?_)
              rintro _ _ ⟨rfl, rfl⟩
              refine ⟨H.okS (by simp), ?_⟩
              refine dq rfl (fun _ _ => Q_add rfl rfl) rfl rfl <| dq rfl (fun _ _ => Q_eql rfl rfl) rfl rfl <| dq rfl (fun _ _ => Q_move rfl) rfl rfl ?_
              rcases Bool.eq_false_or_eq_true ((w64 ((w64 ((x352.length : Int) + (x283.length : Int))) + (x382.length : Int))) == 0) with hb | hb
              · rw [hb]
                replace ho347 := itT hb ho347
                refine dgq (v := .agg #[v1, v4, v7]) rfl (fun _ hw => Q_ldB (k := 6) (cs := [v1, v4, v7]) hw rfl ty25 rfl rfl rfl (fun h => nomatch h) rfl) rfl rfl rfl ?_
                obtain ⟨q389, hq389, ho347⟩ := bnd ho347
                refine d1 (dge rfl (E_call fn46 rfl (c_46 H gl0 gl1 r3 r6 r9 hq389)) rfl rfl rfl ?_)
                rintro _ wd392 ⟨x391, rfl, rfl, H⟩
                try dsimp only at ho347
                refine ⟨H.okS (by simp), ?_⟩
                refine dgq rfl (fun _ _ => Q_not rfl) rfl rfl rfl <| dq rfl (fun _ _ => Q_pickT rfl rfl) rfl rfl <| dq rfl (fun _ _ => Q_assign rfl) rfl rfl <| DL_nil ?_
                replace H := H.drop 0 rfl
                dsimp only [List.eraseIdx] at H
                replace H := H.drop 0 rfl
                dsimp only [List.eraseIdx] at H
                replace H := H.drop 0 rfl
                dsimp only [List.eraseIdx] at H
                replace H := H.drop 0 rfl
                dsimp only [List.eraseIdx] at H
                replace H := H.drop 0 rfl
                dsimp only [List.eraseIdx] at H
                replace H := H.drop 0 rfl
                dsimp only [List.eraseIdx] at H
                replace H := H.drop 0 rfl
                dsimp only [List.eraseIdx] at H
                replace H := H.drop 0 rfl
                dsimp only [List.eraseIdx] at H
                replace H := H.drop 0 rfl
                dsimp only [List.eraseIdx] at H
                replace H := H.drop 0 rfl
                dsimp only [List.eraseIdx] at H
                replace H := H.drop 0 rfl
                dsimp only [List.eraseIdx] at H
                obtain rfl := Option.some.inj ho347
                refine x_A fun a hf => ⟨!x391, rfl, hf.sub ⟨rfl, trivial⟩, H⟩
              · rw [hb]
                replace ho347 := itF hb ho347
                refine dgs rfl rfl rfl rfl rfl ?_
                refine d1 (dges rfl rfl rfl rfl rfl ?_)
                refine dgs rfl rfl rfl rfl rfl <| dq rfl (fun _ _ => Q_pickF rfl rfl) rfl rfl <| dq rfl (fun _ _ => Q_assign rfl) rfl rfl <| DL_nil ?_
                replace H := H.drop 0 rfl
                dsimp only [List.eraseIdx] at H
                replace H := H.drop 0 rfl
                dsimp only [List.eraseIdx] at H
                replace H := H.drop 0 rfl
                dsimp only [List.eraseIdx] at H
                replace H := H.drop 0 rfl
                dsimp only [List.eraseIdx] at H
                replace H := H.drop 0 rfl
                dsimp only [List.eraseIdx] at H
                replace H := H.drop 0 rfl
                dsimp only [List.eraseIdx] at H
                replace H := H.drop 0 rfl
                dsimp only [List.eraseIdx] at H
                replace H := H.drop 0 rfl
                dsimp only [List.eraseIdx] at H
                replace H := H.drop 0 rfl
                dsimp only [List.eraseIdx] at H
                replace H := H.drop 0 rfl
                dsimp only [List.eraseIdx] at H
                replace H := H.drop 0 rfl
                dsimp only [List.eraseIdx] at H
                obtain rfl := Option.some.inj ho347
                refine x_A fun a hf => ⟨false, rfl, hf.sub ⟨rfl, trivial⟩, H⟩
            · refine de rfl (Eff.quiet (v := .int .i64 (x382.length : Int)) (Q_lenA (k := 0) H.ok rfl r385 (by decide) Tryd.underlying22 rfl)) rfl rfl ?_
              rintro _ _ ⟨rfl, rfl⟩
              refine ⟨H.okS (by simp), ?_⟩
              refine d1 (de rfl (Eff.quiet (v := .int .i64 (x352.length : Int)) (Q_lenA (k := 3) H.ok rfl r353 (by decide) Tryd.underlying23 rfl)) rfl rfl ?_)
              rintro _ _ ⟨rfl, rfl⟩
              refine ⟨H.okS (by simp), ?_⟩
              refine dq rfl (fun _ _ => Q_add rfl rfl) rfl rfl <| dq rfl (fun _ _ => Q_add rfl rfl) rfl rfl <| dq rfl (fun _ _ => Q_eql rfl rfl) rfl rfl <| dq rfl (fun _ _ => Q_move rfl) rfl rfl ?_
              rcases Bool.eq_false_or_eq_true ((w64 ((w64 ((x352.length : Int) + (x283.length : Int))) + (x382.length : Int))) == 0) with hb | hb
              · rw [hb]
                replace ho347 := itT hb ho347
                refine dgq (v := .agg #[v1, v4, v7]) rfl (fun _ hw => Q_ldB (k := 6) (cs := [v1, v4, v7]) hw rfl ty25 rfl rfl rfl (fun h => nomatch h) rfl) rfl rfl rfl ?_
                obtain ⟨q393, hq393, ho347⟩ := bnd ho347
                refine d1 (dge rfl (E_call fn46 rfl (c_46 H gl0 gl1 r3 r6 r9 hq393)) rfl rfl rfl ?_)
                rintro _ wd396 ⟨x395, rfl, rfl, H⟩
                try dsimp only at ho347
                refine ⟨H.okS (by simp), ?_⟩
                refine dgq rfl (fun _ _ => Q_not rfl) rfl rfl rfl <| dq rfl (fun _ _ => Q_pickT rfl rfl) rfl rfl <| dq rfl (fun _ _ => Q_assign rfl) rfl rfl <| DL_nil ?_
                replace H := H.drop 0 rfl
                dsimp only [List.eraseIdx] at H
                replace H := H.drop 0 rfl
                dsimp only [List.eraseIdx] at H
                replace H := H.drop 0 rfl
                dsimp only [List.eraseIdx] at H
                replace H := H.drop 0 rfl
                dsimp only [List.eraseIdx] at H
                replace H := H.drop 0 rfl
                dsimp only [List.eraseIdx] at H
                replace H := H.drop 0 rfl
                dsimp only [List.eraseIdx] at H
                replace H := H.drop 0 rfl
                dsimp only [List.eraseIdx] at H
                replace H := H.drop 0 rfl
                dsimp only [List.eraseIdx] at H
                replace H := H.drop 0 rfl
                dsimp only [List.eraseIdx] at H
                replace H := H.drop 0 rfl
                dsimp only [List.eraseIdx] at H
                replace H := H.drop 0 rfl
                dsimp only [List.eraseIdx] at H
                obtain rfl := Option.some.inj ho347
                refine x_A fun a hf => ⟨!x395, rfl, hf.sub ⟨rfl, trivial⟩, H⟩
              · rw [hb]
                replace ho347 := itF hb ho347
                refine dgs rfl rfl rfl rfl rfl ?_
                refine d1 (dges rfl rfl rfl rfl rfl ?_)
                refine dgs rfl rfl rfl rfl rfl <| dq rfl (fun _ _ => Q_pickF rfl rfl) rfl rfl <| dq rfl (fun _ _ => Q_assign rfl) rfl rfl <| DL_nil ?_
                replace H := H.drop 0 rfl
                dsimp only [List.eraseIdx] at H
                replace H := H.drop 0 rfl
                dsimp only [List.eraseIdx] at H
                replace H := H.drop 0 rfl
                dsimp only [List.eraseIdx] at H
                replace H := H.drop 0 rfl
                dsimp only [List.eraseIdx] at H
                replace H := H.drop 0 rfl
                dsimp only [List.eraseIdx] at H
                replace H := H.drop 0 rfl
                dsimp only [List.eraseIdx] at H
                replace H := H.drop 0 rfl
                dsimp only [List.eraseIdx] at H
                replace H := H.drop 0 rfl
                dsimp only [List.eraseIdx] at H
                replace H := H.drop 0 rfl
                dsimp only [List.eraseIdx] at H
                replace H := H.drop 0 rfl
                dsimp only [List.eraseIdx] at H
                replace H := H.drop 0 rfl
                dsimp only [List.eraseIdx] at H
                obtain rfl := Option.some.inj ho347
                refine x_A fun a hf => ⟨false, rfl, hf.sub ⟨rfl, trivial⟩, H⟩
        · rintro a wd397 ⟨x346, rfl, hf, H⟩
          try dsimp only at hF
          refine CW.at hf <| C_ret <| x_then_ret ?_
          obtain rfl := Option.some.inj hF
          exact fn_ret (l := [.tmp 2]) (vs := [.bool x346]) rfl rfl rfl ⟨x346, rfl, rfl, H⟩
      · replace hF := itF hb hF
        refine C_skip <| x_then <| C_seq <| R_nd <| nq (v := .agg #[v277, v279, v281]) (Q_ldB (k := 1) (cs := [v277, v279, v281]) H.ok rfl ty25 rfl rfl rfl (fun h => nomatch h) rfl) rfl rfl ?_
        replace H := H.front 4 rfl
        dsimp only [List.eraseIdx] at H
        replace H := H.front 4 rfl
        dsimp only [List.eraseIdx] at H
        replace H := H.front 4 rfl
        dsimp only [List.eraseIdx] at H
        obtain ⟨q398, hq398, hF⟩ := bnd hF
        obtain ⟨C', ρ', hl399, HA, hL, hback⟩ := Hp.lend (A := []) (L := [Arr v277 256 c278, Arr v279 1 c280, Arr v281 1 c282]) (F := Arr v266 256 c267 :: Box b290 [v277, v279, v281] :: Box b272 [v266, v4, v7] :: Box b258 [v1, v4, v7] :: hs) H
        refine ne (E_call fn15 rfl (c_15 HA  (arr_rd (by decide) hl399 (hL (Arr v277 256 c278) (by simp)) r286) (arr_rd (by decide) hl399 (hL (Arr v279 1 c280) (by simp)) r287) (arr_rd (by decide) hl399 (hL (Arr v281 1 c282) (by simp)) r288) hq398)) rfl rfl ?_
        rintro _ wd405 ⟨v400, c401, x402, x403, rfl, rfl, r404, H⟩
        try dsimp only at hF
        replace H := hback H
        replace r404 := rdL.flat (ρ := ρ') (ρ' := ρ) (flat_A _ (flat_I _)) r404
        dsimp only [List.cons_append, List.nil_append] at H
        refine nq (Q_move rfl) rfl rfl <| nq (Q_extract rfl rfl) rfl rfl <| nq (Q_extract rfl rfl) rfl rfl <| ne (E_alloc H ty29 (zs := [.slice none 0 0, .slice none 0 0, .slice none 0 0]) rfl) rfl rfl ?_
        rintro _ wd407 ⟨b406, rfl, H⟩
        refine ne (E_stB (k := 0) (cs := [v400, v279, v281]) (vs' := [v400, v279, v281]) H rfl ty29 rfl rfl rfl rfl (one_cons (arr_cells (H.ok.get (k := 1) rfl)).2 (one_cons (arr_cells (H.ok.get (k := 3) rfl)).2 (one_cons (arr_cells (H.ok.get (k := 4) rfl)).2 one_nil))) (by simp) rfl) rfl rfl ?_
        rintro _ wd408 H
        dsimp only [List.set] at H
        refine nq (Q_assign rfl) rfl rfl <| WL_nil <| x_then <| C_seq <| R_nd <| nq (v := .agg #[v1, v4, v7]) (Q_ldB (k := 8) (cs := [v1, v4, v7]) H.ok rfl ty25 rfl rfl rfl (fun h => nomatch h) rfl) rfl rfl ?_
        obtain ⟨q409, hq409, hF⟩ := bnd hF
        refine ne (E_call fn15 rfl (c_15 H  r3 r6 r9 hq409)) rfl rfl ?_
        rintro _ wd416 ⟨v411, c412, x413, x414, rfl, rfl, r415, H⟩
        try dsimp only at hF
        refine nq (Q_move rfl) rfl rfl <| nq (Q_extract rfl rfl) rfl rfl <| nq (Q_extract rfl rfl) rfl rfl <| ne (E_alloc H ty29 (zs := [.slice none 0 0, .slice none 0 0, .slice none 0 0]) rfl) rfl rfl ?_
        rintro _ wd418 ⟨b417, rfl, H⟩
        refine ne (E_stB (k := 0) (cs := [v411, v4, v7]) (vs' := [v411, v4, v7]) H rfl ty29 rfl rfl rfl rfl (one_cons (arr_cells (H.ok.get (k := 1) rfl)).2 (one_cons (RdSl.one r6) (one_cons (RdSl.one r9) one_nil))) (by simp) rfl) rfl rfl ?_
        rintro _ wd419 H
        dsimp only [List.set] at H
        refine nq (Q_assign rfl) rfl rfl <| WL_nil <| x_then ?_
        obtain ⟨o462, ho462, hF⟩ := bnd hF
        refine C_cut (fun a w' => ∃ (x461 : Bool), x461 = o462 ∧ Fr 68 a [(2, .bool x461)] ∧ Hp C w' ρ (hs)) ?_ ?_
        · refine R_dr (.take 0 (.take 2 (.one 1 (.one 3 (.one 4 (.take 5 (.take 6 (.take 7 (.one 8 (.one 9 (.take 10 (.take 11 (.take 12 (.take 13 (.one 14 (.take 15 (.take 16 .done))))))))))))))))) (fun w' => Ok w' ρ [Box b417 [v411, v4, v7], Arr v411 256 c412, Box b406 [v400, v279, v281], Arr v400 256 c401, Arr v277 256 c278, Arr v279 1 c280, Arr v281 1 c282, Arr v266 256 c267, Box b290 [v277, v279, v281], Box b272 [v266, v4, v7], Box b258 [v1, v4, v7]]) (by kernel_rfl) (by kernel_rfl) (by kernel_rfl) (H.drew.okS (by simp)) ?_
          replace H := H.drew
          refine dq (v := .agg #[v1, v4, v7]) rfl (fun _ hw => Q_ldB (k := 10) (cs := [v1, v4, v7]) hw rfl ty25 rfl rfl rfl (fun h => nomatch h) rfl) rfl rfl <| dq (v := .agg #[v266, v4, v7]) rfl (fun _ hw => Q_ldB (k := 9) (cs := [v266, v4, v7]) hw rfl ty29 rfl rfl rfl (fun h => nomatch h) rfl) rfl rfl ?_
          obtain ⟨q463, hq463, ho462⟩ := bnd ho462
          refine d1 (de rfl (E_call fn44 rfl (c_44 H  r3 r6 r9 hq463)) rfl rfl ?_)
          rintro _ wd469 ⟨v465, c466, x467, rfl, rfl, r468, H⟩
          try dsimp only at ho462
          refine ⟨H.okS (by simp), ?_⟩
          replace H := H.front 8 rfl
          dsimp only [List.eraseIdx] at H
          obtain ⟨q470, hq470, ho462⟩ := bnd ho462
          obtain ⟨C', ρ', hl471, HA, hL, hback⟩ := Hp.lend (A := []) (L := [Arr v266 256 c267]) (F := Arr v465 1 c466 :: Box b417 [v411, v4, v7] :: Arr v411 256 c412 :: Box b406 [v400, v279, v281] :: Arr v400 256 c401 :: Arr v277 256 c278 :: Arr v279 1 c280 :: Arr v281 1 c282 :: Box b290 [v277, v279, v281] :: Box b272 [v266, v4, v7] :: Box b258 [v1, v4, v7] :: hs) H
          refine d1 (de rfl (E_call fn47 rfl (c_47 HA  (arr_rd (by decide) hl471 (hL (Arr v266 256 c267) (by simp)) r270) (r6.up hl471) (r9.up hl471) hq470)) rfl rfl ?_)
          rintro _ wd476 ⟨v472, c473, x474, rfl, rfl, r475, H⟩
          try dsimp only at ho462
          replace H := hback H
          replace r475 := rdL.flat (ρ := ρ') (ρ' := ρ) (flat_I _) r475
          dsimp only [List.cons_append, List.nil_append] at H
          refine ⟨H.okS (by simp), ?_⟩
          replace H := H.front 2 rfl
          dsimp only [List.eraseIdx] at H
          obtain ⟨q477, hq477, ho462⟩ := bnd ho462
          obtain ⟨C', ρ', hl478, HA, hL, hback⟩ := Hp.lend (A := []) (L := [Arr v465 1 c466, Arr v472 1 c473]) (F := Arr v266 256 c267 :: Box b417 [v411, v4, v7] :: Arr v411 256 c412 :: Box b406 [v400, v279, v281] :: Arr v400 256 c401 :: Arr v277 256 c278 :: Arr v279 1 c280 :: Arr v281 1 c282 :: Box b290 [v277, v279, v281] :: Box b272 [v266, v4, v7] :: Box b258 [v1, v4, v7] :: hs) H
          refine d1 (de rfl (E_call fn22 rfl (c_22 HA  (arr_rd (by decide) hl478 (hL (Arr v465 1 c466) (by simp)) r468) (arr_rd (by decide) hl478 (hL (Arr v472 1 c473) (by simp)) r475) hq477)) rfl rfl ?_)
          rintro _ wd480 ⟨x479, rfl, rfl, H⟩
          try dsimp only at ho462
          replace H := hback H
          dsimp only [List.cons_append, List.nil_append] at H
          refine ⟨H.okS (by simp), ?_⟩
          refine dq rfl (fun _ _ => Q_move rfl) rfl rfl ?_
          rcases Bool.eq_false_or_eq_true x479 with hb | hb
          · rw [hb]
            replace ho462 := itT hb ho462
            refine dgq (v := .agg #[v400, v279, v281]) rfl (fun _ hw => Q_ldB (k := 2) (cs := [v400, v279, v281]) hw rfl ty29 rfl rfl rfl (fun h => nomatch h) rfl) rfl rfl rfl <| dgq (v := .agg #[v266, v4, v7]) rfl (fun _ hw => Q_ldB (k := 9) (cs := [v266, v4, v7]) hw rfl ty29 rfl rfl rfl (fun h => nomatch h) rfl) rfl rfl rfl ?_
            replace H := H.front 2 rfl
            dsimp only [List.eraseIdx] at H
            obtain ⟨q481, hq481, ho462⟩ := bnd ho462
            obtain ⟨C', ρ', hl482, HA, hL, hback⟩ := Hp.lend (A := []) (L := [Arr v266 256 c267]) (F := Arr v465 1 c466 :: Arr v472 1 c473 :: Box b417 [v411, v4, v7] :: Arr v411 256 c412 :: Box b406 [v400, v279, v281] :: Arr v400 256 c401 :: Arr v277 256 c278 :: Arr v279 1 c280 :: Arr v281 1 c282 :: Box b290 [v277, v279, v281] :: Box b272 [v266, v4, v7] :: Box b258 [v1, v4, v7] :: hs) H
            refine d1 (dge rfl (E_call fn48 rfl (c_48 HA  (arr_rd (by decide) hl482 (hL (Arr v266 256 c267) (by simp)) r270) (r6.up hl482) (r9.up hl482) hq481)) rfl rfl rfl ?_)
            rintro _ wd495 ⟨v483, c484, v485, c486, v487, c488, x489, x490, x491, rfl, rfl, r492, r493, r494, H⟩
            try dsimp only at ho462
            replace H := hback H
            replace r492 := rdL.flat (ρ := ρ') (ρ' := ρ) (flat_A _ (flat_I _)) r492
            replace r493 := rdL.flat (ρ := ρ') (ρ' := ρ) (flat_I _) r493
            replace r494 := rdL.flat (ρ := ρ') (ρ' := ρ) (flat_I _) r494
            dsimp only [List.cons_append, List.nil_append] at H
            refine ⟨H.okS (by simp), ?_⟩
            replace H := H.front 2 rfl
            dsimp only [List.eraseIdx] at H
            replace H := H.front 2 rfl
            dsimp only [List.eraseIdx] at H
            replace H := H.front 2 rfl
            dsimp only [List.eraseIdx] at H
            replace H := H.front 12 rfl
            dsimp only [List.eraseIdx] at H
            replace H := H.front 12 rfl
            dsimp only [List.eraseIdx] at H
            replace H := H.front 11 rfl
            dsimp only [List.eraseIdx] at H
            obtain ⟨q496, hq496, ho462⟩ := bnd ho462
            obtain ⟨C', ρ', hl497, HA, hL, hback⟩ := Hp.lend (A := []) (L := [Arr v400 256 c401, Arr v279 1 c280, Arr v281 1 c282, Arr v483 256 c484, Arr v485 1 c486, Arr v487 1 c488]) (F := Arr v266 256 c267 :: Arr v465 1 c466 :: Arr v472 1 c473 :: Box b417 [v411, v4, v7] :: Arr v411 256 c412 :: Box b406 [v400, v279, v281] :: Arr v277 256 c278 :: Box b290 [v277, v279, v281] :: Box b272 [v266, v4, v7] :: Box b258 [v1, v4, v7] :: hs) H
            refine d1 (dge rfl (E_call fn24 rfl (c_24 HA  (arr_rd (by decide) hl497 (hL (Arr v400 256 c401) (by simp)) r404) (arr_rd (by decide) hl497 (hL (Arr v279 1 c280) (by simp)) r287) (arr_rd (by decide) hl497 (hL (Arr v281 1 c282) (by simp)) r288) (arr_rd (by decide) hl497 (hL (Arr v483 256 c484) (by simp)) r492) (arr_rd (by decide) hl497 (hL (Arr v485 1 c486) (by simp)) r493) (arr_rd (by decide) hl497 (hL (Arr v487 1 c488) (by simp)) r494) hq496)) rfl rfl rfl ?_)
            rintro _ wd499 ⟨x498, rfl, rfl, H⟩
            try dsimp only at ho462
            replace H := hback H
            dsimp only [List.cons_append, List.nil_append] at H
            refine ⟨H.okS (by simp), ?_⟩
            refine dq rfl (fun _ _ => Q_pickT rfl rfl) rfl rfl <| dq rfl (fun _ _ => Q_move rfl) rfl rfl ?_
            rcases Bool.eq_false_or_eq_true x498 with hb | hb
            · rw [hb]
              replace ho462 := itT hb ho462
              refine dgq (v := .agg #[v411, v4, v7]) rfl (fun _ hw => Q_ldB (k := 0) (cs := [v411, v4, v7]) hw rfl ty29 rfl rfl rfl (fun h => nomatch h) rfl) rfl rfl rfl <| dgq (v := .agg #[v266, v4, v7]) rfl (fun _ hw => Q_ldB (k := 9) (cs := [v266, v4, v7]) hw rfl ty29 rfl rfl rfl (fun h => nomatch h) rfl) rfl rfl rfl ?_
              replace H := H.front 6 rfl
              dsimp only [List.eraseIdx] at H
              replace H := H.front 10 rfl
              dsimp only [List.eraseIdx] at H
              obtain ⟨q500, hq500, ho462⟩ := bnd ho462
              obtain ⟨C', ρ', hl501, HA, hL, hback⟩ := Hp.lend (A := []) (L := [Arr v411 256 c412, Arr v266 256 c267]) (F := Arr v400 256 c401 :: Arr v279 1 c280 :: Arr v281 1 c282 :: Arr v483 256 c484 :: Arr v485 1 c486 :: Arr v487 1 c488 :: Arr v465 1 c466 :: Arr v472 1 c473 :: Box b417 [v411, v4, v7] :: Box b406 [v400, v279, v281] :: Arr v277 256 c278 :: Box b290 [v277, v279, v281] :: Box b272 [v266, v4, v7] :: Box b258 [v1, v4, v7] :: hs) H
              refine d1 (dge rfl (E_call fn24 rfl (c_24 HA  (arr_rd (by decide) hl501 (hL (Arr v411 256 c412) (by simp)) r415) (r6.up hl501) (r9.up hl501) (arr_rd (by decide) hl501 (hL (Arr v266 256 c267) (by simp)) r270) (r6.up hl501) (r9.up hl501) hq500)) rfl rfl rfl ?_)
              rintro _ wd503 ⟨x502, rfl, rfl, H⟩
              try dsimp only at ho462
              replace H := hback H
              dsimp only [List.cons_append, List.nil_append] at H
              refine ⟨H.okS (by simp), ?_⟩
              refine dq rfl (fun _ _ => Q_pickT rfl rfl) rfl rfl <| dq rfl (fun _ _ => Q_assign rfl) rfl rfl <| DL_nil ?_
              replace H := H.drop 0 rfl
              dsimp only [List.eraseIdx] at H
              replace H := H.drop 0 rfl
              dsimp only [List.eraseIdx] at H
              replace H := H.drop 0 rfl
              dsimp only [List.eraseIdx] at H
              replace H := H.drop 0 rfl
              dsimp only [List.eraseIdx] at H
              replace H := H.drop 0 rfl
              dsimp only [List.eraseIdx] at H
              replace H := H.drop 0 rfl
              dsimp only [List.eraseIdx] at H
              replace H := H.drop 0 rfl
              dsimp only [List.eraseIdx] at H
              replace H := H.drop 0 rfl
              dsimp only [List.eraseIdx] at H
              replace H := H.drop 0 rfl
              dsimp only [List.eraseIdx] at H
              replace H := H.drop 0 rfl
              dsimp only [List.eraseIdx] at H
              replace H := H.drop 0 rfl
              dsimp only [List.eraseIdx] at H
              replace H := H.drop 0 rfl
              dsimp only [List.eraseIdx] at H
              replace H := H.drop 0 rfl
              dsimp only [List.eraseIdx] at H
              replace H := H.drop 0 rfl
              dsimp only [List.eraseIdx] at H
              replace H := H.drop 0 rfl
              dsimp only [List.eraseIdx] at H
              replace H := H.drop 0 rfl
              dsimp only [List.eraseIdx] at H
              obtain rfl := Option.some.inj ho462
              refine x_A fun a hf => ⟨x502, rfl, hf.sub ⟨rfl, trivial⟩, H⟩
            · rw [hb]
              replace ho462 := itF hb ho462
              refine dgs rfl rfl rfl rfl rfl <| dgs rfl rfl rfl rfl rfl ?_
              refine d1 (dges rfl rfl rfl rfl rfl ?_)
              refine dq rfl (fun _ _ => Q_pickF rfl rfl) rfl rfl <| dq rfl (fun _ _ => Q_assign rfl) rfl rfl <| DL_nil ?_
              replace H := H.drop 0 rfl
              dsimp only [List.eraseIdx] at H
              replace H := H.drop 0 rfl
              dsimp only [List.eraseIdx] at H
              replace H := H.drop 0 rfl
              dsimp only [List.eraseIdx] at H
              replace H := H.drop 0 rfl
              dsimp only [List.eraseIdx] at H
              replace H := H.drop 0 rfl
              dsimp only [List.eraseIdx] at H
              replace H := H.drop 0 rfl
              dsimp only [List.eraseIdx] at H
              replace H := H.drop 0 rfl
              dsimp only [List.eraseIdx] at H
              replace H := H.drop 0 rfl
              dsimp only [List.eraseIdx] at H
              replace H := H.drop 0 rfl
              dsimp only [List.eraseIdx] at H
              replace H := H.drop 0 rfl
              dsimp only [List.eraseIdx] at H
              replace H := H.drop 0 rfl
              dsimp only [List.eraseIdx] at H
              replace H := H.drop 0 rfl
              dsimp only [List.eraseIdx] at H
              replace H := H.drop 0 rfl
              dsimp only [List.eraseIdx] at H
              replace H := H.drop 0 rfl
              dsimp only [List.eraseIdx] at H
              replace H := H.drop 0 rfl
              dsimp only [List.eraseIdx] at H
              replace H := H.drop 0 rfl
              dsimp only [List.eraseIdx] at H
              obtain rfl := Option.some.inj ho462
              refine x_A fun a hf => ⟨false, rfl, hf.sub ⟨rfl, trivial⟩, H⟩
          · rw [hb]
            replace ho462 := itF hb ho462
            refine dgs rfl rfl rfl rfl rfl <| dgs rfl rfl rfl rfl rfl ?_
            refine d1 (dges rfl rfl rfl rfl rfl ?_)
            refine d1 (dges rfl rfl rfl rfl rfl ?_)
            refine dq rfl (fun _ _ => Q_pickF rfl rfl) rfl rfl <| dq rfl (fun _ _ => Q_move rfl) rfl rfl <| dgs rfl rfl rfl rfl rfl <| dgs rfl rfl rfl rfl rfl ?_
            refine d1 (dges rfl rfl rfl rfl rfl ?_)
            refine dq rfl (fun _ _ => Q_pickF rfl rfl) rfl rfl <| dq rfl (fun _ _ => Q_assign rfl) rfl rfl <| DL_nil ?_
            replace H := H.drop 0 rfl
            dsimp only [List.eraseIdx] at H
            replace H := H.drop 0 rfl
            dsimp only [List.eraseIdx] at H
            replace H := H.drop 0 rfl
            dsimp only [List.eraseIdx] at H
            replace H := H.drop 0 rfl
            dsimp only [List.eraseIdx] at H
            replace H := H.drop 0 rfl
            dsimp only [List.eraseIdx] at H
            replace H := H.drop 0 rfl
            dsimp only [List.eraseIdx] at H
            replace H := H.drop 0 rfl
            dsimp only [List.eraseIdx] at H
            replace H := H.drop 0 rfl
            dsimp only [List.eraseIdx] at H
            replace H := H.drop 0 rfl
            dsimp only [List.eraseIdx] at H
            replace H := H.drop 0 rfl
            dsimp only [List.eraseIdx] at H
            replace H := H.drop 0 rfl
            dsimp only [List.eraseIdx] at H
            replace H := H.drop 0 rfl
            dsimp only [List.eraseIdx] at H
            replace H := H.drop 0 rfl
            dsimp only [List.eraseIdx] at H
            obtain rfl := Option.some.inj ho462
            refine x_A fun a hf => ⟨false, rfl, hf.sub ⟨rfl, trivial⟩, H⟩
        · rintro a wd504 ⟨x461, rfl, hf, H⟩
          try dsimp only at hF
          refine CW.at hf <| C_ret ?_
          obtain rfl := Option.some.inj hF
          exact fn_ret (l := [.tmp 2]) (vs := [.bool x461]) rfl rfl rfl ⟨x461, rfl, rfl, H⟩
end Go.Proofs.YteiaphkejkgfkaaDoor
