/-
  The walks of the law ProductTurned, printed by my program, part 2: each function of the code computes its pure function.
-/
import Derived.Test.YtealkahefalaeaaGreatDoorProductTurneda
namespace Go.Proofs.YtealkahefalaeaaGreatDoor
open Go Go.Eng
set_option maxRecDepth 100000
set_option maxHeartbeats 8000000 in
theorem c_13 {N : Nat} {C : Cx} {w : World} {ρ : View} {hs : List Hl} {gV : Nat → Value} {v1 : Value} {v4 : Value} {v7 : Value} {v10 : Value} {v13 : Value} {v16 : Value} {v19 : Value} {x2 : (List (List Int))} {x5 : (List Int)} {x8 : (List Int)} {x11 : (List (List Int))} {x14 : (List Int)} {x17 : (List Int)} {x20 : (List Int)} (H : Hp C w ρ (hs)) (gle : GErrs ρ 394 errIds gV) (gl18 : GTab ρ 18 .u8 tab_math_bits_deBruijn64tab) (r3 : RdSl ρ (eA 256 (eI .i64)) v1 x2) (r6 : RdSl ρ (eI .i64) v4 x5) (r9 : RdSl ρ (eI .i64) v7 x8) (r12 : RdSl ρ (eA 256 (eI .i64)) v10 x11) (r15 : RdSl ρ (eI .i64) v13 x14) (r18 : RdSl ρ (eI .i64) v16 x17) (r21 : RdSl ρ (eI .u8) v19 x20) {r : Bool} (hF : F_dofferlaw21_ProductTurned N x2 x5 x8 x11 x14 x17 x20 = some r) :
  Calls Tryz.prog 13 [.agg #[v1, v4, v7], .agg #[v10, v13, v16], v19].toArray w (Rets (fun v w' => (∃ (ρ' : View) (x1049 : Bool), x1049 = r ∧ .bool x1049 = v ∧ View.le ρ ρ' ∧ Hp C w' ρ' (hs)))) := by
 unfold F_dofferlaw21_ProductTurned at hF
 have h0 : Tryz.f13.body = some _ := rfl
 refine fn_calls' Tryz.func13 h0 (n := 130) rfl (by simp) <| C_seq <| R_nd <| ne (E_box H (vs := [v1, v4, v7]) rfl rfl) rfl rfl ?_
 rintro _ wd1051 ⟨b1050, rfl, H⟩
 refine ne (E_box H (vs := [v10, v13, v16]) rfl rfl) rfl rfl ?_
 rintro _ wd1053 ⟨b1052, rfl, H⟩
 refine nq (Q_assign rfl) rfl rfl <| WL_nil <| x_then <| C_seq <| C_seq <| R_nd ?_
 obtain ⟨q1054, hq1054, hF⟩ := bnd hF
 refine ne (E_call fn50 rfl (c_50 H gle gl18  hq1054)) rfl rfl ?_
 rintro _ wd1058 ⟨ρ, x1056, rfl, rfl, lw1057, H⟩
 try dsimp only at hF
 replace r21 := RdSl.up lw1057 r21
 replace r3 := RdSl.up lw1057 r3
 replace r6 := RdSl.up lw1057 r6
 replace r9 := RdSl.up lw1057 r9
 replace r12 := RdSl.up lw1057 r12
 replace r15 := RdSl.up lw1057 r15
 replace r18 := RdSl.up lw1057 r18
 replace gle := GErrs.up lw1057 gle
 replace gl18 := GTab.up lw1057 gl18
 refine nq (Q_not rfl) rfl rfl <| WL_nil <| x_then ?_
 refine C_cond rfl (fun hb => ?_) (fun hb => ?_)
 ·replace hF := itT hb hF
  refine C_seq <| R_nd <| nq (Q_assign rfl) rfl rfl <| WL_nil <| x_then <| C_ret <| x_then_ret ?_
  replace H := H.e1.e0
  obtain rfl := Option.some.inj hF
  exact fn_ret (l := [.tmp 6]) (vs := [.bool false]) rfl rfl rfl ⟨ρ, false, rfl, rfl, lw1057, H⟩
 ·replace hF := itF hb hF
  refine C_skip <| x_then <| C_seq ?_
  obtain ⟨o1068, ho1068, hF⟩ := bnd hF
  refine C_cut (fun a w' => ∃ (x1067 : Bool), x1067 = o1068 ∧ Fr 130 a [(2, v19), (3, .pointer (some ⟨b1050, 0, none⟩)), (4, .pointer (some ⟨b1052, 0, none⟩)), (41, .bool x1067)] ∧ Hp C w' ρ (Box b1050 [v1, v4, v7] :: Box b1052 [v10, v13, v16] :: hs)) ?_ ?_
  ·refine R_nd <| nq (v := .pointer (some ⟨b1050, 0, none⟩)) (Q_fld Tryz.underlying78 rfl ty76 (by decide) rfl rfl) rfl rfl <| nq (v := v1) (Q_ldB (k := 1) (cs := [v1]) H.ok rfl ty76 rfl rfl rfl (fun _ => rfl) rfl) rfl rfl <| nq (Q_len Tryz.underlying76 rfl r3) rfl rfl <| nq (Q_gtr rfl rfl) rfl rfl <| nq (Q_move rfl) rfl rfl ?_
   rcases Bool.eq_false_or_eq_true (decide ((x2.length : Int) > 10)) with hb | hb
   ·rw [hb]
    replace ho1068 := itT hb ho1068
    refine gs rfl rfl rfl rfl <| gs rfl rfl rfl rfl <| gs rfl rfl rfl rfl <| gs rfl rfl rfl rfl <| nq (Q_pickT rfl rfl) rfl rfl <| nq (Q_move rfl) rfl rfl <| gs rfl rfl rfl rfl <| gs rfl rfl rfl rfl <| gs rfl rfl rfl rfl <| nq (Q_pickT rfl rfl) rfl rfl <| nq (Q_move rfl) rfl rfl <| gs rfl rfl rfl rfl <| gs rfl rfl rfl rfl <| gs rfl rfl rfl rfl ?_
    refine nq (Q_pickT rfl rfl) rfl rfl <| nq (Q_move rfl) rfl rfl <| gs rfl rfl rfl rfl <| gs rfl rfl rfl rfl <| gs rfl rfl rfl rfl <| nq (Q_pickT rfl rfl) rfl rfl <| WL_nil ?_
    replace H := H.f1
    obtain rfl := Option.some.inj ho1068
    refine x_A fun a hf => ⟨true, rfl, hf.sub ⟨rfl, rfl, rfl, rfl, trivial⟩, H⟩
   ·rw [hb]
    replace ho1068 := itF hb ho1068
    refine gq (v := .pointer (some ⟨b1052, 0, none⟩)) (Q_fld Tryz.underlying78 rfl ty76 (by decide) rfl rfl) rfl rfl rfl <| gq (v := v10) (Q_ldB (k := 0) (cs := [v10]) H.ok rfl ty76 rfl rfl rfl (fun _ => rfl) rfl) rfl rfl rfl <| gq (Q_len Tryz.underlying76 rfl r12) rfl rfl rfl <| gq (Q_gtr rfl rfl) rfl rfl rfl <| nq (Q_pickF rfl rfl) rfl rfl <| nq (Q_move rfl) rfl rfl ?_
    rcases Bool.eq_false_or_eq_true (decide ((x11.length : Int) > 10)) with hb | hb
    ·rw [hb]
     replace ho1068 := itT hb ho1068
     refine gs rfl rfl rfl rfl <| gs rfl rfl rfl rfl <| gs rfl rfl rfl rfl <| nq (Q_pickT rfl rfl) rfl rfl <| nq (Q_move rfl) rfl rfl <| gs rfl rfl rfl rfl <| gs rfl rfl rfl rfl <| gs rfl rfl rfl rfl <| nq (Q_pickT rfl rfl) rfl rfl <| nq (Q_move rfl) rfl rfl <| gs rfl rfl rfl rfl <| gs rfl rfl rfl rfl <| gs rfl rfl rfl rfl <| nq (Q_pickT rfl rfl) rfl rfl ?_
     refine WL_nil ?_
     replace H := H.f1
     obtain rfl := Option.some.inj ho1068
     refine x_A fun a hf => ⟨true, rfl, hf.sub ⟨rfl, rfl, rfl, rfl, trivial⟩, H⟩
    ·rw [hb]
     replace ho1068 := itF hb ho1068
     refine gq (Q_move rfl) rfl rfl rfl <| gq (Q_len Tryz.underlying42 rfl r21) rfl rfl rfl <| gq (Q_gtr rfl rfl) rfl rfl rfl <| nq (Q_pickF rfl rfl) rfl rfl <| nq (Q_move rfl) rfl rfl ?_
     rcases Bool.eq_false_or_eq_true (decide ((x20.length : Int) > 40)) with hb | hb
     ·rw [hb]
      replace ho1068 := itT hb ho1068
      refine gs rfl rfl rfl rfl <| gs rfl rfl rfl rfl <| gs rfl rfl rfl rfl <| nq (Q_pickT rfl rfl) rfl rfl <| nq (Q_move rfl) rfl rfl <| gs rfl rfl rfl rfl <| gs rfl rfl rfl rfl <| gs rfl rfl rfl rfl <| nq (Q_pickT rfl rfl) rfl rfl <| WL_nil ?_
      replace H := H.f1
      obtain rfl := Option.some.inj ho1068
      refine x_A fun a hf => ⟨true, rfl, hf.sub ⟨rfl, rfl, rfl, rfl, trivial⟩, H⟩
     ·rw [hb]
      replace ho1068 := itF hb ho1068
      refine gq (v := .agg #[v1, v4, v7]) (Q_ldB (k := 1) (cs := [v1, v4, v7]) H.ok rfl ty78 rfl rfl rfl (fun h => nomatch h) rfl) rfl rfl rfl ?_
      obtain ⟨q1069, hq1069, ho1068⟩ := bnd ho1068
      refine ge (E_call fn57 rfl (c_57 H gle  r3 r6 r9 hq1069)) rfl rfl rfl ?_
      rintro _ wd1072 ⟨x1071, rfl, rfl, H⟩
      try dsimp only at ho1068
      refine gq (Q_not rfl) rfl rfl rfl <| nq (Q_pickF rfl rfl) rfl rfl <| nq (Q_move rfl) rfl rfl ?_
      rcases Bool.eq_false_or_eq_true (!x1071) with hb | hb
      ·rw [hb]
       replace ho1068 := itT hb ho1068
       refine gs rfl rfl rfl rfl <| gs rfl rfl rfl rfl <| gs rfl rfl rfl rfl <| nq (Q_pickT rfl rfl) rfl rfl <| WL_nil ?_
       replace H := H.f1
       obtain rfl := Option.some.inj ho1068
       refine x_A fun a hf => ⟨true, rfl, hf.sub ⟨rfl, rfl, rfl, rfl, trivial⟩, H⟩
      ·rw [hb]
       replace ho1068 := itF hb ho1068
       refine gq (v := .agg #[v10, v13, v16]) (Q_ldB (k := 0) (cs := [v10, v13, v16]) H.ok rfl ty78 rfl rfl rfl (fun h => nomatch h) rfl) rfl rfl rfl ?_
       obtain ⟨q1073, hq1073, ho1068⟩ := bnd ho1068
       refine ge (E_call fn57 rfl (c_57 H gle  r12 r15 r18 hq1073)) rfl rfl rfl ?_
       rintro _ wd1076 ⟨x1075, rfl, rfl, H⟩
       try dsimp only at ho1068
       refine gq (Q_not rfl) rfl rfl rfl <| nq (Q_pickF rfl rfl) rfl rfl <| WL_nil ?_
       replace H := H.f1
       obtain rfl := Option.some.inj ho1068
       refine x_A fun a hf => ⟨!x1075, rfl, hf.sub ⟨rfl, rfl, rfl, rfl, trivial⟩, H⟩
  ·rintro a wd1077 ⟨x1067, rfl, hf, H⟩
   try dsimp only at hF
   refine CW.at hf ?_
   refine C_cond rfl (fun hb => ?_) (fun hb => ?_)
   ·replace hF := itT hb hF
    refine C_seq <| R_nd <| nq (Q_assign rfl) rfl rfl <| WL_nil <| x_then <| C_ret <| x_then_ret ?_
    replace H := H.e1.e0
    obtain rfl := Option.some.inj hF
    exact fn_ret (l := [.tmp 6]) (vs := [.bool true]) rfl rfl rfl ⟨ρ, true, rfl, rfl, lw1057, H⟩
   ·replace hF := itF hb hF
    refine C_skip <| x_then <| C_seq <| R_nd <| nq (v := .agg #[v1, v4, v7]) (Q_ldB (k := 0) (cs := [v1, v4, v7]) H.ok rfl ty78 rfl rfl rfl (fun h => nomatch h) rfl) rfl rfl <| nq (v := .agg #[v10, v13, v16]) (Q_ldB (k := 1) (cs := [v10, v13, v16]) H.ok rfl ty78 rfl rfl rfl (fun h => nomatch h) rfl) rfl rfl ?_
    obtain ⟨q1078, hq1078, hF⟩ := bnd hF
    refine ne (E_call fn51 rfl (c_51 H gle  r3 r6 r9 r12 r15 r18 hq1078)) rfl rfl ?_
    rintro _ wd1088 (⟨ρ, rfl, rfl, lw1080, H⟩ | ⟨ρ, v1081, x1082, x1083, x1084, x1085, rfl, rfl, lw1086, r1087, H⟩)
    ·try dsimp only at hF
     replace r21 := RdSl.up lw1080 r21
     replace r3 := RdSl.up lw1080 r3
     replace r6 := RdSl.up lw1080 r6
     replace r9 := RdSl.up lw1080 r9
     replace r12 := RdSl.up lw1080 r12
     replace r15 := RdSl.up lw1080 r15
     replace r18 := RdSl.up lw1080 r18
     replace gle := GErrs.up lw1080 gle
     replace gl18 := GTab.up lw1080 gl18
     refine nq (Q_move rfl) rfl rfl <| nq (Q_extract rfl rfl) rfl rfl <| nq (Q_extract rfl rfl) rfl rfl <| ne (E_alloc H ty90 (zs := [.int .i64 0, .slice none 0 0, .int .i64 0, .int .i64 0]) rfl) rfl rfl ?_
     rintro _ wd1090 ⟨b1089, rfl, H⟩
     refine ne (E_stB (k := 0) (cs := [.int .i64 0, (.slice none 0 0), .int .i64 0, .int .i64 0]) (vs' := [.int .i64 0, (.slice none 0 0), .int .i64 0, .int .i64 0]) H rfl ty90 rfl rfl rfl rfl (one_cons rfl (one_cons (arr_cells (H.ok.get (k := 1) rfl)).2 (one_cons rfl (one_cons rfl one_nil)))) (by simp) rfl) rfl rfl ?_
     rintro _ wd1091 H
     dsimp only [List.set] at H
     refine nq (Q_assign rfl) rfl rfl <| WL_nil <| x_then <| C_seq <| R_nd <| nq (v := .agg #[v10, v13, v16]) (Q_ldB (k := 3) (cs := [v10, v13, v16]) H.ok rfl ty78 rfl rfl rfl (fun h => nomatch h) rfl) rfl rfl <| nq (v := .agg #[v1, v4, v7]) (Q_ldB (k := 2) (cs := [v1, v4, v7]) H.ok rfl ty78 rfl rfl rfl (fun h => nomatch h) rfl) rfl rfl ?_
     obtain ⟨q1092, hq1092, hF⟩ := bnd hF
     refine ne (E_call fn51 rfl (c_51 H gle  r12 r15 r18 r3 r6 r9 hq1092)) rfl rfl ?_
     rintro _ wd1102 (⟨ρ, rfl, rfl, lw1094, H⟩ | ⟨ρ, v1095, x1096, x1097, x1098, x1099, rfl, rfl, lw1100, r1101, H⟩)
     ·try dsimp only at hF
      replace r21 := RdSl.up lw1094 r21
      replace r3 := RdSl.up lw1094 r3
      replace r6 := RdSl.up lw1094 r6
      replace r9 := RdSl.up lw1094 r9
      replace r12 := RdSl.up lw1094 r12
      replace r15 := RdSl.up lw1094 r15
      replace r18 := RdSl.up lw1094 r18
      replace gle := GErrs.up lw1094 gle
      replace gl18 := GTab.up lw1094 gl18
      refine nq (Q_move rfl) rfl rfl <| nq (Q_extract rfl rfl) rfl rfl <| nq (Q_extract rfl rfl) rfl rfl <| ne (E_alloc H ty90 (zs := [.int .i64 0, .slice none 0 0, .int .i64 0, .int .i64 0]) rfl) rfl rfl ?_
      rintro _ wd1104 ⟨b1103, rfl, H⟩
      refine ne (E_stB (k := 0) (cs := [.int .i64 0, (.slice none 0 0), .int .i64 0, .int .i64 0]) (vs' := [.int .i64 0, (.slice none 0 0), .int .i64 0, .int .i64 0]) H rfl ty90 rfl rfl rfl rfl (one_cons rfl (one_cons (arr_cells (H.ok.get (k := 1) rfl)).2 (one_cons rfl (one_cons rfl one_nil)))) (by simp) rfl) rfl rfl ?_
      rintro _ wd1105 H
      dsimp only [List.set] at H
      refine nq (Q_assign rfl) rfl rfl <| WL_nil <| x_then <| C_seq ?_
      obtain ⟨o1109, ho1109, hF⟩ := bnd hF
      refine C_cut (fun a w' => ∃ (x1108 : Bool), x1108 = o1109 ∧ Fr 130 a [(2, v19), (3, .pointer (some ⟨b1050, 0, none⟩)), (4, .pointer (some ⟨b1052, 0, none⟩)), (86, .bool x1108)] ∧ Hp C w' ρ (Box b1050 [v1, v4, v7] :: Box b1052 [v10, v13, v16] :: hs)) ?_ ?_
      ·refine R_nd <| nq (Q_move rfl) rfl rfl <| nq (Q_move rfl) rfl rfl <| nq (v := .bool (false != false)) (Q_neqB Tryz.underlying4 rfl rfl) rfl rfl <| nq (Q_move rfl) rfl rfl ?_
       rcases Bool.eq_false_or_eq_true (false != false) with hb | hb
       ·rw [hb]
        replace ho1109 := itT hb ho1109
        refine gs rfl rfl rfl rfl <| gs rfl rfl rfl rfl <| gs rfl rfl rfl rfl <| gs rfl rfl rfl rfl <| gs rfl rfl rfl rfl <| nq (Q_pickT rfl rfl) rfl rfl <| nq (Q_move rfl) rfl rfl <| gs rfl rfl rfl rfl <| gs rfl rfl rfl rfl <| gs rfl rfl rfl rfl <| gs rfl rfl rfl rfl <| gs rfl rfl rfl rfl <| gs rfl rfl rfl rfl <| gs rfl rfl rfl rfl ?_
        refine nq (Q_pickT rfl rfl) rfl rfl <| nq (Q_move rfl) rfl rfl <| gs rfl rfl rfl rfl <| gs rfl rfl rfl rfl <| gs rfl rfl rfl rfl <| gs rfl rfl rfl rfl <| gs rfl rfl rfl rfl <| nq (Q_pickT rfl rfl) rfl rfl <| nq (Q_move rfl) rfl rfl <| gs rfl rfl rfl rfl <| gs rfl rfl rfl rfl <| gs rfl rfl rfl rfl <| gs rfl rfl rfl rfl <| gs rfl rfl rfl rfl ?_
        refine nq (Q_pickT rfl rfl) rfl rfl <| WL_nil ?_
        replace H := H.e3.e2.e1.e0
        obtain rfl := Option.some.inj ho1109
        refine x_A fun a hf => ⟨true, rfl, hf.sub ⟨rfl, rfl, rfl, rfl, trivial⟩, H⟩
       ·rw [hb]
        replace ho1109 := itF hb ho1109
        refine gq (v := .pointer (some ⟨b1089, 0, none⟩)) (Q_fld Tryz.underlying90 rfl ty3 (by decide) rfl rfl) rfl rfl rfl <| gq (v := .int .i64 0) (Q_ldB (k := 2) (cs := [.int .i64 0]) H.ok rfl ty3 rfl rfl rfl (fun _ => rfl) rfl) rfl rfl rfl <| gq (v := .pointer (some ⟨b1103, 0, none⟩)) (Q_fld Tryz.underlying90 rfl ty3 (by decide) rfl rfl) rfl rfl rfl <| gq (v := .int .i64 0) (Q_ldB (k := 0) (cs := [.int .i64 0]) H.ok rfl ty3 rfl rfl rfl (fun _ => rfl) rfl) rfl rfl rfl <| gq (v := .bool false) (Q_known (by decide) (Q_neq rfl rfl)) rfl rfl rfl <| nq (Q_pickF rfl rfl) rfl rfl <| nq (Q_move rfl) rfl rfl <| gq (v := .pointer (some ⟨b1089, 1, none⟩)) (Q_fld Tryz.underlying90 rfl ty42 (by decide) rfl rfl) rfl rfl rfl <| gq (v := (.slice none 0 0)) (Q_ldB (k := 2) (cs := [(.slice none 0 0)]) H.ok rfl ty42 rfl rfl rfl (fun _ => rfl) rfl) rfl rfl rfl <| ge (E_bstrA (k := 3) H rfl rdL.nil Tryz.underlying42 Tryz.underlying5 Tryz.underlying9 rfl) rfl rfl rfl ?_
        rintro _ wd1110 ⟨rfl, rfl⟩
        refine gq (v := .pointer (some ⟨b1103, 1, none⟩)) (Q_fld Tryz.underlying90 rfl ty42 (by decide) rfl rfl) rfl rfl rfl <| gq (v := (.slice none 0 0)) (Q_ldB (k := 0) (cs := [(.slice none 0 0)]) H.ok rfl ty42 rfl rfl rfl (fun _ => rfl) rfl) rfl rfl rfl <| ge (E_bstrA (k := 1) H rfl rdL.nil Tryz.underlying42 Tryz.underlying5 Tryz.underlying9 rfl) rfl rfl rfl ?_
        rintro _ wd1111 ⟨rfl, rfl⟩
        refine gq (v := .bool ((bstr ([])).toList != (bstr ([])).toList)) (Q_neqStr Tryz.underlying9 rfl rfl) rfl rfl rfl <| nq (Q_pickF rfl rfl) rfl rfl <| nq (Q_move rfl) rfl rfl ?_
        rcases Bool.eq_false_or_eq_true ((bstr ([])).toList != (bstr ([])).toList) with hb | hb
        ·rw [hb]
         replace ho1109 := itT hb ho1109
         refine gs rfl rfl rfl rfl <| gs rfl rfl rfl rfl <| gs rfl rfl rfl rfl <| gs rfl rfl rfl rfl <| gs rfl rfl rfl rfl <| nq (Q_pickT rfl rfl) rfl rfl <| nq (Q_move rfl) rfl rfl <| gs rfl rfl rfl rfl <| gs rfl rfl rfl rfl <| gs rfl rfl rfl rfl <| gs rfl rfl rfl rfl <| gs rfl rfl rfl rfl <| nq (Q_pickT rfl rfl) rfl rfl <| WL_nil ?_
         replace H := H.e3.e2.e1.e0
         obtain rfl := Option.some.inj ho1109
         refine x_A fun a hf => ⟨true, rfl, hf.sub ⟨rfl, rfl, rfl, rfl, trivial⟩, H⟩
        ·rw [hb]
         replace ho1109 := itF hb ho1109
         refine gq (v := .pointer (some ⟨b1089, 2, none⟩)) (Q_fld Tryz.underlying90 rfl ty3 (by decide) rfl rfl) rfl rfl rfl <| gq (v := .int .i64 0) (Q_ldB (k := 2) (cs := [.int .i64 0]) H.ok rfl ty3 rfl rfl rfl (fun _ => rfl) rfl) rfl rfl rfl <| gq (v := .pointer (some ⟨b1103, 3, none⟩)) (Q_fld Tryz.underlying90 rfl ty3 (by decide) rfl rfl) rfl rfl rfl <| gq (v := .int .i64 0) (Q_ldB (k := 0) (cs := [.int .i64 0]) H.ok rfl ty3 rfl rfl rfl (fun _ => rfl) rfl) rfl rfl rfl <| gq (v := .bool false) (Q_known (by decide) (Q_neq rfl rfl)) rfl rfl rfl <| nq (Q_pickF rfl rfl) rfl rfl <| nq (Q_move rfl) rfl rfl <| gq (v := .pointer (some ⟨b1089, 3, none⟩)) (Q_fld Tryz.underlying90 rfl ty3 (by decide) rfl rfl) rfl rfl rfl <| gq (v := .int .i64 0) (Q_ldB (k := 2) (cs := [.int .i64 0]) H.ok rfl ty3 rfl rfl rfl (fun _ => rfl) rfl) rfl rfl rfl <| gq (v := .pointer (some ⟨b1103, 2, none⟩)) (Q_fld Tryz.underlying90 rfl ty3 (by decide) rfl rfl) rfl rfl rfl <| gq (v := .int .i64 0) (Q_ldB (k := 0) (cs := [.int .i64 0]) H.ok rfl ty3 rfl rfl rfl (fun _ => rfl) rfl) rfl rfl rfl <| gq (v := .bool false) (Q_known (by decide) (Q_neq rfl rfl)) rfl rfl rfl <| nq (Q_pickF rfl rfl) rfl rfl <| WL_nil ?_
         replace H := H.e3.e2.e1.e0
         obtain rfl := Option.some.inj ho1109
         refine x_A fun a hf => ⟨false, rfl, hf.sub ⟨rfl, rfl, rfl, rfl, trivial⟩, H⟩
      ·rintro a wd1112 ⟨x1108, rfl, hf, H⟩
       try dsimp only at hF
       refine CW.at hf ?_
       refine C_cond rfl (fun hb => ?_) (fun hb => ?_)
       ·replace hF := itT hb hF
        refine C_seq <| R_nd <| nq (Q_assign rfl) rfl rfl <| WL_nil <| x_then <| C_ret <| x_then_ret ?_
        replace H := H.e1.e0
        obtain rfl := Option.some.inj hF
        exact fn_ret (l := [.tmp 6]) (vs := [.bool false]) rfl rfl rfl ⟨ρ, false, rfl, rfl, (View.le_trans lw1057 (View.le_trans lw1080 lw1094)), H⟩
       ·replace hF := itF hb hF
        refine C_skip <| x_then <| C_seq <| R_nd <| nq (v := .agg #[v1, v4, v7]) (Q_ldB (k := 0) (cs := [v1, v4, v7]) H.ok rfl ty78 rfl rfl rfl (fun h => nomatch h) rfl) rfl rfl <| nq (v := .agg #[v10, v13, v16]) (Q_ldB (k := 1) (cs := [v10, v13, v16]) H.ok rfl ty78 rfl rfl rfl (fun h => nomatch h) rfl) rfl rfl ?_
        obtain ⟨q1113, hq1113, hF⟩ := bnd hF
        refine ne (E_call fn66 rfl (c_66 H gle  r3 r6 r9 r12 r15 r18 hq1113)) rfl rfl ?_
        rintro _ wd1128 ⟨v1115, c1116, v1117, c1118, v1119, c1120, x1121, x1122, x1123, x1124, rfl, rfl, r1125, r1126, r1127, H⟩
        try dsimp only at hF
        refine nq (Q_move rfl) rfl rfl <| nq (Q_extract rfl rfl) rfl rfl <| nq (Q_extract rfl rfl) rfl rfl <| ne (E_alloc H ty78 (zs := [.slice none 0 0, .slice none 0 0, .slice none 0 0]) rfl) rfl rfl ?_
        rintro _ wd1130 ⟨b1129, rfl, H⟩
        refine ne (E_stB (k := 0) (cs := [v1115, v1117, v1119]) (vs' := [v1115, v1117, v1119]) H rfl ty78 rfl rfl rfl rfl (one_cons (arr_cells (H.ok.get (k := 1) rfl)).2 (one_cons (arr_cells (H.ok.get (k := 2) rfl)).2 (one_cons (arr_cells (H.ok.get (k := 3) rfl)).2 one_nil))) (by simp) rfl) rfl rfl ?_
        rintro _ wd1131 H
        dsimp only [List.set] at H
        refine nq (Q_assign rfl) rfl rfl <| WL_nil <| x_then <| C_seq ?_
        obtain ⟨o1133, ho1133, hF⟩ := bnd hF
        refine C_cut (fun a w' => ∃ (x1132 : Bool), x1132 = o1133 ∧ Fr 130 a [(2, v19), (3, .pointer (some ⟨b1050, 0, none⟩)), (4, .pointer (some ⟨b1052, 0, none⟩)), (11, .pointer (some ⟨b1129, 0, none⟩)), (103, .bool x1132)] ∧ Hp C w' ρ (Box b1129 [v1115, v1117, v1119] :: Arr v1115 256 c1116 :: Arr v1117 1 c1118 :: Arr v1119 1 c1120 :: Box b1050 [v1, v4, v7] :: Box b1052 [v10, v13, v16] :: hs)) ?_ ?_
        ·refine R_nd <| nq (Q_move rfl) rfl rfl <| nq (v := .bool (eOk errIds x1124)) (Q_neqV Tryz.underlying53 gle rfl) rfl rfl <| nq (Q_move rfl) rfl rfl ?_
         rcases Bool.eq_false_or_eq_true (eOk errIds x1124) with hb | hb
         ·rw [hb]
          replace ho1133 := itT hb ho1133
          refine gs rfl rfl rfl rfl <| gs rfl rfl rfl rfl <| gs rfl rfl rfl rfl <| gs rfl rfl rfl rfl <| gs rfl rfl rfl rfl <| gs rfl rfl rfl rfl <| gs rfl rfl rfl rfl <| nq (Q_pickT rfl rfl) rfl rfl <| WL_nil ?_
          obtain rfl := Option.some.inj ho1133
          refine x_A fun a hf => ⟨true, rfl, hf.sub ⟨rfl, rfl, rfl, rfl, rfl, trivial⟩, H⟩
         ·rw [hb]
          replace ho1133 := itF hb ho1133
          refine gq (v := .pointer (some ⟨b1050, 2, none⟩)) (Q_fld Tryz.underlying78 rfl ty23 (by decide) rfl rfl) rfl rfl rfl <| gq (v := v7) (Q_ldB (k := 4) (cs := [v7]) H.ok rfl ty23 rfl rfl rfl (fun _ => rfl) rfl) rfl rfl rfl <| gq (Q_len Tryz.underlying23 rfl r9) rfl rfl rfl <| gq (v := .pointer (some ⟨b1052, 2, none⟩)) (Q_fld Tryz.underlying78 rfl ty23 (by decide) rfl rfl) rfl rfl rfl <| gq (v := v16) (Q_ldB (k := 5) (cs := [v16]) H.ok rfl ty23 rfl rfl rfl (fun _ => rfl) rfl) rfl rfl rfl <| gq (Q_len Tryz.underlying23 rfl r18) rfl rfl rfl <| gq (Q_neq rfl rfl) rfl rfl rfl <| nq (Q_pickF rfl rfl) rfl rfl <| WL_nil ?_
          obtain rfl := Option.some.inj ho1133
          refine x_A fun a hf => ⟨(x8.length : Int) != (x17.length : Int), rfl, hf.sub ⟨rfl, rfl, rfl, rfl, rfl, trivial⟩, H⟩
        ·rintro a wd1134 ⟨x1132, rfl, hf, H⟩
         try dsimp only at hF
         refine CW.at hf ?_
         refine C_cond rfl (fun hb => ?_) (fun hb => ?_)
         ·replace hF := itT hb hF
          refine C_seq <| R_nd <| nq (v := .pointer (some ⟨b1129, 0, none⟩)) (Q_fld Tryz.underlying78 rfl ty76 (by decide) rfl rfl) rfl rfl <| nq (v := v1115) (Q_ldB (k := 0) (cs := [v1115]) H.ok rfl ty76 rfl rfl rfl (fun _ => rfl) rfl) rfl rfl <| nq (Q_lenA (k := 1) H.ok rfl r1125 (by decide) Tryz.underlying76 rfl) rfl rfl <| nq (Q_eql rfl rfl) rfl rfl <| nq (Q_assign rfl) rfl rfl <| WL_nil <| x_then <| C_ret <| x_then_ret ?_
          replace H := H.e5.e4.e3.e2.e1.e0
          obtain rfl := Option.some.inj hF
          exact fn_ret (l := [.tmp 6]) (vs := [.bool ((x1121.length : Int) == 0)]) rfl rfl rfl ⟨ρ, (x1121.length : Int) == 0, rfl, rfl, (View.le_trans lw1057 (View.le_trans lw1080 lw1094)), H⟩
         ·replace hF := itF hb hF
          refine C_skip <| x_then <| C_seq <| C_seq <| R_nd <| nq (v := .pointer (some ⟨b1050, 2, none⟩)) (Q_fld Tryz.underlying78 rfl ty23 (by decide) rfl rfl) rfl rfl <| nq (v := v7) (Q_ldB (k := 4) (cs := [v7]) H.ok rfl ty23 rfl rfl rfl (fun _ => rfl) rfl) rfl rfl <| nq (Q_len Tryz.underlying23 rfl r9) rfl rfl <| nq (Q_move rfl) rfl rfl <| WL_nil <| x_then ?_
          obtain ⟨o1238, ho1238, hF⟩ := bnd hF
          refine C_cutQ (fun a w' => .inl () = o1238 ∧ Fr 130 a [] ∧ Hp C w' ρ (hs)) ?_ ?_
          ·refine C_block ?_
           refine C_iter (f := fun s => F_dofferlaw21_ProductTurned_l0 N x2 x5 x8 x11 x14 x17 x20 x1121 x1122 x1123 s) ho1238 (fun s a w' => ∃ (x1272 : Int), x1272 = s ∧ Fr 130 a [(2, v19), (3, .pointer (some ⟨b1050, 0, none⟩)), (4, .pointer (some ⟨b1052, 0, none⟩)), (11, .pointer (some ⟨b1129, 0, none⟩)), (110, .int .i64 (x8.length : Int)), (111, .int .i64 x1272)] ∧ Hp C w' ρ (Box b1129 [v1115, v1117, v1119] :: Arr v1115 256 c1116 :: Arr v1117 1 c1118 :: Arr v1119 1 c1120 :: Box b1050 [v1, v4, v7] :: Box b1052 [v10, v13, v16] :: hs)) ?_ ?_
           ·exact fun a hf => ⟨0, rfl, hf.sub ⟨rfl, rfl, rfl, rfl, rfl, rfl, trivial⟩, H⟩
           ·rintro s o1306 a wd1309 ⟨x1272, rfl, hf, H⟩ hB1307 hO1308
            replace hB1307 : F_dofferlaw21_ProductTurned_l0 N x2 x5 x8 x11 x14 x17 x20 x1121 x1122 x1123 x1272 = some o1306 := hB1307
            unfold F_dofferlaw21_ProductTurned_l0 at hB1307
            refine CW.at hf <| C_seq <| R_nd <| nq (Q_lss rfl rfl) rfl rfl <| WL_nil <| x_then <| C_seq ?_
            refine C_cond rfl (fun hb => ?_) (fun hb => ?_)
            ·replace hB1307 := itT hb hB1307
             refine C_skip <| x_then ?_
             obtain ⟨o1325, ho1325, hB1307⟩ := bnd hB1307
             refine C_cut (fun a w' => .inl () = o1325 ∧ Fr 130 a [(2, v19), (3, .pointer (some ⟨b1050, 0, none⟩)), (4, .pointer (some ⟨b1052, 0, none⟩)), (11, .pointer (some ⟨b1129, 0, none⟩)), (110, .int .i64 (x8.length : Int)), (111, .int .i64 x1272)] ∧ Hp C w' ρ (Box b1129 [v1115, v1117, v1119] :: Arr v1115 256 c1116 :: Arr v1117 1 c1118 :: Arr v1119 1 c1120 :: Box b1050 [v1, v4, v7] :: Box b1052 [v10, v13, v16] :: hs)) ?_ ?_
             ·refine C_block <| C_seq <| R_nd <| nq (Q_move rfl) rfl rfl <| nq (Q_assign rfl) rfl rfl <| WL_nil <| x_then <| C_seq <| R_nd <| nq (v := .agg #[v1, v4, v7]) (Q_ldB (k := 4) (cs := [v1, v4, v7]) H.ok rfl ty78 rfl rfl rfl (fun h => nomatch h) rfl) rfl rfl <| nq (Q_move rfl) rfl rfl <| nq (Q_move rfl) rfl rfl ?_
              obtain ⟨q1326, hq1326, ho1325⟩ := bnd ho1325
              refine ne (E_call fn58 rfl (c_58 H gle  r3 r6 r9 r21 hq1326)) rfl rfl ?_
              rintro _ wd1329 ⟨x1328, rfl, rfl, H⟩
              try dsimp only at ho1325
              refine nq (Q_assign rfl) rfl rfl <| WL_nil <| x_then <| C_seq <| C_seq <| R_nd <| nq (v := .agg #[v10, v13, v16]) (Q_ldB (k := 5) (cs := [v10, v13, v16]) H.ok rfl ty78 rfl rfl rfl (fun h => nomatch h) rfl) rfl rfl <| nq (Q_move rfl) rfl rfl <| nq (Q_move rfl) rfl rfl ?_
              obtain ⟨q1330, hq1330, ho1325⟩ := bnd ho1325
              refine ne (E_call fn58 rfl (c_58 H gle  r12 r15 r18 r21 hq1330)) rfl rfl ?_
              rintro _ wd1333 ⟨x1332, rfl, rfl, H⟩
              try dsimp only at ho1325
              refine nq (Q_lss rfl rfl) rfl rfl <| WL_nil <| x_then ?_
              obtain ⟨o1335, ho1335, ho1325⟩ := bnd ho1325
              refine C_cutQ (fun a w' => ∃ (x1334 : Int), x1334 = o1335 ∧ Fr 130 a [(2, v19), (3, .pointer (some ⟨b1050, 0, none⟩)), (4, .pointer (some ⟨b1052, 0, none⟩)), (11, .pointer (some ⟨b1129, 0, none⟩)), (13, .int .i64 x1272), (14, .int .i64 x1334), (110, .int .i64 (x8.length : Int)), (111, .int .i64 x1272)] ∧ Hp C w' ρ (Box b1129 [v1115, v1117, v1119] :: Arr v1115 256 c1116 :: Arr v1117 1 c1118 :: Arr v1119 1 c1120 :: Box b1050 [v1, v4, v7] :: Box b1052 [v10, v13, v16] :: hs)) ?_ ?_
              ·refine C_cond rfl (fun hb => ?_) (fun hb => ?_)
               ·replace ho1335 := itT hb ho1335
                refine R_nd <| nq (Q_assign rfl) rfl rfl <| WL_nil ?_
                obtain rfl := Option.some.inj ho1335
                refine x_A fun a hf => ⟨(-1), rfl, hf.sub ⟨rfl, rfl, rfl, rfl, rfl, rfl, rfl, rfl, trivial⟩, H⟩
               ·replace ho1335 := itF hb ho1335
                refine C_skip ?_
                obtain rfl := Option.some.inj ho1335
                refine x_A fun a hf => ⟨x1328, rfl, hf.sub ⟨rfl, rfl, rfl, rfl, rfl, rfl, rfl, rfl, trivial⟩, H⟩
              ·rintro a wd1336 ⟨x1334, rfl, hf, H⟩
               try dsimp only at ho1325
               refine XX.at hf <| x_then <| C_seq <| R_nd <| nq (v := .agg #[v1115, v1117, v1119]) (Q_ldB (k := 0) (cs := [v1115, v1117, v1119]) H.ok rfl ty78 rfl rfl rfl (fun h => nomatch h) rfl) rfl rfl <| nq (Q_move rfl) rfl rfl <| nq (Q_move rfl) rfl rfl ?_
               replace H := H.f3.f3.f3
               obtain ⟨q1337, hq1337, ho1325⟩ := bnd ho1325
               obtain ⟨C', ρ', hl1338, HA, hL, hback⟩ := Hp.lend (A := []) (L := [Arr v1115 256 c1116, Arr v1117 1 c1118, Arr v1119 1 c1120]) (F := Box b1129 [v1115, v1117, v1119] :: Box b1050 [v1, v4, v7] :: Box b1052 [v10, v13, v16] :: hs) H
               refine ne (E_call fn58 rfl (c_58 HA (gle.up hl1338)  (arr_rd (by decide) hl1338 (hL (Arr v1115 256 c1116) (by simp)) r1125) (arr_rd (by decide) hl1338 (hL (Arr v1117 1 c1118) (by simp)) r1126) (arr_rd (by decide) hl1338 (hL (Arr v1119 1 c1120) (by simp)) r1127) (r21.up hl1338) hq1337)) rfl rfl ?_
               rintro _ wd1340 ⟨x1339, rfl, rfl, H⟩
               try dsimp only at ho1325
               replace H := hback H
               dsimp only [List.cons_append, List.nil_append] at H
               refine nq (Q_move rfl) rfl rfl <| nq (Q_neq rfl rfl) rfl rfl <| WL_nil <| x_then ?_
               refine C_cond rfl (fun hb => ?_) (fun hb => ?_)
               ·replace ho1325 := itT hb ho1325
                refine C_seq <| R_nd <| nq (Q_assign rfl) rfl rfl <| WL_nil <| x_then <| C_ret <| x_block_ret <| x_then_ret <| x_then_ret <| x_block_ret <| x_then_ret <| x_then_ret ?_
                replace H := H.e5.e4.e3.e2.e1.e0
                obtain rfl := Option.some.inj ho1325
                obtain rfl := Option.some.inj (show some _ = some _ from hB1307)
                obtain rfl := hO1308 _ rfl
                obtain rfl := Option.some.inj (show some _ = some _ from hF)
                exact fn_ret (l := [.tmp 6]) (vs := [.bool false]) rfl rfl rfl ⟨ρ, false, rfl, rfl, (View.le_trans lw1057 (View.le_trans lw1080 lw1094)), H⟩
               ·replace ho1325 := itF hb ho1325
                refine C_skip <| x_block ?_
                replace H := H.f3
                obtain rfl := Option.some.inj ho1325
                refine x_A fun a hf => ⟨rfl, hf.sub ⟨rfl, rfl, rfl, rfl, rfl, rfl, trivial⟩, H⟩
             ·rintro a wd1341 ⟨rfl, hf, H⟩
              try dsimp only at hB1307
              refine CW.at hf <| R_nd <| nq (Q_add rfl rfl) rfl rfl <| nq (Q_move rfl) rfl rfl <| WL_nil ?_
              obtain rfl := Option.some.inj hB1307
              refine x_A fun a hf => ⟨_, rfl, w64 (x1272 + 1), rfl, hf.sub ⟨rfl, rfl, rfl, rfl, rfl, rfl, trivial⟩, H⟩
            ·replace hB1307 := itF hb hB1307
             refine C_exit <| x_then_exit <| x_then_exit <| x_block_exit ?_
             replace H := H.e5.e4.e3.e2.e1.e0
             obtain rfl := Option.some.inj hB1307
             obtain rfl := hO1308 _ rfl
             refine x_A fun a hf => ⟨rfl, hf.sub trivial, H⟩
          ·rintro a wd1342 ⟨rfl, hf, H⟩
           try dsimp only at hF
           refine XX.at hf <| x_then <| C_seq <| R_nd <| nq (Q_assign rfl) rfl rfl <| WL_nil <| x_then <| C_ret ?_
           obtain rfl := Option.some.inj hF
           exact fn_ret (l := [.tmp 6]) (vs := [.bool true]) rfl rfl rfl ⟨ρ, true, rfl, rfl, (View.le_trans lw1057 (View.le_trans lw1080 lw1094)), H⟩
     ·try dsimp only at hF
      replace r21 := RdSl.up lw1100 r21
      replace r3 := RdSl.up lw1100 r3
      replace r6 := RdSl.up lw1100 r6
      replace r9 := RdSl.up lw1100 r9
      replace r12 := RdSl.up lw1100 r12
      replace r15 := RdSl.up lw1100 r15
      replace r18 := RdSl.up lw1100 r18
      replace gle := GErrs.up lw1100 gle
      replace gl18 := GTab.up lw1100 gl18
      refine nq (Q_move rfl) rfl rfl <| nq (Q_extract rfl rfl) rfl rfl <| nq (Q_extract rfl rfl) rfl rfl <| ne (E_alloc H ty90 (zs := [.int .i64 0, .slice none 0 0, .int .i64 0, .int .i64 0]) rfl) rfl rfl ?_
      rintro _ wd1344 ⟨b1343, rfl, H⟩
      refine ne (E_stB (k := 0) (cs := [.int .i64 x1096, v1095, .int .i64 x1098, .int .i64 x1099]) (vs' := [.int .i64 x1096, v1095, .int .i64 x1098, .int .i64 x1099]) H rfl ty90 rfl rfl rfl rfl (one_cons rfl (one_cons (RdSl.one r1101) (one_cons rfl (one_cons rfl one_nil)))) (by simp) rfl) rfl rfl ?_
      rintro _ wd1345 H
      dsimp only [List.set] at H
      refine nq (Q_assign rfl) rfl rfl <| WL_nil <| x_then <| C_seq ?_
      obtain ⟨o1349, ho1349, hF⟩ := bnd hF
      refine C_cut (fun a w' => ∃ (x1348 : Bool), x1348 = o1349 ∧ Fr 130 a [(2, v19), (3, .pointer (some ⟨b1050, 0, none⟩)), (4, .pointer (some ⟨b1052, 0, none⟩)), (86, .bool x1348)] ∧ Hp C w' ρ (Box b1050 [v1, v4, v7] :: Box b1052 [v10, v13, v16] :: hs)) ?_ ?_
      ·refine R_nd <| nq (Q_move rfl) rfl rfl <| nq (Q_move rfl) rfl rfl <| nq (v := .bool (false != true)) (Q_neqB Tryz.underlying4 rfl rfl) rfl rfl <| nq (Q_move rfl) rfl rfl ?_
       rcases Bool.eq_false_or_eq_true (false != true) with hb | hb
       ·rw [hb]
        replace ho1349 := itT hb ho1349
        refine gs rfl rfl rfl rfl <| gs rfl rfl rfl rfl <| gs rfl rfl rfl rfl <| gs rfl rfl rfl rfl <| gs rfl rfl rfl rfl <| nq (Q_pickT rfl rfl) rfl rfl <| nq (Q_move rfl) rfl rfl <| gs rfl rfl rfl rfl <| gs rfl rfl rfl rfl <| gs rfl rfl rfl rfl <| gs rfl rfl rfl rfl <| gs rfl rfl rfl rfl <| gs rfl rfl rfl rfl <| gs rfl rfl rfl rfl ?_
        refine nq (Q_pickT rfl rfl) rfl rfl <| nq (Q_move rfl) rfl rfl <| gs rfl rfl rfl rfl <| gs rfl rfl rfl rfl <| gs rfl rfl rfl rfl <| gs rfl rfl rfl rfl <| gs rfl rfl rfl rfl <| nq (Q_pickT rfl rfl) rfl rfl <| nq (Q_move rfl) rfl rfl <| gs rfl rfl rfl rfl <| gs rfl rfl rfl rfl <| gs rfl rfl rfl rfl <| gs rfl rfl rfl rfl <| gs rfl rfl rfl rfl ?_
        refine nq (Q_pickT rfl rfl) rfl rfl <| WL_nil ?_
        replace H := H.e2.e1.e0
        obtain rfl := Option.some.inj ho1349
        refine x_A fun a hf => ⟨true, rfl, hf.sub ⟨rfl, rfl, rfl, rfl, trivial⟩, H⟩
       ·rw [hb]
        replace ho1349 := itF hb ho1349
        refine gq (v := .pointer (some ⟨b1089, 0, none⟩)) (Q_fld Tryz.underlying90 rfl ty3 (by decide) rfl rfl) rfl rfl rfl <| gq (v := .int .i64 0) (Q_ldB (k := 1) (cs := [.int .i64 0]) H.ok rfl ty3 rfl rfl rfl (fun _ => rfl) rfl) rfl rfl rfl <| gq (v := .pointer (some ⟨b1343, 0, none⟩)) (Q_fld Tryz.underlying90 rfl ty3 (by decide) rfl rfl) rfl rfl rfl <| gq (v := .int .i64 x1096) (Q_ldB (k := 0) (cs := [.int .i64 x1096]) H.ok rfl ty3 rfl rfl rfl (fun _ => rfl) rfl) rfl rfl rfl <| gq (Q_neq rfl rfl) rfl rfl rfl <| nq (Q_pickF rfl rfl) rfl rfl <| nq (Q_move rfl) rfl rfl ?_
        rcases Bool.eq_false_or_eq_true (0 != x1096) with hb | hb
        ·rw [hb]
         replace ho1349 := itT hb ho1349
         refine gs rfl rfl rfl rfl <| gs rfl rfl rfl rfl <| gs rfl rfl rfl rfl <| gs rfl rfl rfl rfl <| gs rfl rfl rfl rfl <| gs rfl rfl rfl rfl <| gs rfl rfl rfl rfl <| nq (Q_pickT rfl rfl) rfl rfl <| nq (Q_move rfl) rfl rfl <| gs rfl rfl rfl rfl <| gs rfl rfl rfl rfl <| gs rfl rfl rfl rfl <| gs rfl rfl rfl rfl <| gs rfl rfl rfl rfl ?_
         refine nq (Q_pickT rfl rfl) rfl rfl <| nq (Q_move rfl) rfl rfl <| gs rfl rfl rfl rfl <| gs rfl rfl rfl rfl <| gs rfl rfl rfl rfl <| gs rfl rfl rfl rfl <| gs rfl rfl rfl rfl <| nq (Q_pickT rfl rfl) rfl rfl <| WL_nil ?_
         replace H := H.e2.e1.e0
         obtain rfl := Option.some.inj ho1349
         refine x_A fun a hf => ⟨true, rfl, hf.sub ⟨rfl, rfl, rfl, rfl, trivial⟩, H⟩
        ·rw [hb]
         replace ho1349 := itF hb ho1349
         refine gq (v := .pointer (some ⟨b1089, 1, none⟩)) (Q_fld Tryz.underlying90 rfl ty42 (by decide) rfl rfl) rfl rfl rfl <| gq (v := (.slice none 0 0)) (Q_ldB (k := 1) (cs := [(.slice none 0 0)]) H.ok rfl ty42 rfl rfl rfl (fun _ => rfl) rfl) rfl rfl rfl <| ge (E_bstrA (k := 2) H rfl rdL.nil Tryz.underlying42 Tryz.underlying5 Tryz.underlying9 rfl) rfl rfl rfl ?_
         rintro _ wd1350 ⟨rfl, rfl⟩
         refine gq (v := .pointer (some ⟨b1343, 1, none⟩)) (Q_fld Tryz.underlying90 rfl ty42 (by decide) rfl rfl) rfl rfl rfl <| gq (v := v1095) (Q_ldB (k := 0) (cs := [v1095]) H.ok rfl ty42 rfl rfl rfl (fun _ => rfl) rfl) rfl rfl rfl <| ge (E_bstrR H Tryz.underlying42 Tryz.underlying5 Tryz.underlying9 rfl r1101) rfl rfl rfl ?_
         rintro _ wd1351 ⟨rfl, rfl⟩
         refine gq (v := .bool ((bstr ([])).toList != (bstr x1097).toList)) (Q_neqStr Tryz.underlying9 rfl rfl) rfl rfl rfl <| nq (Q_pickF rfl rfl) rfl rfl <| nq (Q_move rfl) rfl rfl ?_
         rcases Bool.eq_false_or_eq_true ((bstr ([])).toList != (bstr x1097).toList) with hb | hb
         ·rw [hb]
          replace ho1349 := itT hb ho1349
          refine gs rfl rfl rfl rfl <| gs rfl rfl rfl rfl <| gs rfl rfl rfl rfl <| gs rfl rfl rfl rfl <| gs rfl rfl rfl rfl <| nq (Q_pickT rfl rfl) rfl rfl <| nq (Q_move rfl) rfl rfl <| gs rfl rfl rfl rfl <| gs rfl rfl rfl rfl <| gs rfl rfl rfl rfl <| gs rfl rfl rfl rfl <| gs rfl rfl rfl rfl <| nq (Q_pickT rfl rfl) rfl rfl <| WL_nil ?_
          replace H := H.e2.e1.e0
          obtain rfl := Option.some.inj ho1349
          refine x_A fun a hf => ⟨true, rfl, hf.sub ⟨rfl, rfl, rfl, rfl, trivial⟩, H⟩
         ·rw [hb]
          replace ho1349 := itF hb ho1349
          refine gq (v := .pointer (some ⟨b1089, 2, none⟩)) (Q_fld Tryz.underlying90 rfl ty3 (by decide) rfl rfl) rfl rfl rfl <| gq (v := .int .i64 0) (Q_ldB (k := 1) (cs := [.int .i64 0]) H.ok rfl ty3 rfl rfl rfl (fun _ => rfl) rfl) rfl rfl rfl <| gq (v := .pointer (some ⟨b1343, 3, none⟩)) (Q_fld Tryz.underlying90 rfl ty3 (by decide) rfl rfl) rfl rfl rfl <| gq (v := .int .i64 x1099) (Q_ldB (k := 0) (cs := [.int .i64 x1099]) H.ok rfl ty3 rfl rfl rfl (fun _ => rfl) rfl) rfl rfl rfl <| gq (Q_neq rfl rfl) rfl rfl rfl <| nq (Q_pickF rfl rfl) rfl rfl <| nq (Q_move rfl) rfl rfl ?_
          rcases Bool.eq_false_or_eq_true (0 != x1099) with hb | hb
          ·rw [hb]
           replace ho1349 := itT hb ho1349
           refine gs rfl rfl rfl rfl <| gs rfl rfl rfl rfl <| gs rfl rfl rfl rfl <| gs rfl rfl rfl rfl <| gs rfl rfl rfl rfl <| nq (Q_pickT rfl rfl) rfl rfl <| WL_nil ?_
           replace H := H.e2.e1.e0
           obtain rfl := Option.some.inj ho1349
           refine x_A fun a hf => ⟨true, rfl, hf.sub ⟨rfl, rfl, rfl, rfl, trivial⟩, H⟩
          ·rw [hb]
           replace ho1349 := itF hb ho1349
           refine gq (v := .pointer (some ⟨b1089, 3, none⟩)) (Q_fld Tryz.underlying90 rfl ty3 (by decide) rfl rfl) rfl rfl rfl <| gq (v := .int .i64 0) (Q_ldB (k := 1) (cs := [.int .i64 0]) H.ok rfl ty3 rfl rfl rfl (fun _ => rfl) rfl) rfl rfl rfl <| gq (v := .pointer (some ⟨b1343, 2, none⟩)) (Q_fld Tryz.underlying90 rfl ty3 (by decide) rfl rfl) rfl rfl rfl <| gq (v := .int .i64 x1098) (Q_ldB (k := 0) (cs := [.int .i64 x1098]) H.ok rfl ty3 rfl rfl rfl (fun _ => rfl) rfl) rfl rfl rfl <| gq (Q_neq rfl rfl) rfl rfl rfl <| nq (Q_pickF rfl rfl) rfl rfl <| WL_nil ?_
           replace H := H.e2.e1.e0
           obtain rfl := Option.some.inj ho1349
           refine x_A fun a hf => ⟨0 != x1098, rfl, hf.sub ⟨rfl, rfl, rfl, rfl, trivial⟩, H⟩
      ·rintro a wd1352 ⟨x1348, rfl, hf, H⟩
       try dsimp only at hF
       refine CW.at hf ?_
       refine C_cond rfl (fun hb => ?_) (fun hb => ?_)
       ·replace hF := itT hb hF
        refine C_seq <| R_nd <| nq (Q_assign rfl) rfl rfl <| WL_nil <| x_then <| C_ret <| x_then_ret ?_
        replace H := H.e1.e0
        obtain rfl := Option.some.inj hF
        exact fn_ret (l := [.tmp 6]) (vs := [.bool false]) rfl rfl rfl ⟨ρ, false, rfl, rfl, (View.le_trans lw1057 (View.le_trans lw1080 lw1100)), H⟩
       ·replace hF := itF hb hF
        refine C_skip <| x_then <| C_seq <| R_nd <| nq (v := .agg #[v1, v4, v7]) (Q_ldB (k := 0) (cs := [v1, v4, v7]) H.ok rfl ty78 rfl rfl rfl (fun h => nomatch h) rfl) rfl rfl <| nq (v := .agg #[v10, v13, v16]) (Q_ldB (k := 1) (cs := [v10, v13, v16]) H.ok rfl ty78 rfl rfl rfl (fun h => nomatch h) rfl) rfl rfl ?_
        obtain ⟨q1353, hq1353, hF⟩ := bnd hF
        refine ne (E_call fn66 rfl (c_66 H gle  r3 r6 r9 r12 r15 r18 hq1353)) rfl rfl ?_
        rintro _ wd1368 ⟨v1355, c1356, v1357, c1358, v1359, c1360, x1361, x1362, x1363, x1364, rfl, rfl, r1365, r1366, r1367, H⟩
        try dsimp only at hF
        refine nq (Q_move rfl) rfl rfl <| nq (Q_extract rfl rfl) rfl rfl <| nq (Q_extract rfl rfl) rfl rfl <| ne (E_alloc H ty78 (zs := [.slice none 0 0, .slice none 0 0, .slice none 0 0]) rfl) rfl rfl ?_
        rintro _ wd1370 ⟨b1369, rfl, H⟩
        refine ne (E_stB (k := 0) (cs := [v1355, v1357, v1359]) (vs' := [v1355, v1357, v1359]) H rfl ty78 rfl rfl rfl rfl (one_cons (arr_cells (H.ok.get (k := 1) rfl)).2 (one_cons (arr_cells (H.ok.get (k := 2) rfl)).2 (one_cons (arr_cells (H.ok.get (k := 3) rfl)).2 one_nil))) (by simp) rfl) rfl rfl ?_
        rintro _ wd1371 H
        dsimp only [List.set] at H
        refine nq (Q_assign rfl) rfl rfl <| WL_nil <| x_then <| C_seq ?_
        obtain ⟨o1373, ho1373, hF⟩ := bnd hF
        refine C_cut (fun a w' => ∃ (x1372 : Bool), x1372 = o1373 ∧ Fr 130 a [(2, v19), (3, .pointer (some ⟨b1050, 0, none⟩)), (4, .pointer (some ⟨b1052, 0, none⟩)), (11, .pointer (some ⟨b1369, 0, none⟩)), (103, .bool x1372)] ∧ Hp C w' ρ (Box b1369 [v1355, v1357, v1359] :: Arr v1355 256 c1356 :: Arr v1357 1 c1358 :: Arr v1359 1 c1360 :: Box b1050 [v1, v4, v7] :: Box b1052 [v10, v13, v16] :: hs)) ?_ ?_
        ·refine R_nd <| nq (Q_move rfl) rfl rfl <| nq (v := .bool (eOk errIds x1364)) (Q_neqV Tryz.underlying53 gle rfl) rfl rfl <| nq (Q_move rfl) rfl rfl ?_
         rcases Bool.eq_false_or_eq_true (eOk errIds x1364) with hb | hb
         ·rw [hb]
          replace ho1373 := itT hb ho1373
          refine gs rfl rfl rfl rfl <| gs rfl rfl rfl rfl <| gs rfl rfl rfl rfl <| gs rfl rfl rfl rfl <| gs rfl rfl rfl rfl <| gs rfl rfl rfl rfl <| gs rfl rfl rfl rfl <| nq (Q_pickT rfl rfl) rfl rfl <| WL_nil ?_
          obtain rfl := Option.some.inj ho1373
          refine x_A fun a hf => ⟨true, rfl, hf.sub ⟨rfl, rfl, rfl, rfl, rfl, trivial⟩, H⟩
         ·rw [hb]
          replace ho1373 := itF hb ho1373
          refine gq (v := .pointer (some ⟨b1050, 2, none⟩)) (Q_fld Tryz.underlying78 rfl ty23 (by decide) rfl rfl) rfl rfl rfl <| gq (v := v7) (Q_ldB (k := 4) (cs := [v7]) H.ok rfl ty23 rfl rfl rfl (fun _ => rfl) rfl) rfl rfl rfl <| gq (Q_len Tryz.underlying23 rfl r9) rfl rfl rfl <| gq (v := .pointer (some ⟨b1052, 2, none⟩)) (Q_fld Tryz.underlying78 rfl ty23 (by decide) rfl rfl) rfl rfl rfl <| gq (v := v16) (Q_ldB (k := 5) (cs := [v16]) H.ok rfl ty23 rfl rfl rfl (fun _ => rfl) rfl) rfl rfl rfl <| gq (Q_len Tryz.underlying23 rfl r18) rfl rfl rfl <| gq (Q_neq rfl rfl) rfl rfl rfl <| nq (Q_pickF rfl rfl) rfl rfl <| WL_nil ?_
          obtain rfl := Option.some.inj ho1373
          refine x_A fun a hf => ⟨(x8.length : Int) != (x17.length : Int), rfl, hf.sub ⟨rfl, rfl, rfl, rfl, rfl, trivial⟩, H⟩
        ·rintro a wd1374 ⟨x1372, rfl, hf, H⟩
         try dsimp only at hF
         refine CW.at hf ?_
         refine C_cond rfl (fun hb => ?_) (fun hb => ?_)
         ·replace hF := itT hb hF
          refine C_seq <| R_nd <| nq (v := .pointer (some ⟨b1369, 0, none⟩)) (Q_fld Tryz.underlying78 rfl ty76 (by decide) rfl rfl) rfl rfl <| nq (v := v1355) (Q_ldB (k := 0) (cs := [v1355]) H.ok rfl ty76 rfl rfl rfl (fun _ => rfl) rfl) rfl rfl <| nq (Q_lenA (k := 1) H.ok rfl r1365 (by decide) Tryz.underlying76 rfl) rfl rfl <| nq (Q_eql rfl rfl) rfl rfl <| nq (Q_assign rfl) rfl rfl <| WL_nil <| x_then <| C_ret <| x_then_ret ?_
          replace H := H.e5.e4.e3.e2.e1.e0
          obtain rfl := Option.some.inj hF
          exact fn_ret (l := [.tmp 6]) (vs := [.bool ((x1361.length : Int) == 0)]) rfl rfl rfl ⟨ρ, (x1361.length : Int) == 0, rfl, rfl, (View.le_trans lw1057 (View.le_trans lw1080 lw1100)), H⟩
         ·replace hF := itF hb hF
          refine C_skip <| x_then <| C_seq <| C_seq <| R_nd <| nq (v := .pointer (some ⟨b1050, 2, none⟩)) (Q_fld Tryz.underlying78 rfl ty23 (by decide) rfl rfl) rfl rfl <| nq (v := v7) (Q_ldB (k := 4) (cs := [v7]) H.ok rfl ty23 rfl rfl rfl (fun _ => rfl) rfl) rfl rfl <| nq (Q_len Tryz.underlying23 rfl r9) rfl rfl <| nq (Q_move rfl) rfl rfl <| WL_nil <| x_then ?_
          obtain ⟨o1478, ho1478, hF⟩ := bnd hF
          refine C_cutQ (fun a w' => .inl () = o1478 ∧ Fr 130 a [] ∧ Hp C w' ρ (hs)) ?_ ?_
          ·refine C_block ?_
           refine C_iter (f := fun s => F_dofferlaw21_ProductTurned_l1 N x2 x5 x8 x11 x14 x17 x20 x1361 x1362 x1363 s) ho1478 (fun s a w' => ∃ (x1512 : Int), x1512 = s ∧ Fr 130 a [(2, v19), (3, .pointer (some ⟨b1050, 0, none⟩)), (4, .pointer (some ⟨b1052, 0, none⟩)), (11, .pointer (some ⟨b1369, 0, none⟩)), (110, .int .i64 (x8.length : Int)), (111, .int .i64 x1512)] ∧ Hp C w' ρ (Box b1369 [v1355, v1357, v1359] :: Arr v1355 256 c1356 :: Arr v1357 1 c1358 :: Arr v1359 1 c1360 :: Box b1050 [v1, v4, v7] :: Box b1052 [v10, v13, v16] :: hs)) ?_ ?_
           ·exact fun a hf => ⟨0, rfl, hf.sub ⟨rfl, rfl, rfl, rfl, rfl, rfl, trivial⟩, H⟩
           ·rintro s o1546 a wd1549 ⟨x1512, rfl, hf, H⟩ hB1547 hO1548
            replace hB1547 : F_dofferlaw21_ProductTurned_l1 N x2 x5 x8 x11 x14 x17 x20 x1361 x1362 x1363 x1512 = some o1546 := hB1547
            unfold F_dofferlaw21_ProductTurned_l1 at hB1547
            refine CW.at hf <| C_seq <| R_nd <| nq (Q_lss rfl rfl) rfl rfl <| WL_nil <| x_then <| C_seq ?_
            refine C_cond rfl (fun hb => ?_) (fun hb => ?_)
            ·replace hB1547 := itT hb hB1547
             refine C_skip <| x_then ?_
             obtain ⟨o1565, ho1565, hB1547⟩ := bnd hB1547
             refine C_cut (fun a w' => .inl () = o1565 ∧ Fr 130 a [(2, v19), (3, .pointer (some ⟨b1050, 0, none⟩)), (4, .pointer (some ⟨b1052, 0, none⟩)), (11, .pointer (some ⟨b1369, 0, none⟩)), (110, .int .i64 (x8.length : Int)), (111, .int .i64 x1512)] ∧ Hp C w' ρ (Box b1369 [v1355, v1357, v1359] :: Arr v1355 256 c1356 :: Arr v1357 1 c1358 :: Arr v1359 1 c1360 :: Box b1050 [v1, v4, v7] :: Box b1052 [v10, v13, v16] :: hs)) ?_ ?_
             ·refine C_block <| C_seq <| R_nd <| nq (Q_move rfl) rfl rfl <| nq (Q_assign rfl) rfl rfl <| WL_nil <| x_then <| C_seq <| R_nd <| nq (v := .agg #[v1, v4, v7]) (Q_ldB (k := 4) (cs := [v1, v4, v7]) H.ok rfl ty78 rfl rfl rfl (fun h => nomatch h) rfl) rfl rfl <| nq (Q_move rfl) rfl rfl <| nq (Q_move rfl) rfl rfl ?_
              obtain ⟨q1566, hq1566, ho1565⟩ := bnd ho1565
              refine ne (E_call fn58 rfl (c_58 H gle  r3 r6 r9 r21 hq1566)) rfl rfl ?_
              rintro _ wd1569 ⟨x1568, rfl, rfl, H⟩
              try dsimp only at ho1565
              refine nq (Q_assign rfl) rfl rfl <| WL_nil <| x_then <| C_seq <| C_seq <| R_nd <| nq (v := .agg #[v10, v13, v16]) (Q_ldB (k := 5) (cs := [v10, v13, v16]) H.ok rfl ty78 rfl rfl rfl (fun h => nomatch h) rfl) rfl rfl <| nq (Q_move rfl) rfl rfl <| nq (Q_move rfl) rfl rfl ?_
              obtain ⟨q1570, hq1570, ho1565⟩ := bnd ho1565
              refine ne (E_call fn58 rfl (c_58 H gle  r12 r15 r18 r21 hq1570)) rfl rfl ?_
              rintro _ wd1573 ⟨x1572, rfl, rfl, H⟩
              try dsimp only at ho1565
              refine nq (Q_lss rfl rfl) rfl rfl <| WL_nil <| x_then ?_
              obtain ⟨o1575, ho1575, ho1565⟩ := bnd ho1565
              refine C_cutQ (fun a w' => ∃ (x1574 : Int), x1574 = o1575 ∧ Fr 130 a [(2, v19), (3, .pointer (some ⟨b1050, 0, none⟩)), (4, .pointer (some ⟨b1052, 0, none⟩)), (11, .pointer (some ⟨b1369, 0, none⟩)), (13, .int .i64 x1512), (14, .int .i64 x1574), (110, .int .i64 (x8.length : Int)), (111, .int .i64 x1512)] ∧ Hp C w' ρ (Box b1369 [v1355, v1357, v1359] :: Arr v1355 256 c1356 :: Arr v1357 1 c1358 :: Arr v1359 1 c1360 :: Box b1050 [v1, v4, v7] :: Box b1052 [v10, v13, v16] :: hs)) ?_ ?_
              ·refine C_cond rfl (fun hb => ?_) (fun hb => ?_)
               ·replace ho1575 := itT hb ho1575
                refine R_nd <| nq (Q_assign rfl) rfl rfl <| WL_nil ?_
                obtain rfl := Option.some.inj ho1575
                refine x_A fun a hf => ⟨(-1), rfl, hf.sub ⟨rfl, rfl, rfl, rfl, rfl, rfl, rfl, rfl, trivial⟩, H⟩
               ·replace ho1575 := itF hb ho1575
                refine C_skip ?_
                obtain rfl := Option.some.inj ho1575
                refine x_A fun a hf => ⟨x1568, rfl, hf.sub ⟨rfl, rfl, rfl, rfl, rfl, rfl, rfl, rfl, trivial⟩, H⟩
              ·rintro a wd1576 ⟨x1574, rfl, hf, H⟩
               try dsimp only at ho1565
               refine XX.at hf <| x_then <| C_seq <| R_nd <| nq (v := .agg #[v1355, v1357, v1359]) (Q_ldB (k := 0) (cs := [v1355, v1357, v1359]) H.ok rfl ty78 rfl rfl rfl (fun h => nomatch h) rfl) rfl rfl <| nq (Q_move rfl) rfl rfl <| nq (Q_move rfl) rfl rfl ?_
               replace H := H.f3.f3.f3
               obtain ⟨q1577, hq1577, ho1565⟩ := bnd ho1565
               obtain ⟨C', ρ', hl1578, HA, hL, hback⟩ := Hp.lend (A := []) (L := [Arr v1355 256 c1356, Arr v1357 1 c1358, Arr v1359 1 c1360]) (F := Box b1369 [v1355, v1357, v1359] :: Box b1050 [v1, v4, v7] :: Box b1052 [v10, v13, v16] :: hs) H
               refine ne (E_call fn58 rfl (c_58 HA (gle.up hl1578)  (arr_rd (by decide) hl1578 (hL (Arr v1355 256 c1356) (by simp)) r1365) (arr_rd (by decide) hl1578 (hL (Arr v1357 1 c1358) (by simp)) r1366) (arr_rd (by decide) hl1578 (hL (Arr v1359 1 c1360) (by simp)) r1367) (r21.up hl1578) hq1577)) rfl rfl ?_
               rintro _ wd1580 ⟨x1579, rfl, rfl, H⟩
               try dsimp only at ho1565
               replace H := hback H
               dsimp only [List.cons_append, List.nil_append] at H
               refine nq (Q_move rfl) rfl rfl <| nq (Q_neq rfl rfl) rfl rfl <| WL_nil <| x_then ?_
               refine C_cond rfl (fun hb => ?_) (fun hb => ?_)
               ·replace ho1565 := itT hb ho1565
                refine C_seq <| R_nd <| nq (Q_assign rfl) rfl rfl <| WL_nil <| x_then <| C_ret <| x_block_ret <| x_then_ret <| x_then_ret <| x_block_ret <| x_then_ret <| x_then_ret ?_
                replace H := H.e5.e4.e3.e2.e1.e0
                obtain rfl := Option.some.inj ho1565
                obtain rfl := Option.some.inj (show some _ = some _ from hB1547)
                obtain rfl := hO1548 _ rfl
                obtain rfl := Option.some.inj (show some _ = some _ from hF)
                exact fn_ret (l := [.tmp 6]) (vs := [.bool false]) rfl rfl rfl ⟨ρ, false, rfl, rfl, (View.le_trans lw1057 (View.le_trans lw1080 lw1100)), H⟩
               ·replace ho1565 := itF hb ho1565
                refine C_skip <| x_block ?_
                replace H := H.f3
                obtain rfl := Option.some.inj ho1565
                refine x_A fun a hf => ⟨rfl, hf.sub ⟨rfl, rfl, rfl, rfl, rfl, rfl, trivial⟩, H⟩
             ·rintro a wd1581 ⟨rfl, hf, H⟩
              try dsimp only at hB1547
              refine CW.at hf <| R_nd <| nq (Q_add rfl rfl) rfl rfl <| nq (Q_move rfl) rfl rfl <| WL_nil ?_
              obtain rfl := Option.some.inj hB1547
              refine x_A fun a hf => ⟨_, rfl, w64 (x1512 + 1), rfl, hf.sub ⟨rfl, rfl, rfl, rfl, rfl, rfl, trivial⟩, H⟩
            ·replace hB1547 := itF hb hB1547
             refine C_exit <| x_then_exit <| x_then_exit <| x_block_exit ?_
             replace H := H.e5.e4.e3.e2.e1.e0
             obtain rfl := Option.some.inj hB1547
             obtain rfl := hO1548 _ rfl
             refine x_A fun a hf => ⟨rfl, hf.sub trivial, H⟩
          ·rintro a wd1582 ⟨rfl, hf, H⟩
           try dsimp only at hF
           refine XX.at hf <| x_then <| C_seq <| R_nd <| nq (Q_assign rfl) rfl rfl <| WL_nil <| x_then <| C_ret ?_
           obtain rfl := Option.some.inj hF
           exact fn_ret (l := [.tmp 6]) (vs := [.bool true]) rfl rfl rfl ⟨ρ, true, rfl, rfl, (View.le_trans lw1057 (View.le_trans lw1080 lw1100)), H⟩
    ·try dsimp only at hF
     replace r21 := RdSl.up lw1086 r21
     replace r3 := RdSl.up lw1086 r3
     replace r6 := RdSl.up lw1086 r6
     replace r9 := RdSl.up lw1086 r9
     replace r12 := RdSl.up lw1086 r12
     replace r15 := RdSl.up lw1086 r15
     replace r18 := RdSl.up lw1086 r18
     replace gle := GErrs.up lw1086 gle
     replace gl18 := GTab.up lw1086 gl18
     refine nq (Q_move rfl) rfl rfl <| nq (Q_extract rfl rfl) rfl rfl <| nq (Q_extract rfl rfl) rfl rfl <| ne (E_alloc H ty90 (zs := [.int .i64 0, .slice none 0 0, .int .i64 0, .int .i64 0]) rfl) rfl rfl ?_
     rintro _ wd1584 ⟨b1583, rfl, H⟩
     refine ne (E_stB (k := 0) (cs := [.int .i64 x1082, v1081, .int .i64 x1084, .int .i64 x1085]) (vs' := [.int .i64 x1082, v1081, .int .i64 x1084, .int .i64 x1085]) H rfl ty90 rfl rfl rfl rfl (one_cons rfl (one_cons (RdSl.one r1087) (one_cons rfl (one_cons rfl one_nil)))) (by simp) rfl) rfl rfl ?_
     rintro _ wd1585 H
     dsimp only [List.set] at H
     refine nq (Q_assign rfl) rfl rfl <| WL_nil <| x_then <| C_seq <| R_nd <| nq (v := .agg #[v10, v13, v16]) (Q_ldB (k := 2) (cs := [v10, v13, v16]) H.ok rfl ty78 rfl rfl rfl (fun h => nomatch h) rfl) rfl rfl <| nq (v := .agg #[v1, v4, v7]) (Q_ldB (k := 1) (cs := [v1, v4, v7]) H.ok rfl ty78 rfl rfl rfl (fun h => nomatch h) rfl) rfl rfl ?_
     obtain ⟨q1586, hq1586, hF⟩ := bnd hF
     refine ne (E_call fn51 rfl (c_51 H gle  r12 r15 r18 r3 r6 r9 hq1586)) rfl rfl ?_
     rintro _ wd1596 (⟨ρ, rfl, rfl, lw1588, H⟩ | ⟨ρ, v1589, x1590, x1591, x1592, x1593, rfl, rfl, lw1594, r1595, H⟩)
     ·try dsimp only at hF
      replace r21 := RdSl.up lw1588 r21
      replace r3 := RdSl.up lw1588 r3
      replace r6 := RdSl.up lw1588 r6
      replace r9 := RdSl.up lw1588 r9
      replace r12 := RdSl.up lw1588 r12
      replace r15 := RdSl.up lw1588 r15
      replace r18 := RdSl.up lw1588 r18
      replace r1087 := RdSl.up lw1588 r1087
      replace gle := GErrs.up lw1588 gle
      replace gl18 := GTab.up lw1588 gl18
      refine nq (Q_move rfl) rfl rfl <| nq (Q_extract rfl rfl) rfl rfl <| nq (Q_extract rfl rfl) rfl rfl <| ne (E_alloc H ty90 (zs := [.int .i64 0, .slice none 0 0, .int .i64 0, .int .i64 0]) rfl) rfl rfl ?_
      rintro _ wd1598 ⟨b1597, rfl, H⟩
      refine ne (E_stB (k := 0) (cs := [.int .i64 0, (.slice none 0 0), .int .i64 0, .int .i64 0]) (vs' := [.int .i64 0, (.slice none 0 0), .int .i64 0, .int .i64 0]) H rfl ty90 rfl rfl rfl rfl (one_cons rfl (one_cons (arr_cells (H.ok.get (k := 1) rfl)).2 (one_cons rfl (one_cons rfl one_nil)))) (by simp) rfl) rfl rfl ?_
      rintro _ wd1599 H
      dsimp only [List.set] at H
      refine nq (Q_assign rfl) rfl rfl <| WL_nil <| x_then <| C_seq ?_
      obtain ⟨o1603, ho1603, hF⟩ := bnd hF
      refine C_cut (fun a w' => ∃ (x1602 : Bool), x1602 = o1603 ∧ Fr 130 a [(2, v19), (3, .pointer (some ⟨b1050, 0, none⟩)), (4, .pointer (some ⟨b1052, 0, none⟩)), (86, .bool x1602)] ∧ Hp C w' ρ (Box b1050 [v1, v4, v7] :: Box b1052 [v10, v13, v16] :: hs)) ?_ ?_
      ·refine R_nd <| nq (Q_move rfl) rfl rfl <| nq (Q_move rfl) rfl rfl <| nq (v := .bool (true != false)) (Q_neqB Tryz.underlying4 rfl rfl) rfl rfl <| nq (Q_move rfl) rfl rfl ?_
       rcases Bool.eq_false_or_eq_true (true != false) with hb | hb
       ·rw [hb]
        replace ho1603 := itT hb ho1603
        refine gs rfl rfl rfl rfl <| gs rfl rfl rfl rfl <| gs rfl rfl rfl rfl <| gs rfl rfl rfl rfl <| gs rfl rfl rfl rfl <| nq (Q_pickT rfl rfl) rfl rfl <| nq (Q_move rfl) rfl rfl <| gs rfl rfl rfl rfl <| gs rfl rfl rfl rfl <| gs rfl rfl rfl rfl <| gs rfl rfl rfl rfl <| gs rfl rfl rfl rfl <| gs rfl rfl rfl rfl <| gs rfl rfl rfl rfl ?_
        refine nq (Q_pickT rfl rfl) rfl rfl <| nq (Q_move rfl) rfl rfl <| gs rfl rfl rfl rfl <| gs rfl rfl rfl rfl <| gs rfl rfl rfl rfl <| gs rfl rfl rfl rfl <| gs rfl rfl rfl rfl <| nq (Q_pickT rfl rfl) rfl rfl <| nq (Q_move rfl) rfl rfl <| gs rfl rfl rfl rfl <| gs rfl rfl rfl rfl <| gs rfl rfl rfl rfl <| gs rfl rfl rfl rfl <| gs rfl rfl rfl rfl ?_
        refine nq (Q_pickT rfl rfl) rfl rfl <| WL_nil ?_
        replace H := H.e2.e1.e0
        obtain rfl := Option.some.inj ho1603
        refine x_A fun a hf => ⟨true, rfl, hf.sub ⟨rfl, rfl, rfl, rfl, trivial⟩, H⟩
       ·rw [hb]
        replace ho1603 := itF hb ho1603
        refine gq (v := .pointer (some ⟨b1583, 0, none⟩)) (Q_fld Tryz.underlying90 rfl ty3 (by decide) rfl rfl) rfl rfl rfl <| gq (v := .int .i64 x1082) (Q_ldB (k := 2) (cs := [.int .i64 x1082]) H.ok rfl ty3 rfl rfl rfl (fun _ => rfl) rfl) rfl rfl rfl <| gq (v := .pointer (some ⟨b1597, 0, none⟩)) (Q_fld Tryz.underlying90 rfl ty3 (by decide) rfl rfl) rfl rfl rfl <| gq (v := .int .i64 0) (Q_ldB (k := 0) (cs := [.int .i64 0]) H.ok rfl ty3 rfl rfl rfl (fun _ => rfl) rfl) rfl rfl rfl <| gq (Q_neq rfl rfl) rfl rfl rfl <| nq (Q_pickF rfl rfl) rfl rfl <| nq (Q_move rfl) rfl rfl ?_
        rcases Bool.eq_false_or_eq_true (x1082 != 0) with hb | hb
        ·rw [hb]
         replace ho1603 := itT hb ho1603
         refine gs rfl rfl rfl rfl <| gs rfl rfl rfl rfl <| gs rfl rfl rfl rfl <| gs rfl rfl rfl rfl <| gs rfl rfl rfl rfl <| gs rfl rfl rfl rfl <| gs rfl rfl rfl rfl <| nq (Q_pickT rfl rfl) rfl rfl <| nq (Q_move rfl) rfl rfl <| gs rfl rfl rfl rfl <| gs rfl rfl rfl rfl <| gs rfl rfl rfl rfl <| gs rfl rfl rfl rfl <| gs rfl rfl rfl rfl ?_
         refine nq (Q_pickT rfl rfl) rfl rfl <| nq (Q_move rfl) rfl rfl <| gs rfl rfl rfl rfl <| gs rfl rfl rfl rfl <| gs rfl rfl rfl rfl <| gs rfl rfl rfl rfl <| gs rfl rfl rfl rfl <| nq (Q_pickT rfl rfl) rfl rfl <| WL_nil ?_
         replace H := H.e2.e1.e0
         obtain rfl := Option.some.inj ho1603
         refine x_A fun a hf => ⟨true, rfl, hf.sub ⟨rfl, rfl, rfl, rfl, trivial⟩, H⟩
        ·rw [hb]
         replace ho1603 := itF hb ho1603
         refine gq (v := .pointer (some ⟨b1583, 1, none⟩)) (Q_fld Tryz.underlying90 rfl ty42 (by decide) rfl rfl) rfl rfl rfl <| gq (v := v1081) (Q_ldB (k := 2) (cs := [v1081]) H.ok rfl ty42 rfl rfl rfl (fun _ => rfl) rfl) rfl rfl rfl <| ge (E_bstrR H Tryz.underlying42 Tryz.underlying5 Tryz.underlying9 rfl r1087) rfl rfl rfl ?_
         rintro _ wd1604 ⟨rfl, rfl⟩
         refine gq (v := .pointer (some ⟨b1597, 1, none⟩)) (Q_fld Tryz.underlying90 rfl ty42 (by decide) rfl rfl) rfl rfl rfl <| gq (v := (.slice none 0 0)) (Q_ldB (k := 0) (cs := [(.slice none 0 0)]) H.ok rfl ty42 rfl rfl rfl (fun _ => rfl) rfl) rfl rfl rfl <| ge (E_bstrA (k := 1) H rfl rdL.nil Tryz.underlying42 Tryz.underlying5 Tryz.underlying9 rfl) rfl rfl rfl ?_
         rintro _ wd1605 ⟨rfl, rfl⟩
         refine gq (v := .bool ((bstr x1083).toList != (bstr ([])).toList)) (Q_neqStr Tryz.underlying9 rfl rfl) rfl rfl rfl <| nq (Q_pickF rfl rfl) rfl rfl <| nq (Q_move rfl) rfl rfl ?_
         rcases Bool.eq_false_or_eq_true ((bstr x1083).toList != (bstr ([])).toList) with hb | hb
         ·rw [hb]
          replace ho1603 := itT hb ho1603
          refine gs rfl rfl rfl rfl <| gs rfl rfl rfl rfl <| gs rfl rfl rfl rfl <| gs rfl rfl rfl rfl <| gs rfl rfl rfl rfl <| nq (Q_pickT rfl rfl) rfl rfl <| nq (Q_move rfl) rfl rfl <| gs rfl rfl rfl rfl <| gs rfl rfl rfl rfl <| gs rfl rfl rfl rfl <| gs rfl rfl rfl rfl <| gs rfl rfl rfl rfl <| nq (Q_pickT rfl rfl) rfl rfl <| WL_nil ?_
          replace H := H.e2.e1.e0
          obtain rfl := Option.some.inj ho1603
          refine x_A fun a hf => ⟨true, rfl, hf.sub ⟨rfl, rfl, rfl, rfl, trivial⟩, H⟩
         ·rw [hb]
          replace ho1603 := itF hb ho1603
          refine gq (v := .pointer (some ⟨b1583, 2, none⟩)) (Q_fld Tryz.underlying90 rfl ty3 (by decide) rfl rfl) rfl rfl rfl <| gq (v := .int .i64 x1084) (Q_ldB (k := 2) (cs := [.int .i64 x1084]) H.ok rfl ty3 rfl rfl rfl (fun _ => rfl) rfl) rfl rfl rfl <| gq (v := .pointer (some ⟨b1597, 3, none⟩)) (Q_fld Tryz.underlying90 rfl ty3 (by decide) rfl rfl) rfl rfl rfl <| gq (v := .int .i64 0) (Q_ldB (k := 0) (cs := [.int .i64 0]) H.ok rfl ty3 rfl rfl rfl (fun _ => rfl) rfl) rfl rfl rfl <| gq (Q_neq rfl rfl) rfl rfl rfl <| nq (Q_pickF rfl rfl) rfl rfl <| nq (Q_move rfl) rfl rfl ?_
          rcases Bool.eq_false_or_eq_true (x1084 != 0) with hb | hb
          ·rw [hb]
           replace ho1603 := itT hb ho1603
           refine gs rfl rfl rfl rfl <| gs rfl rfl rfl rfl <| gs rfl rfl rfl rfl <| gs rfl rfl rfl rfl <| gs rfl rfl rfl rfl <| nq (Q_pickT rfl rfl) rfl rfl <| WL_nil ?_
           replace H := H.e2.e1.e0
           obtain rfl := Option.some.inj ho1603
           refine x_A fun a hf => ⟨true, rfl, hf.sub ⟨rfl, rfl, rfl, rfl, trivial⟩, H⟩
          ·rw [hb]
           replace ho1603 := itF hb ho1603
           refine gq (v := .pointer (some ⟨b1583, 3, none⟩)) (Q_fld Tryz.underlying90 rfl ty3 (by decide) rfl rfl) rfl rfl rfl <| gq (v := .int .i64 x1085) (Q_ldB (k := 2) (cs := [.int .i64 x1085]) H.ok rfl ty3 rfl rfl rfl (fun _ => rfl) rfl) rfl rfl rfl <| gq (v := .pointer (some ⟨b1597, 2, none⟩)) (Q_fld Tryz.underlying90 rfl ty3 (by decide) rfl rfl) rfl rfl rfl <| gq (v := .int .i64 0) (Q_ldB (k := 0) (cs := [.int .i64 0]) H.ok rfl ty3 rfl rfl rfl (fun _ => rfl) rfl) rfl rfl rfl <| gq (Q_neq rfl rfl) rfl rfl rfl <| nq (Q_pickF rfl rfl) rfl rfl <| WL_nil ?_
           replace H := H.e2.e1.e0
           obtain rfl := Option.some.inj ho1603
           refine x_A fun a hf => ⟨x1085 != 0, rfl, hf.sub ⟨rfl, rfl, rfl, rfl, trivial⟩, H⟩
      ·rintro a wd1606 ⟨x1602, rfl, hf, H⟩
       try dsimp only at hF
       refine CW.at hf ?_
       refine C_cond rfl (fun hb => ?_) (fun hb => ?_)
       ·replace hF := itT hb hF
        refine C_seq <| R_nd <| nq (Q_assign rfl) rfl rfl <| WL_nil <| x_then <| C_ret <| x_then_ret ?_
        replace H := H.e1.e0
        obtain rfl := Option.some.inj hF
        exact fn_ret (l := [.tmp 6]) (vs := [.bool false]) rfl rfl rfl ⟨ρ, false, rfl, rfl, (View.le_trans lw1057 (View.le_trans lw1086 lw1588)), H⟩
       ·replace hF := itF hb hF
        refine C_skip <| x_then <| C_seq <| R_nd <| nq (v := .agg #[v1, v4, v7]) (Q_ldB (k := 0) (cs := [v1, v4, v7]) H.ok rfl ty78 rfl rfl rfl (fun h => nomatch h) rfl) rfl rfl <| nq (v := .agg #[v10, v13, v16]) (Q_ldB (k := 1) (cs := [v10, v13, v16]) H.ok rfl ty78 rfl rfl rfl (fun h => nomatch h) rfl) rfl rfl ?_
        obtain ⟨q1607, hq1607, hF⟩ := bnd hF
        refine ne (E_call fn66 rfl (c_66 H gle  r3 r6 r9 r12 r15 r18 hq1607)) rfl rfl ?_
        rintro _ wd1622 ⟨v1609, c1610, v1611, c1612, v1613, c1614, x1615, x1616, x1617, x1618, rfl, rfl, r1619, r1620, r1621, H⟩
        try dsimp only at hF
        refine nq (Q_move rfl) rfl rfl <| nq (Q_extract rfl rfl) rfl rfl <| nq (Q_extract rfl rfl) rfl rfl <| ne (E_alloc H ty78 (zs := [.slice none 0 0, .slice none 0 0, .slice none 0 0]) rfl) rfl rfl ?_
        rintro _ wd1624 ⟨b1623, rfl, H⟩
        refine ne (E_stB (k := 0) (cs := [v1609, v1611, v1613]) (vs' := [v1609, v1611, v1613]) H rfl ty78 rfl rfl rfl rfl (one_cons (arr_cells (H.ok.get (k := 1) rfl)).2 (one_cons (arr_cells (H.ok.get (k := 2) rfl)).2 (one_cons (arr_cells (H.ok.get (k := 3) rfl)).2 one_nil))) (by simp) rfl) rfl rfl ?_
        rintro _ wd1625 H
        dsimp only [List.set] at H
        refine nq (Q_assign rfl) rfl rfl <| WL_nil <| x_then <| C_seq ?_
        obtain ⟨o1627, ho1627, hF⟩ := bnd hF
        refine C_cut (fun a w' => ∃ (x1626 : Bool), x1626 = o1627 ∧ Fr 130 a [(2, v19), (3, .pointer (some ⟨b1050, 0, none⟩)), (4, .pointer (some ⟨b1052, 0, none⟩)), (11, .pointer (some ⟨b1623, 0, none⟩)), (103, .bool x1626)] ∧ Hp C w' ρ (Box b1623 [v1609, v1611, v1613] :: Arr v1609 256 c1610 :: Arr v1611 1 c1612 :: Arr v1613 1 c1614 :: Box b1050 [v1, v4, v7] :: Box b1052 [v10, v13, v16] :: hs)) ?_ ?_
        ·refine R_nd <| nq (Q_move rfl) rfl rfl <| nq (v := .bool (eOk errIds x1618)) (Q_neqV Tryz.underlying53 gle rfl) rfl rfl <| nq (Q_move rfl) rfl rfl ?_
         rcases Bool.eq_false_or_eq_true (eOk errIds x1618) with hb | hb
         ·rw [hb]
          replace ho1627 := itT hb ho1627
          refine gs rfl rfl rfl rfl <| gs rfl rfl rfl rfl <| gs rfl rfl rfl rfl <| gs rfl rfl rfl rfl <| gs rfl rfl rfl rfl <| gs rfl rfl rfl rfl <| gs rfl rfl rfl rfl <| nq (Q_pickT rfl rfl) rfl rfl <| WL_nil ?_
          obtain rfl := Option.some.inj ho1627
          refine x_A fun a hf => ⟨true, rfl, hf.sub ⟨rfl, rfl, rfl, rfl, rfl, trivial⟩, H⟩
         ·rw [hb]
          replace ho1627 := itF hb ho1627
          refine gq (v := .pointer (some ⟨b1050, 2, none⟩)) (Q_fld Tryz.underlying78 rfl ty23 (by decide) rfl rfl) rfl rfl rfl <| gq (v := v7) (Q_ldB (k := 4) (cs := [v7]) H.ok rfl ty23 rfl rfl rfl (fun _ => rfl) rfl) rfl rfl rfl <| gq (Q_len Tryz.underlying23 rfl r9) rfl rfl rfl <| gq (v := .pointer (some ⟨b1052, 2, none⟩)) (Q_fld Tryz.underlying78 rfl ty23 (by decide) rfl rfl) rfl rfl rfl <| gq (v := v16) (Q_ldB (k := 5) (cs := [v16]) H.ok rfl ty23 rfl rfl rfl (fun _ => rfl) rfl) rfl rfl rfl <| gq (Q_len Tryz.underlying23 rfl r18) rfl rfl rfl <| gq (Q_neq rfl rfl) rfl rfl rfl <| nq (Q_pickF rfl rfl) rfl rfl <| WL_nil ?_
          obtain rfl := Option.some.inj ho1627
          refine x_A fun a hf => ⟨(x8.length : Int) != (x17.length : Int), rfl, hf.sub ⟨rfl, rfl, rfl, rfl, rfl, trivial⟩, H⟩
        ·rintro a wd1628 ⟨x1626, rfl, hf, H⟩
         try dsimp only at hF
         refine CW.at hf ?_
         refine C_cond rfl (fun hb => ?_) (fun hb => ?_)
         ·replace hF := itT hb hF
          refine C_seq <| R_nd <| nq (v := .pointer (some ⟨b1623, 0, none⟩)) (Q_fld Tryz.underlying78 rfl ty76 (by decide) rfl rfl) rfl rfl <| nq (v := v1609) (Q_ldB (k := 0) (cs := [v1609]) H.ok rfl ty76 rfl rfl rfl (fun _ => rfl) rfl) rfl rfl <| nq (Q_lenA (k := 1) H.ok rfl r1619 (by decide) Tryz.underlying76 rfl) rfl rfl <| nq (Q_eql rfl rfl) rfl rfl <| nq (Q_assign rfl) rfl rfl <| WL_nil <| x_then <| C_ret <| x_then_ret ?_
          replace H := H.e5.e4.e3.e2.e1.e0
          obtain rfl := Option.some.inj hF
          exact fn_ret (l := [.tmp 6]) (vs := [.bool ((x1615.length : Int) == 0)]) rfl rfl rfl ⟨ρ, (x1615.length : Int) == 0, rfl, rfl, (View.le_trans lw1057 (View.le_trans lw1086 lw1588)), H⟩
         ·replace hF := itF hb hF
          refine C_skip <| x_then <| C_seq <| C_seq <| R_nd <| nq (v := .pointer (some ⟨b1050, 2, none⟩)) (Q_fld Tryz.underlying78 rfl ty23 (by decide) rfl rfl) rfl rfl <| nq (v := v7) (Q_ldB (k := 4) (cs := [v7]) H.ok rfl ty23 rfl rfl rfl (fun _ => rfl) rfl) rfl rfl <| nq (Q_len Tryz.underlying23 rfl r9) rfl rfl <| nq (Q_move rfl) rfl rfl <| WL_nil <| x_then ?_
          obtain ⟨o1732, ho1732, hF⟩ := bnd hF
          refine C_cutQ (fun a w' => .inl () = o1732 ∧ Fr 130 a [] ∧ Hp C w' ρ (hs)) ?_ ?_
          ·refine C_block ?_
           refine C_iter (f := fun s => F_dofferlaw21_ProductTurned_l2 N x2 x5 x8 x11 x14 x17 x20 x1615 x1616 x1617 s) ho1732 (fun s a w' => ∃ (x1766 : Int), x1766 = s ∧ Fr 130 a [(2, v19), (3, .pointer (some ⟨b1050, 0, none⟩)), (4, .pointer (some ⟨b1052, 0, none⟩)), (11, .pointer (some ⟨b1623, 0, none⟩)), (110, .int .i64 (x8.length : Int)), (111, .int .i64 x1766)] ∧ Hp C w' ρ (Box b1623 [v1609, v1611, v1613] :: Arr v1609 256 c1610 :: Arr v1611 1 c1612 :: Arr v1613 1 c1614 :: Box b1050 [v1, v4, v7] :: Box b1052 [v10, v13, v16] :: hs)) ?_ ?_
           ·exact fun a hf => ⟨0, rfl, hf.sub ⟨rfl, rfl, rfl, rfl, rfl, rfl, trivial⟩, H⟩
           ·rintro s o1800 a wd1803 ⟨x1766, rfl, hf, H⟩ hB1801 hO1802
            replace hB1801 : F_dofferlaw21_ProductTurned_l2 N x2 x5 x8 x11 x14 x17 x20 x1615 x1616 x1617 x1766 = some o1800 := hB1801
            unfold F_dofferlaw21_ProductTurned_l2 at hB1801
            refine CW.at hf <| C_seq <| R_nd <| nq (Q_lss rfl rfl) rfl rfl <| WL_nil <| x_then <| C_seq ?_
            refine C_cond rfl (fun hb => ?_) (fun hb => ?_)
            ·replace hB1801 := itT hb hB1801
             refine C_skip <| x_then ?_
             obtain ⟨o1819, ho1819, hB1801⟩ := bnd hB1801
             refine C_cut (fun a w' => .inl () = o1819 ∧ Fr 130 a [(2, v19), (3, .pointer (some ⟨b1050, 0, none⟩)), (4, .pointer (some ⟨b1052, 0, none⟩)), (11, .pointer (some ⟨b1623, 0, none⟩)), (110, .int .i64 (x8.length : Int)), (111, .int .i64 x1766)] ∧ Hp C w' ρ (Box b1623 [v1609, v1611, v1613] :: Arr v1609 256 c1610 :: Arr v1611 1 c1612 :: Arr v1613 1 c1614 :: Box b1050 [v1, v4, v7] :: Box b1052 [v10, v13, v16] :: hs)) ?_ ?_
             ·refine C_block <| C_seq <| R_nd <| nq (Q_move rfl) rfl rfl <| nq (Q_assign rfl) rfl rfl <| WL_nil <| x_then <| C_seq <| R_nd <| nq (v := .agg #[v1, v4, v7]) (Q_ldB (k := 4) (cs := [v1, v4, v7]) H.ok rfl ty78 rfl rfl rfl (fun h => nomatch h) rfl) rfl rfl <| nq (Q_move rfl) rfl rfl <| nq (Q_move rfl) rfl rfl ?_
              obtain ⟨q1820, hq1820, ho1819⟩ := bnd ho1819
              refine ne (E_call fn58 rfl (c_58 H gle  r3 r6 r9 r21 hq1820)) rfl rfl ?_
              rintro _ wd1823 ⟨x1822, rfl, rfl, H⟩
              try dsimp only at ho1819
              refine nq (Q_assign rfl) rfl rfl <| WL_nil <| x_then <| C_seq <| C_seq <| R_nd <| nq (v := .agg #[v10, v13, v16]) (Q_ldB (k := 5) (cs := [v10, v13, v16]) H.ok rfl ty78 rfl rfl rfl (fun h => nomatch h) rfl) rfl rfl <| nq (Q_move rfl) rfl rfl <| nq (Q_move rfl) rfl rfl ?_
              obtain ⟨q1824, hq1824, ho1819⟩ := bnd ho1819
              refine ne (E_call fn58 rfl (c_58 H gle  r12 r15 r18 r21 hq1824)) rfl rfl ?_
              rintro _ wd1827 ⟨x1826, rfl, rfl, H⟩
              try dsimp only at ho1819
              refine nq (Q_lss rfl rfl) rfl rfl <| WL_nil <| x_then ?_
              obtain ⟨o1829, ho1829, ho1819⟩ := bnd ho1819
              refine C_cutQ (fun a w' => ∃ (x1828 : Int), x1828 = o1829 ∧ Fr 130 a [(2, v19), (3, .pointer (some ⟨b1050, 0, none⟩)), (4, .pointer (some ⟨b1052, 0, none⟩)), (11, .pointer (some ⟨b1623, 0, none⟩)), (13, .int .i64 x1766), (14, .int .i64 x1828), (110, .int .i64 (x8.length : Int)), (111, .int .i64 x1766)] ∧ Hp C w' ρ (Box b1623 [v1609, v1611, v1613] :: Arr v1609 256 c1610 :: Arr v1611 1 c1612 :: Arr v1613 1 c1614 :: Box b1050 [v1, v4, v7] :: Box b1052 [v10, v13, v16] :: hs)) ?_ ?_
              ·refine C_cond rfl (fun hb => ?_) (fun hb => ?_)
               ·replace ho1829 := itT hb ho1829
                refine R_nd <| nq (Q_assign rfl) rfl rfl <| WL_nil ?_
                obtain rfl := Option.some.inj ho1829
                refine x_A fun a hf => ⟨(-1), rfl, hf.sub ⟨rfl, rfl, rfl, rfl, rfl, rfl, rfl, rfl, trivial⟩, H⟩
               ·replace ho1829 := itF hb ho1829
                refine C_skip ?_
                obtain rfl := Option.some.inj ho1829
                refine x_A fun a hf => ⟨x1822, rfl, hf.sub ⟨rfl, rfl, rfl, rfl, rfl, rfl, rfl, rfl, trivial⟩, H⟩
              ·rintro a wd1830 ⟨x1828, rfl, hf, H⟩
               try dsimp only at ho1819
               refine XX.at hf <| x_then <| C_seq <| R_nd <| nq (v := .agg #[v1609, v1611, v1613]) (Q_ldB (k := 0) (cs := [v1609, v1611, v1613]) H.ok rfl ty78 rfl rfl rfl (fun h => nomatch h) rfl) rfl rfl <| nq (Q_move rfl) rfl rfl <| nq (Q_move rfl) rfl rfl ?_
               replace H := H.f3.f3.f3
               obtain ⟨q1831, hq1831, ho1819⟩ := bnd ho1819
               obtain ⟨C', ρ', hl1832, HA, hL, hback⟩ := Hp.lend (A := []) (L := [Arr v1609 256 c1610, Arr v1611 1 c1612, Arr v1613 1 c1614]) (F := Box b1623 [v1609, v1611, v1613] :: Box b1050 [v1, v4, v7] :: Box b1052 [v10, v13, v16] :: hs) H
               refine ne (E_call fn58 rfl (c_58 HA (gle.up hl1832)  (arr_rd (by decide) hl1832 (hL (Arr v1609 256 c1610) (by simp)) r1619) (arr_rd (by decide) hl1832 (hL (Arr v1611 1 c1612) (by simp)) r1620) (arr_rd (by decide) hl1832 (hL (Arr v1613 1 c1614) (by simp)) r1621) (r21.up hl1832) hq1831)) rfl rfl ?_
               rintro _ wd1834 ⟨x1833, rfl, rfl, H⟩
               try dsimp only at ho1819
               replace H := hback H
               dsimp only [List.cons_append, List.nil_append] at H
               refine nq (Q_move rfl) rfl rfl <| nq (Q_neq rfl rfl) rfl rfl <| WL_nil <| x_then ?_
               refine C_cond rfl (fun hb => ?_) (fun hb => ?_)
               ·replace ho1819 := itT hb ho1819
                refine C_seq <| R_nd <| nq (Q_assign rfl) rfl rfl <| WL_nil <| x_then <| C_ret <| x_block_ret <| x_then_ret <| x_then_ret <| x_block_ret <| x_then_ret <| x_then_ret ?_
                replace H := H.e5.e4.e3.e2.e1.e0
                obtain rfl := Option.some.inj ho1819
                obtain rfl := Option.some.inj (show some _ = some _ from hB1801)
                obtain rfl := hO1802 _ rfl
                obtain rfl := Option.some.inj (show some _ = some _ from hF)
                exact fn_ret (l := [.tmp 6]) (vs := [.bool false]) rfl rfl rfl ⟨ρ, false, rfl, rfl, (View.le_trans lw1057 (View.le_trans lw1086 lw1588)), H⟩
               ·replace ho1819 := itF hb ho1819
                refine C_skip <| x_block ?_
                replace H := H.f3
                obtain rfl := Option.some.inj ho1819
                refine x_A fun a hf => ⟨rfl, hf.sub ⟨rfl, rfl, rfl, rfl, rfl, rfl, trivial⟩, H⟩
             ·rintro a wd1835 ⟨rfl, hf, H⟩
              try dsimp only at hB1801
              refine CW.at hf <| R_nd <| nq (Q_add rfl rfl) rfl rfl <| nq (Q_move rfl) rfl rfl <| WL_nil ?_
              obtain rfl := Option.some.inj hB1801
              refine x_A fun a hf => ⟨_, rfl, w64 (x1766 + 1), rfl, hf.sub ⟨rfl, rfl, rfl, rfl, rfl, rfl, trivial⟩, H⟩
            ·replace hB1801 := itF hb hB1801
             refine C_exit <| x_then_exit <| x_then_exit <| x_block_exit ?_
             replace H := H.e5.e4.e3.e2.e1.e0
             obtain rfl := Option.some.inj hB1801
             obtain rfl := hO1802 _ rfl
             refine x_A fun a hf => ⟨rfl, hf.sub trivial, H⟩
          ·rintro a wd1836 ⟨rfl, hf, H⟩
           try dsimp only at hF
           refine XX.at hf <| x_then <| C_seq <| R_nd <| nq (Q_assign rfl) rfl rfl <| WL_nil <| x_then <| C_ret ?_
           obtain rfl := Option.some.inj hF
           exact fn_ret (l := [.tmp 6]) (vs := [.bool true]) rfl rfl rfl ⟨ρ, true, rfl, rfl, (View.le_trans lw1057 (View.le_trans lw1086 lw1588)), H⟩
     ·try dsimp only at hF
      replace r21 := RdSl.up lw1594 r21
      replace r3 := RdSl.up lw1594 r3
      replace r6 := RdSl.up lw1594 r6
      replace r9 := RdSl.up lw1594 r9
      replace r12 := RdSl.up lw1594 r12
      replace r15 := RdSl.up lw1594 r15
      replace r18 := RdSl.up lw1594 r18
      replace r1087 := RdSl.up lw1594 r1087
      replace gle := GErrs.up lw1594 gle
      replace gl18 := GTab.up lw1594 gl18
      refine nq (Q_move rfl) rfl rfl <| nq (Q_extract rfl rfl) rfl rfl <| nq (Q_extract rfl rfl) rfl rfl <| ne (E_alloc H ty90 (zs := [.int .i64 0, .slice none 0 0, .int .i64 0, .int .i64 0]) rfl) rfl rfl ?_
      rintro _ wd1838 ⟨b1837, rfl, H⟩
      refine ne (E_stB (k := 0) (cs := [.int .i64 x1590, v1589, .int .i64 x1592, .int .i64 x1593]) (vs' := [.int .i64 x1590, v1589, .int .i64 x1592, .int .i64 x1593]) H rfl ty90 rfl rfl rfl rfl (one_cons rfl (one_cons (RdSl.one r1595) (one_cons rfl (one_cons rfl one_nil)))) (by simp) rfl) rfl rfl ?_
      rintro _ wd1839 H
      dsimp only [List.set] at H
      refine nq (Q_assign rfl) rfl rfl <| WL_nil <| x_then <| C_seq ?_
      obtain ⟨o1843, ho1843, hF⟩ := bnd hF
      refine C_cut (fun a w' => ∃ (x1842 : Bool), x1842 = o1843 ∧ Fr 130 a [(2, v19), (3, .pointer (some ⟨b1050, 0, none⟩)), (4, .pointer (some ⟨b1052, 0, none⟩)), (86, .bool x1842)] ∧ Hp C w' ρ (Box b1050 [v1, v4, v7] :: Box b1052 [v10, v13, v16] :: hs)) ?_ ?_
      ·refine R_nd <| nq (Q_move rfl) rfl rfl <| nq (Q_move rfl) rfl rfl <| nq (v := .bool (true != true)) (Q_neqB Tryz.underlying4 rfl rfl) rfl rfl <| nq (Q_move rfl) rfl rfl ?_
       rcases Bool.eq_false_or_eq_true (true != true) with hb | hb
       ·rw [hb]
        replace ho1843 := itT hb ho1843
        refine gs rfl rfl rfl rfl <| gs rfl rfl rfl rfl <| gs rfl rfl rfl rfl <| gs rfl rfl rfl rfl <| gs rfl rfl rfl rfl <| nq (Q_pickT rfl rfl) rfl rfl <| nq (Q_move rfl) rfl rfl <| gs rfl rfl rfl rfl <| gs rfl rfl rfl rfl <| gs rfl rfl rfl rfl <| gs rfl rfl rfl rfl <| gs rfl rfl rfl rfl <| gs rfl rfl rfl rfl <| gs rfl rfl rfl rfl ?_
        refine nq (Q_pickT rfl rfl) rfl rfl <| nq (Q_move rfl) rfl rfl <| gs rfl rfl rfl rfl <| gs rfl rfl rfl rfl <| gs rfl rfl rfl rfl <| gs rfl rfl rfl rfl <| gs rfl rfl rfl rfl <| nq (Q_pickT rfl rfl) rfl rfl <| nq (Q_move rfl) rfl rfl <| gs rfl rfl rfl rfl <| gs rfl rfl rfl rfl <| gs rfl rfl rfl rfl <| gs rfl rfl rfl rfl <| gs rfl rfl rfl rfl ?_
        refine nq (Q_pickT rfl rfl) rfl rfl <| WL_nil ?_
        replace H := H.e1.e0
        obtain rfl := Option.some.inj ho1843
        refine x_A fun a hf => ⟨true, rfl, hf.sub ⟨rfl, rfl, rfl, rfl, trivial⟩, H⟩
       ·rw [hb]
        replace ho1843 := itF hb ho1843
        refine gq (v := .pointer (some ⟨b1583, 0, none⟩)) (Q_fld Tryz.underlying90 rfl ty3 (by decide) rfl rfl) rfl rfl rfl <| gq (v := .int .i64 x1082) (Q_ldB (k := 1) (cs := [.int .i64 x1082]) H.ok rfl ty3 rfl rfl rfl (fun _ => rfl) rfl) rfl rfl rfl <| gq (v := .pointer (some ⟨b1837, 0, none⟩)) (Q_fld Tryz.underlying90 rfl ty3 (by decide) rfl rfl) rfl rfl rfl <| gq (v := .int .i64 x1590) (Q_ldB (k := 0) (cs := [.int .i64 x1590]) H.ok rfl ty3 rfl rfl rfl (fun _ => rfl) rfl) rfl rfl rfl <| gq (Q_neq rfl rfl) rfl rfl rfl <| nq (Q_pickF rfl rfl) rfl rfl <| nq (Q_move rfl) rfl rfl ?_
        rcases Bool.eq_false_or_eq_true (x1082 != x1590) with hb | hb
        ·rw [hb]
         replace ho1843 := itT hb ho1843
         refine gs rfl rfl rfl rfl <| gs rfl rfl rfl rfl <| gs rfl rfl rfl rfl <| gs rfl rfl rfl rfl <| gs rfl rfl rfl rfl <| gs rfl rfl rfl rfl <| gs rfl rfl rfl rfl <| nq (Q_pickT rfl rfl) rfl rfl <| nq (Q_move rfl) rfl rfl <| gs rfl rfl rfl rfl <| gs rfl rfl rfl rfl <| gs rfl rfl rfl rfl <| gs rfl rfl rfl rfl <| gs rfl rfl rfl rfl ?_
         refine nq (Q_pickT rfl rfl) rfl rfl <| nq (Q_move rfl) rfl rfl <| gs rfl rfl rfl rfl <| gs rfl rfl rfl rfl <| gs rfl rfl rfl rfl <| gs rfl rfl rfl rfl <| gs rfl rfl rfl rfl <| nq (Q_pickT rfl rfl) rfl rfl <| WL_nil ?_
         replace H := H.e1.e0
         obtain rfl := Option.some.inj ho1843
         refine x_A fun a hf => ⟨true, rfl, hf.sub ⟨rfl, rfl, rfl, rfl, trivial⟩, H⟩
        ·rw [hb]
         replace ho1843 := itF hb ho1843
         refine gq (v := .pointer (some ⟨b1583, 1, none⟩)) (Q_fld Tryz.underlying90 rfl ty42 (by decide) rfl rfl) rfl rfl rfl <| gq (v := v1081) (Q_ldB (k := 1) (cs := [v1081]) H.ok rfl ty42 rfl rfl rfl (fun _ => rfl) rfl) rfl rfl rfl <| ge (E_bstrR H Tryz.underlying42 Tryz.underlying5 Tryz.underlying9 rfl r1087) rfl rfl rfl ?_
         rintro _ wd1844 ⟨rfl, rfl⟩
         refine gq (v := .pointer (some ⟨b1837, 1, none⟩)) (Q_fld Tryz.underlying90 rfl ty42 (by decide) rfl rfl) rfl rfl rfl <| gq (v := v1589) (Q_ldB (k := 0) (cs := [v1589]) H.ok rfl ty42 rfl rfl rfl (fun _ => rfl) rfl) rfl rfl rfl <| ge (E_bstrR H Tryz.underlying42 Tryz.underlying5 Tryz.underlying9 rfl r1595) rfl rfl rfl ?_
         rintro _ wd1845 ⟨rfl, rfl⟩
         refine gq (v := .bool ((bstr x1083).toList != (bstr x1591).toList)) (Q_neqStr Tryz.underlying9 rfl rfl) rfl rfl rfl <| nq (Q_pickF rfl rfl) rfl rfl <| nq (Q_move rfl) rfl rfl ?_
         rcases Bool.eq_false_or_eq_true ((bstr x1083).toList != (bstr x1591).toList) with hb | hb
         ·rw [hb]
          replace ho1843 := itT hb ho1843
          refine gs rfl rfl rfl rfl <| gs rfl rfl rfl rfl <| gs rfl rfl rfl rfl <| gs rfl rfl rfl rfl <| gs rfl rfl rfl rfl <| nq (Q_pickT rfl rfl) rfl rfl <| nq (Q_move rfl) rfl rfl <| gs rfl rfl rfl rfl <| gs rfl rfl rfl rfl <| gs rfl rfl rfl rfl <| gs rfl rfl rfl rfl <| gs rfl rfl rfl rfl <| nq (Q_pickT rfl rfl) rfl rfl <| WL_nil ?_
          replace H := H.e1.e0
          obtain rfl := Option.some.inj ho1843
          refine x_A fun a hf => ⟨true, rfl, hf.sub ⟨rfl, rfl, rfl, rfl, trivial⟩, H⟩
         ·rw [hb]
          replace ho1843 := itF hb ho1843
          refine gq (v := .pointer (some ⟨b1583, 2, none⟩)) (Q_fld Tryz.underlying90 rfl ty3 (by decide) rfl rfl) rfl rfl rfl <| gq (v := .int .i64 x1084) (Q_ldB (k := 1) (cs := [.int .i64 x1084]) H.ok rfl ty3 rfl rfl rfl (fun _ => rfl) rfl) rfl rfl rfl <| gq (v := .pointer (some ⟨b1837, 3, none⟩)) (Q_fld Tryz.underlying90 rfl ty3 (by decide) rfl rfl) rfl rfl rfl <| gq (v := .int .i64 x1593) (Q_ldB (k := 0) (cs := [.int .i64 x1593]) H.ok rfl ty3 rfl rfl rfl (fun _ => rfl) rfl) rfl rfl rfl <| gq (Q_neq rfl rfl) rfl rfl rfl <| nq (Q_pickF rfl rfl) rfl rfl <| nq (Q_move rfl) rfl rfl ?_
          rcases Bool.eq_false_or_eq_true (x1084 != x1593) with hb | hb
          ·rw [hb]
           replace ho1843 := itT hb ho1843
           refine gs rfl rfl rfl rfl <| gs rfl rfl rfl rfl <| gs rfl rfl rfl rfl <| gs rfl rfl rfl rfl <| gs rfl rfl rfl rfl <| nq (Q_pickT rfl rfl) rfl rfl <| WL_nil ?_
           replace H := H.e1.e0
           obtain rfl := Option.some.inj ho1843
           refine x_A fun a hf => ⟨true, rfl, hf.sub ⟨rfl, rfl, rfl, rfl, trivial⟩, H⟩
          ·rw [hb]
           replace ho1843 := itF hb ho1843
           refine gq (v := .pointer (some ⟨b1583, 3, none⟩)) (Q_fld Tryz.underlying90 rfl ty3 (by decide) rfl rfl) rfl rfl rfl <| gq (v := .int .i64 x1085) (Q_ldB (k := 1) (cs := [.int .i64 x1085]) H.ok rfl ty3 rfl rfl rfl (fun _ => rfl) rfl) rfl rfl rfl <| gq (v := .pointer (some ⟨b1837, 2, none⟩)) (Q_fld Tryz.underlying90 rfl ty3 (by decide) rfl rfl) rfl rfl rfl <| gq (v := .int .i64 x1592) (Q_ldB (k := 0) (cs := [.int .i64 x1592]) H.ok rfl ty3 rfl rfl rfl (fun _ => rfl) rfl) rfl rfl rfl <| gq (Q_neq rfl rfl) rfl rfl rfl <| nq (Q_pickF rfl rfl) rfl rfl <| WL_nil ?_
           replace H := H.e1.e0
           obtain rfl := Option.some.inj ho1843
           refine x_A fun a hf => ⟨x1085 != x1592, rfl, hf.sub ⟨rfl, rfl, rfl, rfl, trivial⟩, H⟩
      ·rintro a wd1846 ⟨x1842, rfl, hf, H⟩
       try dsimp only at hF
       refine CW.at hf ?_
       refine C_cond rfl (fun hb => ?_) (fun hb => ?_)
       ·replace hF := itT hb hF
        refine C_seq <| R_nd <| nq (Q_assign rfl) rfl rfl <| WL_nil <| x_then <| C_ret <| x_then_ret ?_
        replace H := H.e1.e0
        obtain rfl := Option.some.inj hF
        exact fn_ret (l := [.tmp 6]) (vs := [.bool false]) rfl rfl rfl ⟨ρ, false, rfl, rfl, (View.le_trans lw1057 (View.le_trans lw1086 lw1594)), H⟩
       ·replace hF := itF hb hF
        refine C_skip <| x_then <| C_seq <| R_nd <| nq (v := .agg #[v1, v4, v7]) (Q_ldB (k := 0) (cs := [v1, v4, v7]) H.ok rfl ty78 rfl rfl rfl (fun h => nomatch h) rfl) rfl rfl <| nq (v := .agg #[v10, v13, v16]) (Q_ldB (k := 1) (cs := [v10, v13, v16]) H.ok rfl ty78 rfl rfl rfl (fun h => nomatch h) rfl) rfl rfl ?_
        obtain ⟨q1847, hq1847, hF⟩ := bnd hF
        refine ne (E_call fn66 rfl (c_66 H gle  r3 r6 r9 r12 r15 r18 hq1847)) rfl rfl ?_
        rintro _ wd1862 ⟨v1849, c1850, v1851, c1852, v1853, c1854, x1855, x1856, x1857, x1858, rfl, rfl, r1859, r1860, r1861, H⟩
        try dsimp only at hF
        refine nq (Q_move rfl) rfl rfl <| nq (Q_extract rfl rfl) rfl rfl <| nq (Q_extract rfl rfl) rfl rfl <| ne (E_alloc H ty78 (zs := [.slice none 0 0, .slice none 0 0, .slice none 0 0]) rfl) rfl rfl ?_
        rintro _ wd1864 ⟨b1863, rfl, H⟩
        refine ne (E_stB (k := 0) (cs := [v1849, v1851, v1853]) (vs' := [v1849, v1851, v1853]) H rfl ty78 rfl rfl rfl rfl (one_cons (arr_cells (H.ok.get (k := 1) rfl)).2 (one_cons (arr_cells (H.ok.get (k := 2) rfl)).2 (one_cons (arr_cells (H.ok.get (k := 3) rfl)).2 one_nil))) (by simp) rfl) rfl rfl ?_
        rintro _ wd1865 H
        dsimp only [List.set] at H
        refine nq (Q_assign rfl) rfl rfl <| WL_nil <| x_then <| C_seq ?_
        obtain ⟨o1867, ho1867, hF⟩ := bnd hF
        refine C_cut (fun a w' => ∃ (x1866 : Bool), x1866 = o1867 ∧ Fr 130 a [(2, v19), (3, .pointer (some ⟨b1050, 0, none⟩)), (4, .pointer (some ⟨b1052, 0, none⟩)), (11, .pointer (some ⟨b1863, 0, none⟩)), (103, .bool x1866)] ∧ Hp C w' ρ (Box b1863 [v1849, v1851, v1853] :: Arr v1849 256 c1850 :: Arr v1851 1 c1852 :: Arr v1853 1 c1854 :: Box b1050 [v1, v4, v7] :: Box b1052 [v10, v13, v16] :: hs)) ?_ ?_
        ·refine R_nd <| nq (Q_move rfl) rfl rfl <| nq (v := .bool (eOk errIds x1858)) (Q_neqV Tryz.underlying53 gle rfl) rfl rfl <| nq (Q_move rfl) rfl rfl ?_
         rcases Bool.eq_false_or_eq_true (eOk errIds x1858) with hb | hb
         ·rw [hb]
          replace ho1867 := itT hb ho1867
          refine gs rfl rfl rfl rfl <| gs rfl rfl rfl rfl <| gs rfl rfl rfl rfl <| gs rfl rfl rfl rfl <| gs rfl rfl rfl rfl <| gs rfl rfl rfl rfl <| gs rfl rfl rfl rfl <| nq (Q_pickT rfl rfl) rfl rfl <| WL_nil ?_
          obtain rfl := Option.some.inj ho1867
          refine x_A fun a hf => ⟨true, rfl, hf.sub ⟨rfl, rfl, rfl, rfl, rfl, trivial⟩, H⟩
         ·rw [hb]
          replace ho1867 := itF hb ho1867
          refine gq (v := .pointer (some ⟨b1050, 2, none⟩)) (Q_fld Tryz.underlying78 rfl ty23 (by decide) rfl rfl) rfl rfl rfl <| gq (v := v7) (Q_ldB (k := 4) (cs := [v7]) H.ok rfl ty23 rfl rfl rfl (fun _ => rfl) rfl) rfl rfl rfl <| gq (Q_len Tryz.underlying23 rfl r9) rfl rfl rfl <| gq (v := .pointer (some ⟨b1052, 2, none⟩)) (Q_fld Tryz.underlying78 rfl ty23 (by decide) rfl rfl) rfl rfl rfl <| gq (v := v16) (Q_ldB (k := 5) (cs := [v16]) H.ok rfl ty23 rfl rfl rfl (fun _ => rfl) rfl) rfl rfl rfl <| gq (Q_len Tryz.underlying23 rfl r18) rfl rfl rfl <| gq (Q_neq rfl rfl) rfl rfl rfl <| nq (Q_pickF rfl rfl) rfl rfl <| WL_nil ?_
          obtain rfl := Option.some.inj ho1867
          refine x_A fun a hf => ⟨(x8.length : Int) != (x17.length : Int), rfl, hf.sub ⟨rfl, rfl, rfl, rfl, rfl, trivial⟩, H⟩
        ·rintro a wd1868 ⟨x1866, rfl, hf, H⟩
         try dsimp only at hF
         refine CW.at hf ?_
         refine C_cond rfl (fun hb => ?_) (fun hb => ?_)
         ·replace hF := itT hb hF
          refine C_seq <| R_nd <| nq (v := .pointer (some ⟨b1863, 0, none⟩)) (Q_fld Tryz.underlying78 rfl ty76 (by decide) rfl rfl) rfl rfl <| nq (v := v1849) (Q_ldB (k := 0) (cs := [v1849]) H.ok rfl ty76 rfl rfl rfl (fun _ => rfl) rfl) rfl rfl <| nq (Q_lenA (k := 1) H.ok rfl r1859 (by decide) Tryz.underlying76 rfl) rfl rfl <| nq (Q_eql rfl rfl) rfl rfl <| nq (Q_assign rfl) rfl rfl <| WL_nil <| x_then <| C_ret <| x_then_ret ?_
          replace H := H.e5.e4.e3.e2.e1.e0
          obtain rfl := Option.some.inj hF
          exact fn_ret (l := [.tmp 6]) (vs := [.bool ((x1855.length : Int) == 0)]) rfl rfl rfl ⟨ρ, (x1855.length : Int) == 0, rfl, rfl, (View.le_trans lw1057 (View.le_trans lw1086 lw1594)), H⟩
         ·replace hF := itF hb hF
          refine C_skip <| x_then <| C_seq <| C_seq <| R_nd <| nq (v := .pointer (some ⟨b1050, 2, none⟩)) (Q_fld Tryz.underlying78 rfl ty23 (by decide) rfl rfl) rfl rfl <| nq (v := v7) (Q_ldB (k := 4) (cs := [v7]) H.ok rfl ty23 rfl rfl rfl (fun _ => rfl) rfl) rfl rfl <| nq (Q_len Tryz.underlying23 rfl r9) rfl rfl <| nq (Q_move rfl) rfl rfl <| WL_nil <| x_then ?_
          obtain ⟨o1972, ho1972, hF⟩ := bnd hF
          refine C_cutQ (fun a w' => .inl () = o1972 ∧ Fr 130 a [] ∧ Hp C w' ρ (hs)) ?_ ?_
          ·refine C_block ?_
           refine C_iter (f := fun s => F_dofferlaw21_ProductTurned_l3 N x2 x5 x8 x11 x14 x17 x20 x1855 x1856 x1857 s) ho1972 (fun s a w' => ∃ (x2006 : Int), x2006 = s ∧ Fr 130 a [(2, v19), (3, .pointer (some ⟨b1050, 0, none⟩)), (4, .pointer (some ⟨b1052, 0, none⟩)), (11, .pointer (some ⟨b1863, 0, none⟩)), (110, .int .i64 (x8.length : Int)), (111, .int .i64 x2006)] ∧ Hp C w' ρ (Box b1863 [v1849, v1851, v1853] :: Arr v1849 256 c1850 :: Arr v1851 1 c1852 :: Arr v1853 1 c1854 :: Box b1050 [v1, v4, v7] :: Box b1052 [v10, v13, v16] :: hs)) ?_ ?_
           ·exact fun a hf => ⟨0, rfl, hf.sub ⟨rfl, rfl, rfl, rfl, rfl, rfl, trivial⟩, H⟩
           ·rintro s o2040 a wd2043 ⟨x2006, rfl, hf, H⟩ hB2041 hO2042
            replace hB2041 : F_dofferlaw21_ProductTurned_l3 N x2 x5 x8 x11 x14 x17 x20 x1855 x1856 x1857 x2006 = some o2040 := hB2041
            unfold F_dofferlaw21_ProductTurned_l3 at hB2041
            refine CW.at hf <| C_seq <| R_nd <| nq (Q_lss rfl rfl) rfl rfl <| WL_nil <| x_then <| C_seq ?_
            refine C_cond rfl (fun hb => ?_) (fun hb => ?_)
            ·replace hB2041 := itT hb hB2041
             refine C_skip <| x_then ?_
             obtain ⟨o2059, ho2059, hB2041⟩ := bnd hB2041
             refine C_cut (fun a w' => .inl () = o2059 ∧ Fr 130 a [(2, v19), (3, .pointer (some ⟨b1050, 0, none⟩)), (4, .pointer (some ⟨b1052, 0, none⟩)), (11, .pointer (some ⟨b1863, 0, none⟩)), (110, .int .i64 (x8.length : Int)), (111, .int .i64 x2006)] ∧ Hp C w' ρ (Box b1863 [v1849, v1851, v1853] :: Arr v1849 256 c1850 :: Arr v1851 1 c1852 :: Arr v1853 1 c1854 :: Box b1050 [v1, v4, v7] :: Box b1052 [v10, v13, v16] :: hs)) ?_ ?_
             ·refine C_block <| C_seq <| R_nd <| nq (Q_move rfl) rfl rfl <| nq (Q_assign rfl) rfl rfl <| WL_nil <| x_then <| C_seq <| R_nd <| nq (v := .agg #[v1, v4, v7]) (Q_ldB (k := 4) (cs := [v1, v4, v7]) H.ok rfl ty78 rfl rfl rfl (fun h => nomatch h) rfl) rfl rfl <| nq (Q_move rfl) rfl rfl <| nq (Q_move rfl) rfl rfl ?_
              obtain ⟨q2060, hq2060, ho2059⟩ := bnd ho2059
              refine ne (E_call fn58 rfl (c_58 H gle  r3 r6 r9 r21 hq2060)) rfl rfl ?_
              rintro _ wd2063 ⟨x2062, rfl, rfl, H⟩
              try dsimp only at ho2059
              refine nq (Q_assign rfl) rfl rfl <| WL_nil <| x_then <| C_seq <| C_seq <| R_nd <| nq (v := .agg #[v10, v13, v16]) (Q_ldB (k := 5) (cs := [v10, v13, v16]) H.ok rfl ty78 rfl rfl rfl (fun h => nomatch h) rfl) rfl rfl <| nq (Q_move rfl) rfl rfl <| nq (Q_move rfl) rfl rfl ?_
              obtain ⟨q2064, hq2064, ho2059⟩ := bnd ho2059
              refine ne (E_call fn58 rfl (c_58 H gle  r12 r15 r18 r21 hq2064)) rfl rfl ?_
              rintro _ wd2067 ⟨x2066, rfl, rfl, H⟩
              try dsimp only at ho2059
              refine nq (Q_lss rfl rfl) rfl rfl <| WL_nil <| x_then ?_
              obtain ⟨o2069, ho2069, ho2059⟩ := bnd ho2059
              refine C_cutQ (fun a w' => ∃ (x2068 : Int), x2068 = o2069 ∧ Fr 130 a [(2, v19), (3, .pointer (some ⟨b1050, 0, none⟩)), (4, .pointer (some ⟨b1052, 0, none⟩)), (11, .pointer (some ⟨b1863, 0, none⟩)), (13, .int .i64 x2006), (14, .int .i64 x2068), (110, .int .i64 (x8.length : Int)), (111, .int .i64 x2006)] ∧ Hp C w' ρ (Box b1863 [v1849, v1851, v1853] :: Arr v1849 256 c1850 :: Arr v1851 1 c1852 :: Arr v1853 1 c1854 :: Box b1050 [v1, v4, v7] :: Box b1052 [v10, v13, v16] :: hs)) ?_ ?_
              ·refine C_cond rfl (fun hb => ?_) (fun hb => ?_)
               ·replace ho2069 := itT hb ho2069
                refine R_nd <| nq (Q_assign rfl) rfl rfl <| WL_nil ?_
                obtain rfl := Option.some.inj ho2069
                refine x_A fun a hf => ⟨(-1), rfl, hf.sub ⟨rfl, rfl, rfl, rfl, rfl, rfl, rfl, rfl, trivial⟩, H⟩
               ·replace ho2069 := itF hb ho2069
                refine C_skip ?_
                obtain rfl := Option.some.inj ho2069
                refine x_A fun a hf => ⟨x2062, rfl, hf.sub ⟨rfl, rfl, rfl, rfl, rfl, rfl, rfl, rfl, trivial⟩, H⟩
              ·rintro a wd2070 ⟨x2068, rfl, hf, H⟩
               try dsimp only at ho2059
               refine XX.at hf <| x_then <| C_seq <| R_nd <| nq (v := .agg #[v1849, v1851, v1853]) (Q_ldB (k := 0) (cs := [v1849, v1851, v1853]) H.ok rfl ty78 rfl rfl rfl (fun h => nomatch h) rfl) rfl rfl <| nq (Q_move rfl) rfl rfl <| nq (Q_move rfl) rfl rfl ?_
               replace H := H.f3.f3.f3
               obtain ⟨q2071, hq2071, ho2059⟩ := bnd ho2059
               obtain ⟨C', ρ', hl2072, HA, hL, hback⟩ := Hp.lend (A := []) (L := [Arr v1849 256 c1850, Arr v1851 1 c1852, Arr v1853 1 c1854]) (F := Box b1863 [v1849, v1851, v1853] :: Box b1050 [v1, v4, v7] :: Box b1052 [v10, v13, v16] :: hs) H
               refine ne (E_call fn58 rfl (c_58 HA (gle.up hl2072)  (arr_rd (by decide) hl2072 (hL (Arr v1849 256 c1850) (by simp)) r1859) (arr_rd (by decide) hl2072 (hL (Arr v1851 1 c1852) (by simp)) r1860) (arr_rd (by decide) hl2072 (hL (Arr v1853 1 c1854) (by simp)) r1861) (r21.up hl2072) hq2071)) rfl rfl ?_
               rintro _ wd2074 ⟨x2073, rfl, rfl, H⟩
               try dsimp only at ho2059
               replace H := hback H
               dsimp only [List.cons_append, List.nil_append] at H
               refine nq (Q_move rfl) rfl rfl <| nq (Q_neq rfl rfl) rfl rfl <| WL_nil <| x_then ?_
               refine C_cond rfl (fun hb => ?_) (fun hb => ?_)
               ·replace ho2059 := itT hb ho2059
                refine C_seq <| R_nd <| nq (Q_assign rfl) rfl rfl <| WL_nil <| x_then <| C_ret <| x_block_ret <| x_then_ret <| x_then_ret <| x_block_ret <| x_then_ret <| x_then_ret ?_
                replace H := H.e5.e4.e3.e2.e1.e0
                obtain rfl := Option.some.inj ho2059
                obtain rfl := Option.some.inj (show some _ = some _ from hB2041)
                obtain rfl := hO2042 _ rfl
                obtain rfl := Option.some.inj (show some _ = some _ from hF)
                exact fn_ret (l := [.tmp 6]) (vs := [.bool false]) rfl rfl rfl ⟨ρ, false, rfl, rfl, (View.le_trans lw1057 (View.le_trans lw1086 lw1594)), H⟩
               ·replace ho2059 := itF hb ho2059
                refine C_skip <| x_block ?_
                replace H := H.f3
                obtain rfl := Option.some.inj ho2059
                refine x_A fun a hf => ⟨rfl, hf.sub ⟨rfl, rfl, rfl, rfl, rfl, rfl, trivial⟩, H⟩
             ·rintro a wd2075 ⟨rfl, hf, H⟩
              try dsimp only at hB2041
              refine CW.at hf <| R_nd <| nq (Q_add rfl rfl) rfl rfl <| nq (Q_move rfl) rfl rfl <| WL_nil ?_
              obtain rfl := Option.some.inj hB2041
              refine x_A fun a hf => ⟨_, rfl, w64 (x2006 + 1), rfl, hf.sub ⟨rfl, rfl, rfl, rfl, rfl, rfl, trivial⟩, H⟩
            ·replace hB2041 := itF hb hB2041
             refine C_exit <| x_then_exit <| x_then_exit <| x_block_exit ?_
             replace H := H.e5.e4.e3.e2.e1.e0
             obtain rfl := Option.some.inj hB2041
             obtain rfl := hO2042 _ rfl
             refine x_A fun a hf => ⟨rfl, hf.sub trivial, H⟩
          ·rintro a wd2076 ⟨rfl, hf, H⟩
           try dsimp only at hF
           refine XX.at hf <| x_then <| C_seq <| R_nd <| nq (Q_assign rfl) rfl rfl <| WL_nil <| x_then <| C_ret ?_
           obtain rfl := Option.some.inj hF
           exact fn_ret (l := [.tmp 6]) (vs := [.bool true]) rfl rfl rfl ⟨ρ, true, rfl, rfl, (View.le_trans lw1057 (View.le_trans lw1086 lw1594)), H⟩
end Go.Proofs.YtealkahefalaeaaGreatDoor
