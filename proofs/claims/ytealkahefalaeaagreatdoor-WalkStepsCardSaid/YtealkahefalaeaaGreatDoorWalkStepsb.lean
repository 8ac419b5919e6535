/-
  The walks of the law WalkSteps, printed by my program, part 2: each function of the code computes its pure function.
-/
import Derived.Test.YtealkahefalaeaaGreatDoorWalkStepsa
import Derived.Test.YtealkahefalaeaaGreatDoorWalkStepsP1
namespace Go.Proofs.YtealkahefalaeaaGreatDoor
open Go Go.Eng
set_option maxRecDepth 100000
set_option maxHeartbeats 8000000 in
theorem c_6 {N : Nat} {C : Cx} {w : World} {ρ : View} {hs : List Hl} {gV : Nat → Value} {v1 : Value} {v4 : Value} {v7 : Value} {v10 : Value} {x2 : (List ((List Int) × (Int × Int × Int × Int) × Int × Int))} {x5 : (List Int)} {x8 : (List Int)} {x11 : (List Int)} (H : Hp C w ρ (hs)) (gle : GErrs ρ 394 errIds gV) (gl18 : GTab ρ 18 .u8 tab_math_bits_deBruijn64tab) (r3 : RdSl ρ (eP (eL (eI .i64)) (eP (eP (eI .u64) (eP (eI .u64) (eP (eI .u64) (eI .u64)))) (eP (eI .i64) (eI .i64)))) v1 x2) (r6 : RdSl ρ (eI .i64) v4 x5) (r9 : RdSl ρ (eI .i64) v7 x8) (r12 : RdSl ρ (eI .u8) v10 x11) {r : Bool} (hF : F_dofferlaw16_WalkSteps N x2 x5 x8 x11 = some r) :
  Calls Tryz.prog 6 [.agg #[v1, v4], v7, v10].toArray w (Rets (fun v w' => (∃ (ρ' : View) (x1066 : Bool), x1066 = r ∧ .bool x1066 = v ∧ View.le ρ ρ' ∧ Hp C w' ρ' (hs)))) := by
 unfold F_dofferlaw16_WalkSteps at hF
 have h0 : Tryz.f6.body = some _ := rfl
 refine fn_calls' Tryz.func6 h0 (n := 166) rfl (by simp) <| C_seq <| R_nd <| ne (E_box H (vs := [v1, v4]) rfl rfl) rfl rfl ?_
 rintro _ wd1068 ⟨b1067, rfl, H⟩
 refine nq (Q_assign rfl) rfl rfl <| WL_nil <| x_then <| C_seq <| C_seq <| R_nd <| ne (E_call fn22 rfl (Cr.c_run runC22 (fun hl => GTab.up hl gl18) H)) rfl rfl ?_
 rintro _ wd1069 ⟨rfl, H⟩
 refine nq (Q_not rfl) rfl rfl <| WL_nil <| x_then ?_
 refine C_cond rfl (fun h => nomatch h) (fun _ => ?_)
 refine C_skip <| x_then <| C_seq <| R_nd <| nq (v := .agg #[v1, v4]) (Q_ldB (k := 0) (cs := [v1, v4]) H.ok rfl ty25 rfl rfl rfl (fun h => nomatch h) rfl) rfl rfl ?_
 obtain ⟨q1070, hq1070, hF⟩ := bnd hF
 refine ne (E_call fn16 rfl (c_16 H gle  r3 r6 hq1070)) rfl rfl ?_
 rintro _ wd1077 ⟨v1072, c1073, x1074, x1075, rfl, rfl, r1076, H⟩
 try dsimp only at hF
 refine nq (Q_move rfl) rfl rfl <| nq (Q_extract rfl rfl) rfl rfl <| nq (Q_extract rfl rfl) rfl rfl <| ne (E_alloc H ty29 (zs := [.slice none 0 0, .slice none 0 0]) rfl) rfl rfl ?_
 rintro _ wd1079 ⟨b1078, rfl, H⟩
 refine ne (E_stB (k := 0) (cs := [v1072, v4]) (vs' := [v1072, v4]) H rfl ty29 rfl rfl rfl rfl (one_cons (arr_cells (H.ok.get (k := 1) rfl)).2 (one_cons (RdSl.one r6) one_nil)) (by simp) rfl) rfl rfl ?_
 rintro _ wd1080 H
 dsimp only [List.set] at H
 refine nq (Q_assign rfl) rfl rfl <| WL_nil <| x_then <| C_seq ?_
 obtain ⟨o1082, ho1082, hF⟩ := bnd hF
 refine C_cut (fun a w' => ∃ (x1081 : Bool), x1081 = o1082 ∧ Fr 166 a [(1, v7), (2, v10), (3, .pointer (some ⟨b1067, 0, none⟩)), (7, .pointer (some ⟨b1078, 0, none⟩)), (38, .bool x1081)] ∧ Hp C w' ρ (Box b1067 [v1, v4] :: Box b1078 [v1072, v4] :: Arr v1072 7 c1073 :: hs)) ?_ ?_
 ·refine R_nd <| nq (Q_move rfl) rfl rfl <| nq (Q_not rfl) rfl rfl <| nq (Q_move rfl) rfl rfl ?_
  rcases Bool.eq_false_or_eq_true (!x1075) with hb | hb
  ·rw [hb]
   replace ho1082 := itT hb ho1082
   refine gs rfl rfl rfl rfl <| gs rfl rfl rfl rfl <| gs rfl rfl rfl rfl <| nq (Q_pickT rfl rfl) rfl rfl <| nq (Q_move rfl) rfl rfl <| gs rfl rfl rfl rfl <| gs rfl rfl rfl rfl <| gs rfl rfl rfl rfl <| nq (Q_pickT rfl rfl) rfl rfl <| WL_nil ?_
   replace H := H.f1
   replace H := H.f1
   replace H := H.f2
   obtain rfl := Option.some.inj ho1082
   refine x_A fun a hf => ⟨true, rfl, hf.sub ⟨rfl, rfl, rfl, rfl, rfl, trivial⟩, H⟩
  ·rw [hb]
   replace ho1082 := itF hb ho1082
   refine gq (Q_move rfl) rfl rfl rfl <| gq (Q_len Tryz.underlying23 rfl r9) rfl rfl rfl <| gq (Q_gtr rfl rfl) rfl rfl rfl <| nq (Q_pickF rfl rfl) rfl rfl <| nq (Q_move rfl) rfl rfl ?_
   rcases Bool.eq_false_or_eq_true (decide ((x8.length : Int) > 60)) with hb | hb
   ·rw [hb]
    replace ho1082 := itT hb ho1082
    refine gs rfl rfl rfl rfl <| gs rfl rfl rfl rfl <| gs rfl rfl rfl rfl <| nq (Q_pickT rfl rfl) rfl rfl <| WL_nil ?_
    replace H := H.f1
    replace H := H.f1
    replace H := H.f2
    obtain rfl := Option.some.inj ho1082
    refine x_A fun a hf => ⟨true, rfl, hf.sub ⟨rfl, rfl, rfl, rfl, rfl, trivial⟩, H⟩
   ·rw [hb]
    replace ho1082 := itF hb ho1082
    refine gq (Q_move rfl) rfl rfl rfl <| gq (Q_len Tryz.underlying42 rfl r12) rfl rfl rfl <| gq (Q_gtr rfl rfl) rfl rfl rfl <| nq (Q_pickF rfl rfl) rfl rfl <| WL_nil ?_
    replace H := H.f1
    replace H := H.f1
    replace H := H.f2
    obtain rfl := Option.some.inj ho1082
    refine x_A fun a hf => ⟨decide ((x11.length : Int) > 30), rfl, hf.sub ⟨rfl, rfl, rfl, rfl, rfl, trivial⟩, H⟩
 ·rintro a wd1083 ⟨x1081, rfl, hf, H⟩
  try dsimp only at hF
  refine CW.at hf ?_
  refine C_cond rfl (fun hb => ?_) (fun hb => ?_)
  ·replace hF := itT hb hF
   refine C_seq <| R_nd <| nq (Q_assign rfl) rfl rfl <| WL_nil <| x_then <| C_ret <| x_then_ret ?_
   replace H := H.drop 0 rfl
   dsimp only [List.eraseIdx] at H
   replace H := H.drop 0 rfl
   dsimp only [List.eraseIdx] at H
   replace H := H.drop 0 rfl
   dsimp only [List.eraseIdx] at H
   obtain rfl := Option.some.inj hF
   exact fn_ret (l := [.tmp 6]) (vs := [.bool true]) rfl rfl rfl ⟨ρ, true, rfl, rfl, (View.le_refl _), H⟩
  ·replace hF := itF hb hF
   refine C_skip <| x_then <| C_seq <| R_nd ?_
   obtain ⟨q1084, hq1084, hF⟩ := bnd hF
   refine ne (E_call fn28 rfl (c_28 H gle   hq1084)) rfl rfl ?_
   rintro _ wd1091 (⟨rfl, rfl, H⟩ | ⟨b1086, v1087, c1088, x1089, rfl, rfl, r1090, H⟩)
   ·try dsimp only at hF
    refine nq (Q_move rfl) rfl rfl <| nq (Q_extract rfl rfl) rfl rfl <| nq (Q_extract rfl rfl) rfl rfl <| nq (Q_assign rfl) rfl rfl <| nq (Q_assign rfl) rfl rfl <| WL_nil <| x_then <| C_seq <| C_seq <| R_nd <| nq (Q_move rfl) rfl rfl <| nq (v := .bool true) (Q_known (by decide) (Q_neqV Tryz.underlying53 gle rfl)) rfl rfl <| WL_nil <| x_then ?_
    refine C_cond rfl (fun _ => ?_) (fun h => nomatch h)
    refine C_seq <| R_nd <| nq (Q_assign rfl) rfl rfl <| WL_nil <| x_then <| C_ret <| x_then_ret ?_
    replace H := H.drop 0 rfl
    dsimp only [List.eraseIdx] at H
    replace H := H.drop 0 rfl
    dsimp only [List.eraseIdx] at H
    replace H := H.drop 0 rfl
    dsimp only [List.eraseIdx] at H
    obtain rfl := Option.some.inj hF
    exact fn_ret (l := [.tmp 6]) (vs := [.bool false]) rfl rfl rfl ⟨ρ, false, rfl, rfl, (View.le_refl _), H⟩
   ·try dsimp only at hF
    refine nq (Q_move rfl) rfl rfl <| nq (Q_extract rfl rfl) rfl rfl <| nq (Q_extract rfl rfl) rfl rfl <| nq (Q_assign rfl) rfl rfl <| nq (Q_assign rfl) rfl rfl <| WL_nil <| x_then <| C_seq <| C_seq <| R_nd <| nq (Q_move rfl) rfl rfl <| nq (v := .bool false) (Q_known (by decide) (Q_neqV Tryz.underlying53 gle rfl)) rfl rfl <| WL_nil <| x_then ?_
    refine C_cond rfl (fun h => nomatch h) (fun _ => ?_)
    refine C_skip <| x_then <| C_seq <| C_seq <| R_nd <| nq (Q_move rfl) rfl rfl <| nq (Q_len Tryz.underlying23 rfl r9) rfl rfl <| nq (Q_move rfl) rfl rfl <| WL_nil <| x_then ?_
    obtain ⟨o1153, ho1153, hF⟩ := bnd hF
    refine C_cutQ (fun a w' => ∃ (c1150 : (List Value)) (x1151 : (List Int)), x1151 = o1153 ∧ rdL (eI .u64) ρ x1151 c1150 ∧ Fr 166 a [(2, v10), (3, .pointer (some ⟨b1067, 0, none⟩)), (7, .pointer (some ⟨b1078, 0, none⟩)), (9, .pointer (some ⟨b1086, 0, none⟩))] ∧ Hp C w' ρ (Box b1067 [v1, v4] :: Box b1078 [v1072, v4] :: Arr v1072 7 c1073 :: Box b1086 [v1087, .int .i64 60] :: Arr v1087 1 c1150 :: hs)) ?_ ?_
    ·refine C_block ?_
     replace H := H.f1
     replace H := H.f1
     replace H := H.f4
     replace H := H.f4
     replace H := H.f4
     refine C_iter (f := fun s => F_dofferlaw16_WalkSteps_l0 N x8 s.1 s.2) ho1153 (fun s a w' => ∃ (c1173 : (List Value)) (x1172 : Int) (x1174 : (List Int)), (x1172, x1174) = s ∧ rdL (eI .u64) ρ x1174 c1173 ∧ Fr 166 a [(2, v10), (3, .pointer (some ⟨b1067, 0, none⟩)), (7, .pointer (some ⟨b1078, 0, none⟩)), (9, .pointer (some ⟨b1086, 0, none⟩)), (45, v7), (46, .int .i64 (x8.length : Int)), (47, .int .i64 x1172)] ∧ Hp C w' ρ (Box b1067 [v1, v4] :: Box b1078 [v1072, v4] :: Arr v1072 7 c1073 :: Box b1086 [v1087, .int .i64 60] :: Arr v1087 1 c1173 :: hs)) ?_ ?_
     ·exact fun a hf => ⟨c1088, 0, x1089, rfl, r1090, hf.sub ⟨rfl, rfl, rfl, rfl, rfl, rfl, rfl, trivial⟩, H⟩
     ·rintro s o1194 a wd1197 ⟨c1173, x1172, x1174, rfl, r1175, hf, H⟩ hB1195 hO1196
      replace hB1195 : F_dofferlaw16_WalkSteps_l0 N x8 x1172 x1174 = some o1194 := hB1195
      unfold F_dofferlaw16_WalkSteps_l0 at hB1195
      refine CW.at hf <| C_seq <| R_nd <| nq (Q_lss rfl rfl) rfl rfl <| WL_nil <| x_then <| C_seq ?_
      refine C_cond rfl (fun hb => ?_) (fun hb => ?_)
      ·replace hB1195 := itT hb hB1195
       refine C_skip <| x_then <| C_seq <| C_block <| C_seq <| R_nd ?_
       obtain ⟨x1198, hx1198, hB1195⟩ := bnd hB1195
       obtain ⟨b1199, o1200, c1201, hc1202, ha1203, hi1204⟩ := idxR r9 hx1198
       refine nq (Q_idx hi1204 Tryz.underlying23 ty3 rfl rfl) rfl rfl <| nq (v := .int .i64 x1198) (Q_ld (show cellsAt _ _ _ [.int .i64 x1198] from (show _ = [_] from hc1202) ▸ (ha1203.up H.ok.view)) ty3 rfl (fun _ => rfl) rfl rfl) rfl rfl <| nq (Q_assign rfl) rfl rfl <| WL_nil <| x_then <| R_nd <| nq (Q_move rfl) rfl rfl <| nq (Q_move rfl) rfl rfl ?_
       replace H := H.f4
       replace H := H.f4
       obtain ⟨q1205, hq1205, hB1195⟩ := bnd hB1195
       refine ne (E_call fn29 rfl (c_29 H gle  r1175 hq1205)) rfl rfl ?_
       rintro _ wd1211 ⟨c1207, x1208, x1209, rfl, rfl, r1210, H⟩
       try dsimp only at hB1195
       refine WL_nil <| x_block <| x_then <| R_nd <| nq (Q_add rfl rfl) rfl rfl <| nq (Q_move rfl) rfl rfl <| WL_nil ?_
       replace H := H.f1
       replace H := H.f1
       replace H := H.f4
       replace H := H.f4
       replace H := H.f4
       obtain rfl := Option.some.inj hB1195
       refine x_A fun a hf => ⟨_, rfl, c1207, w64 (x1172 + 1), x1208, rfl, r1210, hf.sub ⟨rfl, rfl, rfl, rfl, rfl, rfl, rfl, trivial⟩, H⟩
      ·replace hB1195 := itF hb hB1195
       refine C_exit <| x_then_exit <| x_then_exit <| x_block_exit ?_
       replace H := H.f4
       replace H := H.f4
       replace H := H.f4
       replace H := H.f4
       replace H := H.f4
       obtain rfl := Option.some.inj hB1195
       obtain rfl := hO1196 _ rfl
       refine x_A fun a hf => ⟨c1173, x1174, rfl, r1175, hf.sub ⟨rfl, rfl, rfl, rfl, trivial⟩, H⟩
    ·rintro a wd1212 ⟨c1150, x1151, rfl, r1152, hf, H⟩
     try dsimp only at hF
     refine XX.at hf <| x_then <| C_seq <| R_nd <| nq (Q_move rfl) rfl rfl ?_
     replace H := H.f4
     replace H := H.f4
     obtain ⟨q1213, hq1213, hF⟩ := bnd hF
     refine ne (E_call fn34 rfl (c_34 H gle gl18 r1152 hq1213)) rfl rfl ?_
     rintro _ wd1216 ⟨x1215, rfl, rfl, H⟩
     try dsimp only at hF
     refine nq (Q_assign rfl) rfl rfl <| WL_nil <| x_then <| C_seq <| R_nd <| nq (v := .agg #[v1, v4]) (Q_ldB (k := 2) (cs := [v1, v4]) H.ok rfl ty25 rfl rfl rfl (fun h => nomatch h) rfl) rfl rfl <| nq (Q_move rfl) rfl rfl ?_
     replace H := H.f1
     replace H := H.f1
     obtain ⟨q1217, hq1217, hF⟩ := bnd hF
     refine ne (E_call fn30 rfl (c_30 H gle gl18 r3 r6 r1152 hq1217)) rfl rfl ?_
     rintro _ wd1224 (⟨rfl, rfl, H⟩ | ⟨b1219, v1220, c1221, x1222, rfl, rfl, r1223, H⟩)
     ·try dsimp only at hF
      refine nq (Q_assign rfl) rfl rfl <| WL_nil <| x_then <| C_seq <| C_seq <| R_nd <| nq (v := .agg #[v1072, v4]) (Q_ldB (k := 3) (cs := [v1072, v4]) H.ok rfl ty29 rfl rfl rfl (fun h => nomatch h) rfl) rfl rfl ?_
      replace H := H.f4
      obtain ⟨q1225, hq1225, hF⟩ := bnd hF
      obtain ⟨C', ρ', hl1226, HA, hL, hback⟩ := Hp.lend (A := []) (L := [Arr v1072 7 c1073]) (F := Box b1086 [v1087, .int .i64 60] :: Arr v1087 1 c1150 :: Box b1067 [v1, v4] :: Box b1078 [v1072, v4] :: hs) H
      refine ne (E_call fn19 rfl (c_19 HA (gle.up hl1226)  (arr_rd (by decide) hl1226 (hL (Arr v1072 7 c1073) (by simp)) r1076) (r6.up hl1226) hq1225)) rfl rfl ?_
      rintro _ wd1228 ⟨x1227, rfl, rfl, H⟩
      try dsimp only at hF
      replace H := hback H
      dsimp only [List.cons_append, List.nil_append] at H
      refine nq (Q_not rfl) rfl rfl <| WL_nil <| x_then ?_
      refine C_cond rfl (fun hb => ?_) (fun hb => ?_)
      ·replace hF := itT hb hF
       obtain ⟨o1263, ho1263, hF⟩ := bnd hF
       refine C_cut (fun a w' => ∃ (ρ' : View) (x1262 : Bool), View.le ρ ρ' ∧ x1262 = o1263 ∧ Fr 166 a [(6, .bool x1262)] ∧ Hp C w' ρ' (hs)) ?_ ?_
       ·refine R_nd <| nq (Q_move rfl) rfl rfl <| nq (v := .bool true) (Q_eqlP (o := none) Tryz.underlying51 rfl) rfl rfl <| nq (Q_move rfl) rfl rfl <| gq (v := .agg #[v1, v4]) (Q_ldB (k := 3) (cs := [v1, v4]) H.ok rfl ty25 rfl rfl rfl (fun h => nomatch h) rfl) rfl rfl rfl ?_
        obtain ⟨q1264, hq1264, ho1263⟩ := bnd ho1263
        refine ge (E_call fn35 rfl (c_35 H gle  r3 r6 hq1264)) rfl rfl rfl ?_
        rintro _ wd1271 (⟨rfl, rfl, H⟩ | ⟨b1266, v1267, c1268, x1269, rfl, rfl, r1270, H⟩)
        ·try dsimp only at ho1263
         refine gq (v := .bool true) (Q_eqlP (o := none) Tryz.underlying51 rfl) rfl rfl rfl <| nq (Q_pickT rfl rfl) rfl rfl <| nq (Q_move rfl) rfl rfl <| gq (v := .agg #[v1, v4]) (Q_ldB (k := 3) (cs := [v1, v4]) H.ok rfl ty25 rfl rfl rfl (fun h => nomatch h) rfl) rfl rfl rfl <| gq (Q_move rfl) rfl rfl rfl ?_
         replace H := H.f2
         replace H := H.f2
         obtain ⟨q1272, hq1272, ho1263⟩ := bnd ho1263
         refine ge (E_call fn36 rfl (c_36 H gle gl18 r3 r6 r1152 hq1272)) rfl rfl rfl ?_
         rintro _ wd1275 ⟨x1274, rfl, rfl, H⟩
         try dsimp only at ho1263
         refine gq (Q_eql rfl rfl) rfl rfl rfl <| nq (Q_pickT rfl rfl) rfl rfl <| nq (Q_move rfl) rfl rfl ?_
         rcases Bool.eq_false_or_eq_true (x1274 == (-1)) with hb | hb
         ·rw [hb]
          replace ho1263 := itT hb ho1263
          refine gq (v := .agg #[v1, v4]) (Q_ldB (k := 3) (cs := [v1, v4]) H.ok rfl ty25 rfl rfl rfl (fun h => nomatch h) rfl) rfl rfl rfl <| gq (Q_move rfl) rfl rfl rfl ?_
          replace H := H.f1
          replace H := H.f1
          obtain ⟨q1276, hq1276, ho1263⟩ := bnd ho1263
          refine ge (E_call fn37 rfl (c_37 H gle gl18 r3 r6 r1152 hq1276)) rfl rfl rfl ?_
          rintro _ wd1283 (⟨rfl, rfl, H⟩ | ⟨b1278, v1279, c1280, x1281, rfl, rfl, r1282, H⟩)
          ·try dsimp only at ho1263
           refine gq (v := .bool true) (Q_eqlP (o := none) Tryz.underlying51 rfl) rfl rfl rfl <| nq (Q_pickT rfl rfl) rfl rfl <| nq (Q_move rfl) rfl rfl <| gq (v := .agg #[v1, v4]) (Q_ldB (k := 3) (cs := [v1, v4]) H.ok rfl ty25 rfl rfl rfl (fun h => nomatch h) rfl) rfl rfl rfl <| gq (Q_move rfl) rfl rfl rfl ?_
           obtain ⟨q1284, hq1284, ho1263⟩ := bnd ho1263
           refine ge (E_call fn26 rfl (c_26 H gle gl18 r3 r6 r12 hq1284)) rfl rfl rfl ?_
           rintro _ wd1291 ⟨ρ, v1286, c1287, x1288, rfl, rfl, lw1289, r1290, H⟩
           try dsimp only at ho1263
           replace r12 := RdSl.up lw1289 r12
           replace r3 := RdSl.up lw1289 r3
           replace r6 := RdSl.up lw1289 r6
           replace r1076 := rdL.up lw1289 r1076
           replace r1152 := rdL.up lw1289 r1152
           replace gle := GErrs.up lw1289 gle
           replace gl18 := GTab.up lw1289 gl18
           refine gq (Q_lenA (k := 0) H.ok rfl r1290 (by decide) Tryz.underlying23 rfl) rfl rfl rfl <| gq (Q_eql rfl rfl) rfl rfl rfl <| nq (Q_pickT rfl rfl) rfl rfl <| nq (Q_move rfl) rfl rfl ?_
           rcases Bool.eq_false_or_eq_true ((x1288.length : Int) == 0) with hb | hb
           ·rw [hb]
            replace ho1263 := itT hb ho1263
            refine gq (v := .agg #[v1, v4]) (Q_ldB (k := 4) (cs := [v1, v4]) H.ok rfl ty25 rfl rfl rfl (fun h => nomatch h) rfl) rfl rfl rfl <| gq (Q_move rfl) rfl rfl rfl ?_
            obtain ⟨q1292, hq1292, ho1263⟩ := bnd ho1263
            refine ge (E_call fn27 rfl (c_27 H gle gl18 r3 r6 r12 hq1292)) rfl rfl rfl ?_
            rintro _ wd1296 ⟨ρ, x1294, rfl, rfl, lw1295, H⟩
            try dsimp only at ho1263
            replace r12 := RdSl.up lw1295 r12
            replace r3 := RdSl.up lw1295 r3
            replace r6 := RdSl.up lw1295 r6
            replace r1076 := rdL.up lw1295 r1076
            replace r1152 := rdL.up lw1295 r1152
            replace r1290 := rdL.up lw1295 r1290
            replace gle := GErrs.up lw1295 gle
            replace gl18 := GTab.up lw1295 gl18
            refine gq (Q_eql rfl rfl) rfl rfl rfl <| nq (Q_pickT rfl rfl) rfl rfl <| nq (Q_assign rfl) rfl rfl <| WL_nil ?_
            replace H := H.drop 0 rfl
            dsimp only [List.eraseIdx] at H
            replace H := H.drop 0 rfl
            dsimp only [List.eraseIdx] at H
            replace H := H.drop 0 rfl
            dsimp only [List.eraseIdx] at H
            replace H := H.drop 0 rfl
            dsimp only [List.eraseIdx] at H
            replace H := H.drop 0 rfl
            dsimp only [List.eraseIdx] at H
            replace H := H.drop 0 rfl
            dsimp only [List.eraseIdx] at H
            obtain rfl := Option.some.inj ho1263
            refine x_A fun a hf => ⟨ρ, x1294 == (-1), (View.le_trans lw1289 lw1295), rfl, hf.sub ⟨rfl, trivial⟩, H⟩
           ·rw [hb]
            replace ho1263 := itF hb ho1263
            refine gs rfl rfl rfl rfl <| gs rfl rfl rfl rfl <| gs rfl rfl rfl rfl <| gs rfl rfl rfl rfl <| nq (Q_pickF rfl rfl) rfl rfl <| nq (Q_assign rfl) rfl rfl <| WL_nil ?_
            replace H := H.drop 0 rfl
            dsimp only [List.eraseIdx] at H
            replace H := H.drop 0 rfl
            dsimp only [List.eraseIdx] at H
            replace H := H.drop 0 rfl
            dsimp only [List.eraseIdx] at H
            replace H := H.drop 0 rfl
            dsimp only [List.eraseIdx] at H
            replace H := H.drop 0 rfl
            dsimp only [List.eraseIdx] at H
            replace H := H.drop 0 rfl
            dsimp only [List.eraseIdx] at H
            obtain rfl := Option.some.inj ho1263
            refine x_A fun a hf => ⟨ρ, false, lw1289, rfl, hf.sub ⟨rfl, trivial⟩, H⟩
          ·try dsimp only at ho1263
           refine gq (v := .bool false) (Q_eqlP (o := (some ⟨b1278, 0, none⟩)) Tryz.underlying51 rfl) rfl rfl rfl <| nq (Q_pickT rfl rfl) rfl rfl <| nq (Q_move rfl) rfl rfl <| gs rfl rfl rfl rfl <| gs rfl rfl rfl rfl <| gs rfl rfl rfl rfl <| gs rfl rfl rfl rfl <| gs rfl rfl rfl rfl <| nq (Q_pickF rfl rfl) rfl rfl <| nq (Q_move rfl) rfl rfl <| gs rfl rfl rfl rfl <| gs rfl rfl rfl rfl <| gs rfl rfl rfl rfl <| gs rfl rfl rfl rfl ?_
           refine nq (Q_pickF rfl rfl) rfl rfl <| nq (Q_assign rfl) rfl rfl <| WL_nil ?_
           replace H := H.drop 0 rfl
           dsimp only [List.eraseIdx] at H
           replace H := H.drop 0 rfl
           dsimp only [List.eraseIdx] at H
           replace H := H.drop 0 rfl
           dsimp only [List.eraseIdx] at H
           replace H := H.drop 0 rfl
           dsimp only [List.eraseIdx] at H
           replace H := H.drop 0 rfl
           dsimp only [List.eraseIdx] at H
           replace H := H.drop 0 rfl
           dsimp only [List.eraseIdx] at H
           replace H := H.drop 0 rfl
           dsimp only [List.eraseIdx] at H
           obtain rfl := Option.some.inj ho1263
           refine x_A fun a hf => ⟨ρ, false, (View.le_refl _), rfl, hf.sub ⟨rfl, trivial⟩, H⟩
         ·rw [hb]
          replace ho1263 := itF hb ho1263
          refine gs rfl rfl rfl rfl <| gs rfl rfl rfl rfl <| gs rfl rfl rfl rfl <| gs rfl rfl rfl rfl <| nq (Q_pickF rfl rfl) rfl rfl <| nq (Q_move rfl) rfl rfl <| gs rfl rfl rfl rfl <| gs rfl rfl rfl rfl <| gs rfl rfl rfl rfl <| gs rfl rfl rfl rfl <| gs rfl rfl rfl rfl <| nq (Q_pickF rfl rfl) rfl rfl <| nq (Q_move rfl) rfl rfl <| gs rfl rfl rfl rfl ?_
          refine gs rfl rfl rfl rfl <| gs rfl rfl rfl rfl <| gs rfl rfl rfl rfl <| nq (Q_pickF rfl rfl) rfl rfl <| nq (Q_assign rfl) rfl rfl <| WL_nil ?_
          replace H := H.drop 0 rfl
          dsimp only [List.eraseIdx] at H
          replace H := H.drop 0 rfl
          dsimp only [List.eraseIdx] at H
          replace H := H.drop 0 rfl
          dsimp only [List.eraseIdx] at H
          replace H := H.drop 0 rfl
          dsimp only [List.eraseIdx] at H
          replace H := H.drop 0 rfl
          dsimp only [List.eraseIdx] at H
          obtain rfl := Option.some.inj ho1263
          refine x_A fun a hf => ⟨ρ, false, (View.le_refl _), rfl, hf.sub ⟨rfl, trivial⟩, H⟩
        ·try dsimp only at ho1263
         refine gq (v := .bool false) (Q_eqlP (o := (some ⟨b1266, 0, none⟩)) Tryz.underlying51 rfl) rfl rfl rfl <| nq (Q_pickT rfl rfl) rfl rfl <| nq (Q_move rfl) rfl rfl <| gs rfl rfl rfl rfl <| gs rfl rfl rfl rfl <| gs rfl rfl rfl rfl <| gs rfl rfl rfl rfl <| nq (Q_pickF rfl rfl) rfl rfl <| nq (Q_move rfl) rfl rfl <| gs rfl rfl rfl rfl <| gs rfl rfl rfl rfl <| gs rfl rfl rfl rfl <| gs rfl rfl rfl rfl <| nq (Q_pickF rfl rfl) rfl rfl ?_
         refine nq (Q_move rfl) rfl rfl <| gs rfl rfl rfl rfl <| gs rfl rfl rfl rfl <| gs rfl rfl rfl rfl <| gs rfl rfl rfl rfl <| gs rfl rfl rfl rfl <| nq (Q_pickF rfl rfl) rfl rfl <| nq (Q_move rfl) rfl rfl <| gs rfl rfl rfl rfl <| gs rfl rfl rfl rfl <| gs rfl rfl rfl rfl <| gs rfl rfl rfl rfl <| nq (Q_pickF rfl rfl) rfl rfl <| nq (Q_assign rfl) rfl rfl ?_
         refine WL_nil ?_
         replace H := H.drop 0 rfl
         dsimp only [List.eraseIdx] at H
         replace H := H.drop 0 rfl
         dsimp only [List.eraseIdx] at H
         replace H := H.drop 0 rfl
         dsimp only [List.eraseIdx] at H
         replace H := H.drop 0 rfl
         dsimp only [List.eraseIdx] at H
         replace H := H.drop 0 rfl
         dsimp only [List.eraseIdx] at H
         replace H := H.drop 0 rfl
         dsimp only [List.eraseIdx] at H
         replace H := H.drop 0 rfl
         dsimp only [List.eraseIdx] at H
         obtain rfl := Option.some.inj ho1263
         refine x_A fun a hf => ⟨ρ, false, (View.le_refl _), rfl, hf.sub ⟨rfl, trivial⟩, H⟩
       ·rintro a wd1297 ⟨ρ, x1262, lw1298, rfl, hf, H⟩
        try dsimp only at hF
        replace gle := GErrs.up lw1298 gle
        replace gl18 := GTab.up lw1298 gl18
        refine CW.at hf <| C_ret <| x_then_ret ?_
        obtain rfl := Option.some.inj hF
        exact fn_ret (l := [.tmp 6]) (vs := [.bool x1262]) rfl rfl rfl ⟨ρ, x1262, rfl, rfl, lw1298, H⟩
      ·replace hF := itF hb hF
       refine C_skip <| x_then <| C_seq <| R_nd <| nq (v := .pointer (some ⟨b1078, 0, none⟩)) (Q_fld Tryz.underlying29 rfl ty27 (by decide) rfl rfl) rfl rfl <| nq (v := v1072) (Q_ldB (k := 4) (cs := [v1072]) H.ok rfl ty27 rfl rfl rfl (fun _ => rfl) rfl) rfl rfl <| nq (Q_lenA (k := 0) H.ok rfl r1076 (by decide) Tryz.underlying27 rfl) rfl rfl ?_
       obtain ⟨x1299, hx1299, hF⟩ := bnd hF
       obtain ⟨hm1301a, hm1301b, hm1301c⟩ := mk_some hx1299
       refine ne (E_make H Tryz.underlying65 ty4 (zs := [.bool false]) rfl rfl (by decide) (by decide) rfl hm1301a hm1301b) rfl rfl ?_
       rintro _ wd1302 ⟨b1300, rfl, H⟩
       refine nq (Q_assign rfl) rfl rfl <| WL_nil <| x_then <| C_seq <| C_seq <| R_nd <| nq (Q_move rfl) rfl rfl <| nq (Q_lenA (en := eB) (k := 0) H.ok rfl (hm1301c ▸ rdL_rep (e := eB) (ρ := ρ) (rfl) _) (by decide) Tryz.underlying65 rfl) rfl rfl <| nq (Q_move rfl) rfl rfl <| WL_nil <| x_then ?_
       obtain ⟨o1367, ho1367, hF⟩ := bnd hF
       refine C_cutQ (fun a w' => ∃ (c1364 : (List Value)) (x1365 : (List Bool)), x1365 = o1367 ∧ rdL eB ρ x1365 c1364 ∧ Fr 166 a [(2, v10), (3, .pointer (some ⟨b1067, 0, none⟩)), (7, .pointer (some ⟨b1078, 0, none⟩)), (9, .pointer (some ⟨b1086, 0, none⟩)), (13, .string x1215), (14, .pointer none), (15, (.slice (some ⟨b1300, 0, none⟩) (x1074.length : Int).toNat (x1074.length : Int).toNat))] ∧ Hp C w' ρ (Arr (.slice (some ⟨b1300, 0, none⟩) (x1074.length : Int).toNat (x1074.length : Int).toNat) 1 c1364 :: Box b1067 [v1, v4] :: Box b1078 [v1072, v4] :: Arr v1072 7 c1073 :: Box b1086 [v1087, .int .i64 60] :: Arr v1087 1 c1150 :: hs)) ?_ ?_
       ·refine C_block ?_
        replace H := H.f3
        replace H := H.f3
        replace H := H.f3
        replace H := H.f5
        replace H := H.f5
        replace H := H.f5
        refine C_iter (f := fun s => F_dofferlaw16_WalkSteps_l1 N x1151 x1299 s.1 s.2) ho1367 (fun s a w' => ∃ (c1388 : (List Value)) (x1387 : Int) (x1389 : (List Bool)), (x1387, x1389) = s ∧ rdL eB ρ x1389 c1388 ∧ Fr 166 a [(2, v10), (3, .pointer (some ⟨b1067, 0, none⟩)), (7, .pointer (some ⟨b1078, 0, none⟩)), (9, .pointer (some ⟨b1086, 0, none⟩)), (13, .string x1215), (14, .pointer none), (15, (.slice (some ⟨b1300, 0, none⟩) (x1074.length : Int).toNat (x1074.length : Int).toNat)), (100, .int .i64 (x1299.length : Int)), (101, .int .i64 x1387)] ∧ Hp C w' ρ (Arr (.slice (some ⟨b1300, 0, none⟩) (x1074.length : Int).toNat (x1074.length : Int).toNat) 1 c1388 :: Box b1067 [v1, v4] :: Box b1078 [v1072, v4] :: Arr v1072 7 c1073 :: Box b1086 [v1087, .int .i64 60] :: Arr v1087 1 c1150 :: hs)) ?_ ?_
        ·exact fun a hf => ⟨(repC (x1074.length : Int).toNat [.bool false]), 0, x1299, rfl, (hm1301c ▸ rdL_rep (e := eB) (ρ := ρ) (rfl) _), hf.sub ⟨rfl, rfl, rfl, rfl, rfl, rfl, rfl, rfl, rfl, trivial⟩, H⟩
        ·rintro s o1410 a wd1413 ⟨c1388, x1387, x1389, rfl, r1390, hf, H⟩ hB1411 hO1412
         replace hB1411 : F_dofferlaw16_WalkSteps_l1 N x1151 x1299 x1387 x1389 = some o1410 := hB1411
         unfold F_dofferlaw16_WalkSteps_l1 at hB1411
         refine CW.at hf <| C_seq <| R_nd <| nq (Q_lss rfl rfl) rfl rfl <| WL_nil <| x_then <| C_seq ?_
         refine C_cond rfl (fun hb => ?_) (fun hb => ?_)
         ·replace hB1411 := itT hb hB1411
          refine C_skip <| x_then <| C_seq <| C_block <| C_seq <| R_nd <| nq (Q_move rfl) rfl rfl <| nq (Q_assign rfl) rfl rfl <| WL_nil <| x_then <| R_nd <| nq (Q_move rfl) rfl rfl <| nq (Q_move rfl) rfl rfl <| nq (Q_move rfl) rfl rfl ?_
          refine nq (Q_move rfl) rfl rfl ?_
          replace H := H.f5
          replace H := H.f5
          obtain ⟨q1414, hq1414, hB1411⟩ := bnd hB1411
          refine ne (E_call fn33 rfl (c_33 H gle  r1152 hq1414)) rfl rfl ?_
          rintro _ wd1417 ⟨x1416, rfl, rfl, H⟩
          try dsimp only at hB1411
          obtain ⟨x1418, hx1418, hB1411⟩ := bnd hB1411
          obtain ⟨b1419, o1420, hi1424, hc1422, ha1423⟩ := arr_at (hs := [Arr (.slice (some ⟨b1300, 0, none⟩) (x1074.length : Int).toNat (x1074.length : Int).toNat) 1 c1388]) (k := 0) (by decide) (H.okS (by simp)) rfl r1390 hx1418
          refine nq (Q_idx hi1424 Tryz.underlying65 ty4 rfl rfl) rfl rfl ?_
          obtain ⟨x1425, hx1425, hB1411⟩ := bnd hB1411
          obtain ⟨hs1426a, hs1426b, hs1426c⟩ := setI_some hx1425
          have r1427 : rdL eB ρ x1425 (setC c1388 (x1387.toNat * 1 + 0) [.bool x1416]) := hs1426c ▸ rdL.set r1390 hs1426b (rfl)
          refine ne (E_stA (k := 2) (j := 0) (c := [.bool x1416]) H rfl ty4 hi1424 rfl rfl rfl rfl (one_cons rfl one_nil) (by decide)) rfl rfl ?_
          rintro _ wd1428 H
          dsimp only [List.set] at H
          refine WL_nil <| x_block <| x_then <| R_nd <| nq (Q_add rfl rfl) rfl rfl <| nq (Q_move rfl) rfl rfl <| WL_nil ?_
          replace H := H.f1
          replace H := H.f1
          replace H := H.f5
          replace H := H.f5
          replace H := H.f5
          replace H := H.f5
          obtain rfl := Option.some.inj hB1411
          refine x_A fun a hf => ⟨_, rfl, (setC c1388 (x1387.toNat * 1 + 0) [.bool x1416]), w64 (x1387 + 1), x1425, rfl, r1427, hf.sub ⟨rfl, rfl, rfl, rfl, rfl, rfl, rfl, rfl, rfl, trivial⟩, H⟩
         ·replace hB1411 := itF hb hB1411
          refine C_exit <| x_then_exit <| x_then_exit <| x_block_exit ?_
          replace H := H.f5
          replace H := H.f5
          replace H := H.f5
          replace H := H.f5
          replace H := H.f5
          replace H := H.f5
          obtain rfl := Option.some.inj hB1411
          obtain rfl := hO1412 _ rfl
          refine x_A fun a hf => ⟨c1388, x1389, rfl, r1390, hf.sub ⟨rfl, rfl, rfl, rfl, rfl, rfl, rfl, trivial⟩, H⟩
       ·rintro a wd1429 ⟨c1364, x1365, rfl, r1366, hf, H⟩
        try dsimp only at hF
        refine XX.at hf <| x_then <| C_seq ?_
        obtain ⟨o1440, ho1440, hF⟩ := bnd hF
        refine C_cut (fun a w' => Fr 166 a [(2, v10), (3, .pointer (some ⟨b1067, 0, none⟩)), (7, .pointer (some ⟨b1078, 0, none⟩)), (9, .pointer (some ⟨b1086, 0, none⟩)), (15, (.slice (some ⟨b1300, 0, none⟩) (x1074.length : Int).toNat (x1074.length : Int).toNat)), (131, .bool true)] ∧ Hp C w' ρ (Arr (.slice (some ⟨b1300, 0, none⟩) (x1074.length : Int).toNat (x1074.length : Int).toNat) 1 c1364 :: Box b1067 [v1, v4] :: Box b1078 [v1072, v4] :: Arr v1072 7 c1073 :: Box b1086 [v1087, .int .i64 60] :: Arr v1087 1 c1150 :: hs)) ?_ ?_
        ·refine R_dr (.take 0 (.take 1 (.take 2 (.one 3 (.one 4 (.take 5 (.take 6 (.take 7 (.take 8 (.take 10 (.take 11 (.one 9 (.one 12 (.take 13 (.take 14 (.take 15 (.take 16 (.take 18 (.one 17 (.take 19 (.take 20 .done))))))))))))))))))))) (fun w' => Ok w' ρ [Arr (.slice (some ⟨b1300, 0, none⟩) (x1074.length : Int).toNat (x1074.length : Int).toNat) 1 c1364, Box b1067 [v1, v4], Box b1078 [v1072, v4], Arr v1072 7 c1073, Box b1086 [v1087, .int .i64 60], Arr v1087 1 c1150]) (by kernel_rfl) (by kernel_rfl) (by kernel_rfl) (H.drew.okS (by simp)) ?_
         replace H := H.drew
         refine dq rfl (fun _ _ => Q_move rfl) rfl rfl <| dq (v := .agg #[v1072, v4]) rfl (fun _ hw => Q_ldB (k := 2) (cs := [v1072, v4]) hw rfl ty29 rfl rfl rfl (fun h => nomatch h) rfl) rfl rfl <| dq rfl (fun _ _ => Q_move rfl) rfl rfl ?_
         replace H := H.f3
         obtain ⟨q1441, hq1441, ho1440⟩ := bnd ho1440
         obtain ⟨C', ρ', hl1442, HA, hL, hback⟩ := Hp.lend (A := []) (L := [Arr v1072 7 c1073, Arr (.slice (some ⟨b1300, 0, none⟩) (x1074.length : Int).toNat (x1074.length : Int).toNat) 1 c1364]) (F := Box b1067 [v1, v4] :: Box b1078 [v1072, v4] :: Box b1086 [v1087, .int .i64 60] :: Arr v1087 1 c1150 :: hs) H
         refine d1 (de rfl (E_call fn39 rfl (c_39 HA (gle.up hl1442)  (arr_rd (by decide) hl1442 (hL (Arr v1072 7 c1073) (by simp)) r1076) (r6.up hl1442) (arr_rd (by decide) hl1442 (hL (Arr (.slice (some ⟨b1300, 0, none⟩) (x1074.length : Int).toNat (x1074.length : Int).toNat) 1 c1364) (by simp)) r1366) hq1441)) rfl rfl ?_)
         rintro _ wd1447 ⟨v1443, c1444, x1445, rfl, rfl, r1446, H⟩
         try dsimp only at ho1440
         replace H := hback H
         replace r1446 := rdL.flat (ρ := ρ') (ρ' := ρ) flat_B r1446
         dsimp only [List.cons_append, List.nil_append] at H
         refine ⟨H.okS (by simp), ?_⟩
         obtain ⟨q1448, hq1448, ho1440⟩ := bnd ho1440
         obtain ⟨C', ρ', hl1449, HA, hL, hback⟩ := Hp.lend (A := []) (L := [Arr v1443 1 c1444]) (F := Arr v1072 7 c1073 :: Arr (.slice (some ⟨b1300, 0, none⟩) (x1074.length : Int).toNat (x1074.length : Int).toNat) 1 c1364 :: Box b1067 [v1, v4] :: Box b1078 [v1072, v4] :: Box b1086 [v1087, .int .i64 60] :: Arr v1087 1 c1150 :: hs) H
         refine d1 (de rfl (E_call fn38 rfl (c_38 HA (gle.up hl1449)  (arr_rd (by decide) hl1449 (hL (Arr v1443 1 c1444) (by simp)) r1446) hq1448)) rfl rfl ?_)
         rintro _ wd1450 ⟨rfl, rfl, H⟩
         try dsimp only at ho1440
         replace H := hback H
         dsimp only [List.cons_append, List.nil_append] at H
         refine ⟨H.okS (by simp), ?_⟩
         refine dq rfl (fun _ _ => Q_not rfl) rfl rfl <| dq rfl (fun _ _ => Q_move rfl) rfl rfl <| dgs rfl rfl rfl rfl rfl <| dgs rfl rfl rfl rfl rfl <| dgs rfl rfl rfl rfl rfl <| dgs rfl rfl rfl rfl rfl ?_
         refine d1 (dges rfl rfl rfl rfl rfl ?_)
         refine d1 (dges rfl rfl rfl rfl rfl ?_)
         refine dgs rfl rfl rfl rfl rfl <| dq rfl (fun _ _ => Q_pickT rfl rfl) rfl rfl <| dq rfl (fun _ _ => Q_move rfl) rfl rfl <| dgs rfl rfl rfl rfl rfl <| dgs rfl rfl rfl rfl rfl ?_
         refine d1 (dges rfl rfl rfl rfl rfl ?_)
         refine dgs rfl rfl rfl rfl rfl <| dq rfl (fun _ _ => Q_pickT rfl rfl) rfl rfl <| DL_nil ?_
         replace H := H.f6
         replace H := H.f6
         replace H := H.f3
         replace H := H.f6
         replace H := H.f6
         replace H := H.f6
         replace H := H.drop 6 rfl
         dsimp only [List.eraseIdx] at H
         obtain rfl := Option.some.inj ho1440
         refine x_A fun a hf => ⟨hf.sub ⟨rfl, rfl, rfl, rfl, rfl, rfl, trivial⟩, H⟩
        ·rintro a wd1451 ⟨hf, H⟩
         try dsimp only at hF
         refine CW.at hf ?_
         refine C_cond rfl (fun _ => ?_) (fun h => nomatch h)
         refine C_seq <| R_nd <| nq (Q_assign rfl) rfl rfl <| WL_nil <| x_then <| C_ret <| x_then_ret ?_
         replace H := H.drop 0 rfl
         dsimp only [List.eraseIdx] at H
         replace H := H.drop 0 rfl
         dsimp only [List.eraseIdx] at H
         replace H := H.drop 0 rfl
         dsimp only [List.eraseIdx] at H
         replace H := H.drop 0 rfl
         dsimp only [List.eraseIdx] at H
         replace H := H.drop 0 rfl
         dsimp only [List.eraseIdx] at H
         replace H := H.drop 0 rfl
         dsimp only [List.eraseIdx] at H
         obtain rfl := Option.some.inj hF
         exact fn_ret (l := [.tmp 6]) (vs := [.bool false]) rfl rfl rfl ⟨ρ, false, rfl, rfl, (View.le_refl _), H⟩
     ·try dsimp only at hF
      refine nq (Q_assign rfl) rfl rfl <| WL_nil <| x_then <| C_seq <| C_seq <| R_nd <| nq (v := .agg #[v1072, v4]) (Q_ldB (k := 5) (cs := [v1072, v4]) H.ok rfl ty29 rfl rfl rfl (fun h => nomatch h) rfl) rfl rfl ?_
      replace H := H.f6
      obtain ⟨q1452, hq1452, hF⟩ := bnd hF
      obtain ⟨C', ρ', hl1453, HA, hL, hback⟩ := Hp.lend (A := []) (L := [Arr v1072 7 c1073]) (F := Box b1086 [v1087, .int .i64 60] :: Arr v1087 1 c1150 :: Box b1219 [v1220, .int .i64 (x2.length : Int)] :: Arr v1220 1 c1221 :: Box b1067 [v1, v4] :: Box b1078 [v1072, v4] :: hs) H
      refine ne (E_call fn19 rfl (c_19 HA (gle.up hl1453)  (arr_rd (by decide) hl1453 (hL (Arr v1072 7 c1073) (by simp)) r1076) (r6.up hl1453) hq1452)) rfl rfl ?_
      rintro _ wd1455 ⟨x1454, rfl, rfl, H⟩
      try dsimp only at hF
      replace H := hback H
      dsimp only [List.cons_append, List.nil_append] at H
      refine nq (Q_not rfl) rfl rfl <| WL_nil <| x_then ?_
      refine C_cond rfl (fun hb => ?_) (fun hb => ?_)
      ·replace hF := itT hb hF
       obtain ⟨o1456, ho1456, hF⟩ := bnd hF
       refine C_cut (fun a w' => Fr 166 a [(6, .bool false)] ∧ Hp C w' ρ (hs)) ?_ ?_
       ·refine R_nd <| nq (Q_move rfl) rfl rfl <| nq (v := .bool false) (Q_eqlP (o := (some ⟨b1219, 0, none⟩)) Tryz.underlying51 rfl) rfl rfl <| nq (Q_move rfl) rfl rfl <| gs rfl rfl rfl rfl <| gs rfl rfl rfl rfl <| gs rfl rfl rfl rfl <| nq (Q_pickF rfl rfl) rfl rfl <| nq (Q_move rfl) rfl rfl <| gs rfl rfl rfl rfl <| gs rfl rfl rfl rfl <| gs rfl rfl rfl rfl <| gs rfl rfl rfl rfl <| nq (Q_pickF rfl rfl) rfl rfl ?_
        refine nq (Q_move rfl) rfl rfl <| gs rfl rfl rfl rfl <| gs rfl rfl rfl rfl <| gs rfl rfl rfl rfl <| gs rfl rfl rfl rfl <| nq (Q_pickF rfl rfl) rfl rfl <| nq (Q_move rfl) rfl rfl <| gs rfl rfl rfl rfl <| gs rfl rfl rfl rfl <| gs rfl rfl rfl rfl <| gs rfl rfl rfl rfl <| gs rfl rfl rfl rfl <| nq (Q_pickF rfl rfl) rfl rfl <| nq (Q_move rfl) rfl rfl ?_
        refine gs rfl rfl rfl rfl <| gs rfl rfl rfl rfl <| gs rfl rfl rfl rfl <| gs rfl rfl rfl rfl <| nq (Q_pickF rfl rfl) rfl rfl <| nq (Q_assign rfl) rfl rfl <| WL_nil ?_
        replace H := H.drop 0 rfl
        dsimp only [List.eraseIdx] at H
        replace H := H.drop 0 rfl
        dsimp only [List.eraseIdx] at H
        replace H := H.drop 0 rfl
        dsimp only [List.eraseIdx] at H
        replace H := H.drop 0 rfl
        dsimp only [List.eraseIdx] at H
        replace H := H.drop 0 rfl
        dsimp only [List.eraseIdx] at H
        replace H := H.drop 0 rfl
        dsimp only [List.eraseIdx] at H
        replace H := H.drop 0 rfl
        dsimp only [List.eraseIdx] at H
        obtain rfl := Option.some.inj ho1456
        refine x_A fun a hf => ⟨hf.sub ⟨rfl, trivial⟩, H⟩
       ·rintro a wd1457 ⟨hf, H⟩
        try dsimp only at hF
        refine CW.at hf <| C_ret <| x_then_ret ?_
        obtain rfl := Option.some.inj hF
        exact fn_ret (l := [.tmp 6]) (vs := [.bool false]) rfl rfl rfl ⟨ρ, false, rfl, rfl, (View.le_refl _), H⟩
      ·replace hF := itF hb hF
       refine C_skip <| x_then <| C_seq <| R_nd <| nq (v := .pointer (some ⟨b1078, 0, none⟩)) (Q_fld Tryz.underlying29 rfl ty27 (by decide) rfl rfl) rfl rfl <| nq (v := v1072) (Q_ldB (k := 6) (cs := [v1072]) H.ok rfl ty27 rfl rfl rfl (fun _ => rfl) rfl) rfl rfl <| nq (Q_lenA (k := 0) H.ok rfl r1076 (by decide) Tryz.underlying27 rfl) rfl rfl ?_
       obtain ⟨x1458, hx1458, hF⟩ := bnd hF
       obtain ⟨hm1460a, hm1460b, hm1460c⟩ := mk_some hx1458
       refine ne (E_make H Tryz.underlying65 ty4 (zs := [.bool false]) rfl rfl (by decide) (by decide) rfl hm1460a hm1460b) rfl rfl ?_
       rintro _ wd1461 ⟨b1459, rfl, H⟩
       refine nq (Q_assign rfl) rfl rfl <| WL_nil <| x_then <| C_seq <| C_seq <| R_nd <| nq (Q_move rfl) rfl rfl <| nq (Q_lenA (en := eB) (k := 0) H.ok rfl (hm1460c ▸ rdL_rep (e := eB) (ρ := ρ) (rfl) _) (by decide) Tryz.underlying65 rfl) rfl rfl <| nq (Q_move rfl) rfl rfl <| WL_nil <| x_then ?_
       obtain ⟨o1526, ho1526, hF⟩ := bnd hF
       refine C_cutQ (fun a w' => ∃ (c1523 : (List Value)) (x1524 : (List Bool)), x1524 = o1526 ∧ rdL eB ρ x1524 c1523 ∧ Fr 166 a [(2, v10), (3, .pointer (some ⟨b1067, 0, none⟩)), (7, .pointer (some ⟨b1078, 0, none⟩)), (9, .pointer (some ⟨b1086, 0, none⟩)), (13, .string x1215), (14, .pointer (some ⟨b1219, 0, none⟩)), (15, (.slice (some ⟨b1459, 0, none⟩) (x1074.length : Int).toNat (x1074.length : Int).toNat))] ∧ Hp C w' ρ (Box b1219 [v1220, .int .i64 (x2.length : Int)] :: Arr v1220 1 c1221 :: Arr (.slice (some ⟨b1459, 0, none⟩) (x1074.length : Int).toNat (x1074.length : Int).toNat) 1 c1523 :: Box b1067 [v1, v4] :: Box b1078 [v1072, v4] :: Arr v1072 7 c1073 :: Box b1086 [v1087, .int .i64 60] :: Arr v1087 1 c1150 :: hs)) ?_ ?_
       ·refine C_block ?_
        replace H := H.f3
        replace H := H.f3
        replace H := H.f3
        replace H := H.f7
        replace H := H.f7
        replace H := H.f5
        replace H := H.f7
        replace H := H.f7
        refine C_iter (f := fun s => F_dofferlaw16_WalkSteps_l2 N x1151 x1458 s.1 s.2) ho1526 (fun s a w' => ∃ (c1547 : (List Value)) (x1546 : Int) (x1548 : (List Bool)), (x1546, x1548) = s ∧ rdL eB ρ x1548 c1547 ∧ Fr 166 a [(2, v10), (3, .pointer (some ⟨b1067, 0, none⟩)), (7, .pointer (some ⟨b1078, 0, none⟩)), (9, .pointer (some ⟨b1086, 0, none⟩)), (13, .string x1215), (14, .pointer (some ⟨b1219, 0, none⟩)), (15, (.slice (some ⟨b1459, 0, none⟩) (x1074.length : Int).toNat (x1074.length : Int).toNat)), (100, .int .i64 (x1458.length : Int)), (101, .int .i64 x1546)] ∧ Hp C w' ρ (Box b1219 [v1220, .int .i64 (x2.length : Int)] :: Arr v1220 1 c1221 :: Arr (.slice (some ⟨b1459, 0, none⟩) (x1074.length : Int).toNat (x1074.length : Int).toNat) 1 c1547 :: Box b1067 [v1, v4] :: Box b1078 [v1072, v4] :: Arr v1072 7 c1073 :: Box b1086 [v1087, .int .i64 60] :: Arr v1087 1 c1150 :: hs)) ?_ ?_
        ·exact fun a hf => ⟨(repC (x1074.length : Int).toNat [.bool false]), 0, x1458, rfl, (hm1460c ▸ rdL_rep (e := eB) (ρ := ρ) (rfl) _), hf.sub ⟨rfl, rfl, rfl, rfl, rfl, rfl, rfl, rfl, rfl, trivial⟩, H⟩
        ·rintro s o1569 a wd1572 ⟨c1547, x1546, x1548, rfl, r1549, hf, H⟩ hB1570 hO1571
         replace hB1570 : F_dofferlaw16_WalkSteps_l2 N x1151 x1458 x1546 x1548 = some o1569 := hB1570
         unfold F_dofferlaw16_WalkSteps_l2 at hB1570
         refine CW.at hf <| C_seq <| R_nd <| nq (Q_lss rfl rfl) rfl rfl <| WL_nil <| x_then <| C_seq ?_
         refine C_cond rfl (fun hb => ?_) (fun hb => ?_)
         ·replace hB1570 := itT hb hB1570
          refine C_skip <| x_then <| C_seq <| C_block <| C_seq <| R_nd <| nq (Q_move rfl) rfl rfl <| nq (Q_assign rfl) rfl rfl <| WL_nil <| x_then <| R_nd <| nq (Q_move rfl) rfl rfl <| nq (Q_move rfl) rfl rfl <| nq (Q_move rfl) rfl rfl ?_
          refine nq (Q_move rfl) rfl rfl ?_
          replace H := H.f7
          replace H := H.f7
          obtain ⟨q1573, hq1573, hB1570⟩ := bnd hB1570
          refine ne (E_call fn33 rfl (c_33 H gle  r1152 hq1573)) rfl rfl ?_
          rintro _ wd1576 ⟨x1575, rfl, rfl, H⟩
          try dsimp only at hB1570
          obtain ⟨x1577, hx1577, hB1570⟩ := bnd hB1570
          obtain ⟨b1578, o1579, hi1583, hc1581, ha1582⟩ := arr_at (hs := [Arr (.slice (some ⟨b1459, 0, none⟩) (x1074.length : Int).toNat (x1074.length : Int).toNat) 1 c1547]) (k := 0) (by decide) (H.okS (by simp)) rfl r1549 hx1577
          refine nq (Q_idx hi1583 Tryz.underlying65 ty4 rfl rfl) rfl rfl ?_
          obtain ⟨x1584, hx1584, hB1570⟩ := bnd hB1570
          obtain ⟨hs1585a, hs1585b, hs1585c⟩ := setI_some hx1584
          have r1586 : rdL eB ρ x1584 (setC c1547 (x1546.toNat * 1 + 0) [.bool x1575]) := hs1585c ▸ rdL.set r1549 hs1585b (rfl)
          refine ne (E_stA (k := 4) (j := 0) (c := [.bool x1575]) H rfl ty4 hi1583 rfl rfl rfl rfl (one_cons rfl one_nil) (by decide)) rfl rfl ?_
          rintro _ wd1587 H
          dsimp only [List.set] at H
          refine WL_nil <| x_block <| x_then <| R_nd <| nq (Q_add rfl rfl) rfl rfl <| nq (Q_move rfl) rfl rfl <| WL_nil ?_
          replace H := H.f1
          replace H := H.f1
          replace H := H.f7
          replace H := H.f7
          replace H := H.f7
          replace H := H.f7
          replace H := H.f7
          replace H := H.f7
          obtain rfl := Option.some.inj hB1570
          refine x_A fun a hf => ⟨_, rfl, (setC c1547 (x1546.toNat * 1 + 0) [.bool x1575]), w64 (x1546 + 1), x1584, rfl, r1586, hf.sub ⟨rfl, rfl, rfl, rfl, rfl, rfl, rfl, rfl, rfl, trivial⟩, H⟩
         ·replace hB1570 := itF hb hB1570
          refine C_exit <| x_then_exit <| x_then_exit <| x_block_exit ?_
          replace H := H.f7
          replace H := H.f7
          replace H := H.f7
          replace H := H.f7
          replace H := H.f7
          replace H := H.f7
          replace H := H.f7
          replace H := H.f7
          obtain rfl := Option.some.inj hB1570
          obtain rfl := hO1571 _ rfl
          refine x_A fun a hf => ⟨c1547, x1548, rfl, r1549, hf.sub ⟨rfl, rfl, rfl, rfl, rfl, rfl, rfl, trivial⟩, H⟩
       ·rintro a wd1588 ⟨c1523, x1524, rfl, r1525, hf, H⟩
        try dsimp only at hF
        refine XX.at hf <| x_then <| C_seq ?_
        obtain ⟨o1613, ho1613, hF⟩ := bnd hF
        refine C_cut (fun a w' => ∃ (x1612 : Bool), x1612 = o1613 ∧ Fr 166 a [(2, v10), (3, .pointer (some ⟨b1067, 0, none⟩)), (7, .pointer (some ⟨b1078, 0, none⟩)), (9, .pointer (some ⟨b1086, 0, none⟩)), (15, (.slice (some ⟨b1459, 0, none⟩) (x1074.length : Int).toNat (x1074.length : Int).toNat)), (131, .bool x1612)] ∧ Hp C w' ρ (Arr (.slice (some ⟨b1459, 0, none⟩) (x1074.length : Int).toNat (x1074.length : Int).toNat) 1 c1523 :: Box b1067 [v1, v4] :: Box b1078 [v1072, v4] :: Arr v1072 7 c1073 :: Box b1086 [v1087, .int .i64 60] :: Arr v1087 1 c1150 :: hs)) ?_ ?_
        ·refine R_dr (.take 0 (.take 1 (.take 2 (.one 3 (.one 4 (.take 5 (.take 6 (.take 7 (.take 8 (.take 10 (.take 11 (.one 9 (.one 12 (.take 13 (.take 14 (.take 15 (.take 16 (.take 18 (.one 17 (.take 19 (.take 20 .done))))))))))))))))))))) (fun w' => Ok w' ρ [Box b1219 [v1220, .int .i64 (x2.length : Int)], Arr v1220 1 c1221, Arr (.slice (some ⟨b1459, 0, none⟩) (x1074.length : Int).toNat (x1074.length : Int).toNat) 1 c1523, Box b1067 [v1, v4], Box b1078 [v1072, v4], Arr v1072 7 c1073, Box b1086 [v1087, .int .i64 60], Arr v1087 1 c1150]) (by kernel_rfl) (by kernel_rfl) (by kernel_rfl) (H.drew.okS (by simp)) ?_
         replace H := H.drew
         refine dq rfl (fun _ _ => Q_move rfl) rfl rfl <| dq (v := .agg #[v1072, v4]) rfl (fun _ hw => Q_ldB (k := 4) (cs := [v1072, v4]) hw rfl ty29 rfl rfl rfl (fun h => nomatch h) rfl) rfl rfl <| dq rfl (fun _ _ => Q_move rfl) rfl rfl ?_
         replace H := H.f2
         replace H := H.f5
         obtain ⟨q1614, hq1614, ho1613⟩ := bnd ho1613
         obtain ⟨C', ρ', hl1615, HA, hL, hback⟩ := Hp.lend (A := []) (L := [Arr v1072 7 c1073, Arr (.slice (some ⟨b1459, 0, none⟩) (x1074.length : Int).toNat (x1074.length : Int).toNat) 1 c1523]) (F := Box b1219 [v1220, .int .i64 (x2.length : Int)] :: Arr v1220 1 c1221 :: Box b1067 [v1, v4] :: Box b1078 [v1072, v4] :: Box b1086 [v1087, .int .i64 60] :: Arr v1087 1 c1150 :: hs) H
         refine d1 (de rfl (E_call fn39 rfl (c_39 HA (gle.up hl1615)  (arr_rd (by decide) hl1615 (hL (Arr v1072 7 c1073) (by simp)) r1076) (r6.up hl1615) (arr_rd (by decide) hl1615 (hL (Arr (.slice (some ⟨b1459, 0, none⟩) (x1074.length : Int).toNat (x1074.length : Int).toNat) 1 c1523) (by simp)) r1525) hq1614)) rfl rfl ?_)
         rintro _ wd1620 ⟨v1616, c1617, x1618, rfl, rfl, r1619, H⟩
         try dsimp only at ho1613
         replace H := hback H
         replace r1619 := rdL.flat (ρ := ρ') (ρ' := ρ) flat_B r1619
         dsimp only [List.cons_append, List.nil_append] at H
         refine ⟨H.okS (by simp), ?_⟩
         replace H := H.f4
         replace H := H.f4
         obtain ⟨q1621, hq1621, ho1613⟩ := bnd ho1613
         obtain ⟨C', ρ', hl1622, HA, hL, hback⟩ := Hp.lend (A := [Box b1219 [v1220, .int .i64 (x2.length : Int)], Arr v1220 1 c1221]) (L := [Arr v1616 1 c1617]) (F := Arr v1072 7 c1073 :: Arr (.slice (some ⟨b1459, 0, none⟩) (x1074.length : Int).toNat (x1074.length : Int).toNat) 1 c1523 :: Box b1067 [v1, v4] :: Box b1078 [v1072, v4] :: Box b1086 [v1087, .int .i64 60] :: Arr v1087 1 c1150 :: hs) H
         refine d1 (de rfl (E_call fn38 rfl (c_38_1 HA (gle.up hl1622)  (r1223.up hl1622) (arr_rd (by decide) hl1622 (hL (Arr v1616 1 c1617) (by simp)) r1619) hq1621)) rfl rfl ?_)
         rintro _ wd1624 ⟨x1623, rfl, rfl, H⟩
         try dsimp only at ho1613
         replace H := hback H
         dsimp only [List.cons_append, List.nil_append] at H
         refine ⟨H.okS (by simp), ?_⟩
         refine dq rfl (fun _ _ => Q_not rfl) rfl rfl <| dq rfl (fun _ _ => Q_move rfl) rfl rfl ?_
         rcases Bool.eq_false_or_eq_true (!x1623) with hb | hb
         ·rw [hb]
          replace ho1613 := itT hb ho1613
          refine dgs rfl rfl rfl rfl rfl <| dgs rfl rfl rfl rfl rfl <| dgs rfl rfl rfl rfl rfl <| dgs rfl rfl rfl rfl rfl ?_
          refine d1 (dges rfl rfl rfl rfl rfl ?_)
          refine d1 (dges rfl rfl rfl rfl rfl ?_)
          refine dgs rfl rfl rfl rfl rfl <| dq rfl (fun _ _ => Q_pickT rfl rfl) rfl rfl <| dq rfl (fun _ _ => Q_move rfl) rfl rfl <| dgs rfl rfl rfl rfl rfl <| dgs rfl rfl rfl rfl rfl ?_
          refine d1 (dges rfl rfl rfl rfl rfl ?_)
          refine dgs rfl rfl rfl rfl rfl <| dq rfl (fun _ _ => Q_pickT rfl rfl) rfl rfl <| DL_nil ?_
          replace H := H.f8
          replace H := H.f8
          replace H := H.f5
          replace H := H.f8
          replace H := H.f8
          replace H := H.f8
          replace H := H.drop 6 rfl
          dsimp only [List.eraseIdx] at H
          replace H := H.drop 6 rfl
          dsimp only [List.eraseIdx] at H
          replace H := H.drop 6 rfl
          dsimp only [List.eraseIdx] at H
          obtain rfl := Option.some.inj ho1613
          refine x_A fun a hf => ⟨true, rfl, hf.sub ⟨rfl, rfl, rfl, rfl, rfl, rfl, trivial⟩, H⟩
         ·rw [hb]
          replace ho1613 := itF hb ho1613
          refine dgq (v := .agg #[v1, v4]) rfl (fun _ hw => Q_ldB (k := 3) (cs := [v1, v4]) hw rfl ty25 rfl rfl rfl (fun h => nomatch h) rfl) rfl rfl rfl <| dgq rfl (fun _ _ => Q_move rfl) rfl rfl rfl <| dgq (v := .agg #[v1072, v4]) rfl (fun _ hw => Q_ldB (k := 4) (cs := [v1072, v4]) hw rfl ty29 rfl rfl rfl (fun h => nomatch h) rfl) rfl rfl rfl <| dgq rfl (fun _ _ => Q_move rfl) rfl rfl rfl ?_
          replace H := H.f8
          replace H := H.f8
          obtain ⟨q1625, hq1625, ho1613⟩ := bnd ho1613
          refine d1 (dge rfl (E_call fn36 rfl (c_36 H gle gl18 r3 r6 r1152 hq1625)) rfl rfl rfl ?_)
          rintro _ wd1628 ⟨x1627, rfl, rfl, H⟩
          try dsimp only at ho1613
          refine ⟨H.okS (by simp), ?_⟩
          replace H := H.f6
          replace H := H.f6
          obtain ⟨q1629, hq1629, ho1613⟩ := bnd ho1613
          obtain ⟨C', ρ', hl1630, HA, hL, hback⟩ := Hp.lend (A := []) (L := [Arr v1072 7 c1073, Arr (.slice (some ⟨b1459, 0, none⟩) (x1074.length : Int).toNat (x1074.length : Int).toNat) 1 c1523]) (F := Box b1086 [v1087, .int .i64 60] :: Arr v1087 1 c1150 :: Box b1219 [v1220, .int .i64 (x2.length : Int)] :: Arr v1220 1 c1221 :: Arr v1616 1 c1617 :: Box b1067 [v1, v4] :: Box b1078 [v1072, v4] :: hs) H
          refine d1 (dge rfl (E_call fn40 rfl (c_40 HA (gle.up hl1630)  (arr_rd (by decide) hl1630 (hL (Arr v1072 7 c1073) (by simp)) r1076) (r6.up hl1630) (arr_rd (by decide) hl1630 (hL (Arr (.slice (some ⟨b1459, 0, none⟩) (x1074.length : Int).toNat (x1074.length : Int).toNat) 1 c1523) (by simp)) r1525) hq1629)) rfl rfl rfl ?_)
          rintro _ wd1632 ⟨x1631, rfl, rfl, H⟩
          try dsimp only at ho1613
          replace H := hback H
          dsimp only [List.cons_append, List.nil_append] at H
          refine ⟨H.okS (by simp), ?_⟩
          refine dgq rfl (fun _ _ => Q_neq rfl rfl) rfl rfl rfl <| dq rfl (fun _ _ => Q_pickF rfl rfl) rfl rfl <| dq rfl (fun _ _ => Q_move rfl) rfl rfl ?_
          rcases Bool.eq_false_or_eq_true (x1627 != x1631) with hb | hb
          ·rw [hb]
           replace ho1613 := itT hb ho1613
           refine dgs rfl rfl rfl rfl rfl <| dgs rfl rfl rfl rfl rfl ?_
           refine d1 (dges rfl rfl rfl rfl rfl ?_)
           refine dgs rfl rfl rfl rfl rfl <| dq rfl (fun _ _ => Q_pickT rfl rfl) rfl rfl <| DL_nil ?_
           replace H := H.f3
           replace H := H.f3
           replace H := H.f2
           replace H := H.f8
           replace H := H.f8
           replace H := H.f5
           replace H := H.drop 6 rfl
           dsimp only [List.eraseIdx] at H
           replace H := H.drop 6 rfl
           dsimp only [List.eraseIdx] at H
           replace H := H.drop 6 rfl
           dsimp only [List.eraseIdx] at H
           obtain rfl := Option.some.inj ho1613
           refine x_A fun a hf => ⟨true, rfl, hf.sub ⟨rfl, rfl, rfl, rfl, rfl, rfl, trivial⟩, H⟩
          ·rw [hb]
           replace ho1613 := itF hb ho1613
           refine dgq rfl (fun _ _ => Q_move rfl) rfl rfl rfl <| dgq rfl (fun _ _ => Q_move rfl) rfl rfl rfl ?_
           replace H := H.f3
           replace H := H.f3
           obtain ⟨q1633, hq1633, ho1613⟩ := bnd ho1613
           refine d1 (dge rfl (E_call fn34 rfl (c_34 H gle gl18 r1152 hq1633)) rfl rfl rfl ?_)
           rintro _ wd1636 ⟨x1635, rfl, rfl, H⟩
           try dsimp only at ho1613
           refine ⟨H.okS (by simp), ?_⟩
           refine dgq (v := .bool (x1635.toList != x1215.toList)) rfl (fun _ _ => Q_neqStr Tryz.underlying9 rfl rfl) rfl rfl rfl <| dq rfl (fun _ _ => Q_pickF rfl rfl) rfl rfl <| DL_nil ?_
           replace H := H.f1
           replace H := H.f1
           replace H := H.f2
           replace H := H.f8
           replace H := H.f8
           replace H := H.f5
           replace H := H.drop 6 rfl
           dsimp only [List.eraseIdx] at H
           replace H := H.drop 6 rfl
           dsimp only [List.eraseIdx] at H
           replace H := H.drop 6 rfl
           dsimp only [List.eraseIdx] at H
           obtain rfl := Option.some.inj ho1613
           refine x_A fun a hf => ⟨x1635.toList != x1215.toList, rfl, hf.sub ⟨rfl, rfl, rfl, rfl, rfl, rfl, trivial⟩, H⟩
        ·rintro a wd1637 ⟨x1612, rfl, hf, H⟩
         try dsimp only at hF
         refine CW.at hf ?_
         refine C_cond rfl (fun hb => ?_) (fun hb => ?_)
         ·replace hF := itT hb hF
          refine C_seq <| R_nd <| nq (Q_assign rfl) rfl rfl <| WL_nil <| x_then <| C_ret <| x_then_ret ?_
          replace H := H.drop 0 rfl
          dsimp only [List.eraseIdx] at H
          replace H := H.drop 0 rfl
          dsimp only [List.eraseIdx] at H
          replace H := H.drop 0 rfl
          dsimp only [List.eraseIdx] at H
          replace H := H.drop 0 rfl
          dsimp only [List.eraseIdx] at H
          replace H := H.drop 0 rfl
          dsimp only [List.eraseIdx] at H
          replace H := H.drop 0 rfl
          dsimp only [List.eraseIdx] at H
          obtain rfl := Option.some.inj hF
          exact fn_ret (l := [.tmp 6]) (vs := [.bool false]) rfl rfl rfl ⟨ρ, false, rfl, rfl, (View.le_refl _), H⟩
         ·replace hF := itF hb hF
          refine C_skip <| x_then <| C_seq <| C_seq <| R_nd <| nq (Q_assign rfl) rfl rfl <| WL_nil <| x_then ?_
          obtain ⟨o1732, ho1732, hF⟩ := bnd hF
          refine C_cutQ (fun a w' => .inl () = o1732 ∧ Fr 166 a [(2, v10), (3, .pointer (some ⟨b1067, 0, none⟩)), (7, .pointer (some ⟨b1078, 0, none⟩)), (9, .pointer (some ⟨b1086, 0, none⟩)), (15, (.slice (some ⟨b1459, 0, none⟩) (x1074.length : Int).toNat (x1074.length : Int).toNat))] ∧ Hp C w' ρ (Arr (.slice (some ⟨b1459, 0, none⟩) (x1074.length : Int).toNat (x1074.length : Int).toNat) 1 c1523 :: Box b1067 [v1, v4] :: Box b1078 [v1072, v4] :: Arr v1072 7 c1073 :: Box b1086 [v1087, .int .i64 60] :: Arr v1087 1 c1150 :: hs)) ?_ ?_
          ·refine C_block ?_
           replace H := H.f5
           replace H := H.f5
           replace H := H.f5
           replace H := H.f5
           replace H := H.f5
           replace H := H.f5
           refine C_iter (f := fun s => F_dofferlaw16_WalkSteps_l3 N x2 x5 x1074 s) ho1732 (fun s a w' => ∃ (x1763 : Int), x1763 = s ∧ Fr 166 a [(2, v10), (3, .pointer (some ⟨b1067, 0, none⟩)), (7, .pointer (some ⟨b1078, 0, none⟩)), (9, .pointer (some ⟨b1086, 0, none⟩)), (15, (.slice (some ⟨b1459, 0, none⟩) (x1074.length : Int).toNat (x1074.length : Int).toNat)), (17, .int .i64 x1763)] ∧ Hp C w' ρ (Arr (.slice (some ⟨b1459, 0, none⟩) (x1074.length : Int).toNat (x1074.length : Int).toNat) 1 c1523 :: Box b1067 [v1, v4] :: Box b1078 [v1072, v4] :: Arr v1072 7 c1073 :: Box b1086 [v1087, .int .i64 60] :: Arr v1087 1 c1150 :: hs)) ?_ ?_
           ·exact fun a hf => ⟨(-1), rfl, hf.sub ⟨rfl, rfl, rfl, rfl, rfl, rfl, trivial⟩, H⟩
           ·rintro s o1794 a wd1797 ⟨x1763, rfl, hf, H⟩ hB1795 hO1796
            replace hB1795 : F_dofferlaw16_WalkSteps_l3 N x2 x5 x1074 x1763 = some o1794 := hB1795
            unfold F_dofferlaw16_WalkSteps_l3 at hB1795
            refine CW.at hf <| C_seq <| C_seq <| R_nd <| nq (Q_move rfl) rfl rfl <| nq (v := .pointer (some ⟨b1067, 1, none⟩)) (Q_fld Tryz.underlying25 rfl ty23 (by decide) rfl rfl) rfl rfl <| nq (v := v4) (Q_ldB (k := 1) (cs := [v4]) H.ok rfl ty23 rfl rfl rfl (fun _ => rfl) rfl) rfl rfl <| nq (Q_len Tryz.underlying23 rfl r6) rfl rfl <| nq (Q_leq rfl rfl) rfl rfl <| WL_nil <| x_then ?_
            refine C_cond rfl (fun hb => ?_) (fun hb => ?_)
            ·replace hB1795 := itT hb hB1795
             refine C_skip <| x_then <| C_seq <| C_block <| C_seq <| R_dr (.take 0 (.take 1 (.take 3 (.take 4 (.one 2 (.one 5 (.one 6 (.take 7 .done)))))))) (fun w' => Ok w' ρ [Arr (.slice (some ⟨b1459, 0, none⟩) (x1074.length : Int).toNat (x1074.length : Int).toNat) 1 c1523, Box b1067 [v1, v4], Box b1078 [v1072, v4], Arr v1072 7 c1073, Box b1086 [v1087, .int .i64 60], Arr v1087 1 c1150]) (by kernel_rfl) (by kernel_rfl) (by kernel_rfl) (H.drew.okS (by simp)) ?_
             replace H := H.drew
             refine dq (v := .agg #[v1, v4]) rfl (fun _ hw => Q_ldB (k := 1) (cs := [v1, v4]) hw rfl ty25 rfl rfl rfl (fun h => nomatch h) rfl) rfl rfl <| dq rfl (fun _ _ => Q_move rfl) rfl rfl <| dq (v := .agg #[v1072, v4]) rfl (fun _ hw => Q_ldB (k := 2) (cs := [v1072, v4]) hw rfl ty29 rfl rfl rfl (fun h => nomatch h) rfl) rfl rfl <| dq rfl (fun _ _ => Q_move rfl) rfl rfl ?_
             obtain ⟨q1798, hq1798, hB1795⟩ := bnd hB1795
             refine d1 (de rfl (E_call fn35 rfl (c_35 H gle  r3 r6 hq1798)) rfl rfl ?_)
             rintro _ wd1805 (⟨rfl, rfl, H⟩ | ⟨b1800, v1801, c1802, x1803, rfl, rfl, r1804, H⟩)
             ·try dsimp only at hB1795
              refine ⟨H.okS (by simp), ?_⟩
              replace H := H.f3
              obtain ⟨q1806, hq1806, hB1795⟩ := bnd hB1795
              obtain ⟨C', ρ', hl1807, HA, hL, hback⟩ := Hp.lend (A := []) (L := [Arr v1072 7 c1073]) (F := Arr (.slice (some ⟨b1459, 0, none⟩) (x1074.length : Int).toNat (x1074.length : Int).toNat) 1 c1523 :: Box b1067 [v1, v4] :: Box b1078 [v1072, v4] :: Box b1086 [v1087, .int .i64 60] :: Arr v1087 1 c1150 :: hs) H
              refine d1 (de rfl (E_call fn41 rfl (c_41 HA (gle.up hl1807)  (arr_rd (by decide) hl1807 (hL (Arr v1072 7 c1073) (by simp)) r1076) (r6.up hl1807) hq1806)) rfl rfl ?_)
              rintro _ wd1812 ⟨v1808, c1809, x1810, rfl, rfl, r1811, H⟩
              try dsimp only at hB1795
              replace H := hback H
              replace r1811 := rdL.flat (ρ := ρ') (ρ' := ρ) flat_B r1811
              dsimp only [List.cons_append, List.nil_append] at H
              refine ⟨H.okS (by simp), ?_⟩
              obtain ⟨q1813, hq1813, hB1795⟩ := bnd hB1795
              obtain ⟨C', ρ', hl1814, HA, hL, hback⟩ := Hp.lend (A := []) (L := [Arr v1808 1 c1809]) (F := Arr v1072 7 c1073 :: Arr (.slice (some ⟨b1459, 0, none⟩) (x1074.length : Int).toNat (x1074.length : Int).toNat) 1 c1523 :: Box b1067 [v1, v4] :: Box b1078 [v1072, v4] :: Box b1086 [v1087, .int .i64 60] :: Arr v1087 1 c1150 :: hs) H
              refine d1 (de rfl (E_call fn38 rfl (c_38 HA (gle.up hl1814)  (arr_rd (by decide) hl1814 (hL (Arr v1808 1 c1809) (by simp)) r1811) hq1813)) rfl rfl ?_)
              rintro _ wd1815 ⟨rfl, rfl, H⟩
              try dsimp only at hB1795
              replace H := hback H
              dsimp only [List.cons_append, List.nil_append] at H
              refine ⟨H.okS (by simp), ?_⟩
              refine dq rfl (fun _ _ => Q_not rfl) rfl rfl <| DL_nil <| x_then ?_
              refine C_cond rfl (fun _ => ?_) (fun h => nomatch h)
              refine C_seq <| R_nd <| nq (Q_assign rfl) rfl rfl <| WL_nil <| x_then <| C_ret <| x_block_ret <| x_then_ret <| x_then_ret <| x_block_ret <| x_then_ret <| x_then_ret ?_
              replace H := H.drop 0 rfl
              dsimp only [List.eraseIdx] at H
              replace H := H.drop 0 rfl
              dsimp only [List.eraseIdx] at H
              replace H := H.drop 0 rfl
              dsimp only [List.eraseIdx] at H
              replace H := H.drop 0 rfl
              dsimp only [List.eraseIdx] at H
              replace H := H.drop 0 rfl
              dsimp only [List.eraseIdx] at H
              replace H := H.drop 0 rfl
              dsimp only [List.eraseIdx] at H
              replace H := H.drop 0 rfl
              dsimp only [List.eraseIdx] at H
              obtain rfl := Option.some.inj hB1795
              obtain rfl := hO1796 _ rfl
              obtain rfl := Option.some.inj (show some _ = some _ from hF)
              exact fn_ret (l := [.tmp 6]) (vs := [.bool false]) rfl rfl rfl ⟨ρ, false, rfl, rfl, (View.le_refl _), H⟩
             ·try dsimp only at hB1795
              refine ⟨H.okS (by simp), ?_⟩
              replace H := H.f5
              obtain ⟨q1816, hq1816, hB1795⟩ := bnd hB1795
              obtain ⟨C', ρ', hl1817, HA, hL, hback⟩ := Hp.lend (A := []) (L := [Arr v1072 7 c1073]) (F := Box b1800 [v1801, .int .i64 (x2.length : Int)] :: Arr v1801 1 c1802 :: Arr (.slice (some ⟨b1459, 0, none⟩) (x1074.length : Int).toNat (x1074.length : Int).toNat) 1 c1523 :: Box b1067 [v1, v4] :: Box b1078 [v1072, v4] :: Box b1086 [v1087, .int .i64 60] :: Arr v1087 1 c1150 :: hs) H
              refine d1 (de rfl (E_call fn41 rfl (c_41 HA (gle.up hl1817)  (arr_rd (by decide) hl1817 (hL (Arr v1072 7 c1073) (by simp)) r1076) (r6.up hl1817) hq1816)) rfl rfl ?_)
              rintro _ wd1822 ⟨v1818, c1819, x1820, rfl, rfl, r1821, H⟩
              try dsimp only at hB1795
              replace H := hback H
              replace r1821 := rdL.flat (ρ := ρ') (ρ' := ρ) flat_B r1821
              dsimp only [List.cons_append, List.nil_append] at H
              refine ⟨H.okS (by simp), ?_⟩
              replace H := H.f3
              replace H := H.f3
              obtain ⟨q1823, hq1823, hB1795⟩ := bnd hB1795
              obtain ⟨C', ρ', hl1824, HA, hL, hback⟩ := Hp.lend (A := [Box b1800 [v1801, .int .i64 (x2.length : Int)], Arr v1801 1 c1802]) (L := [Arr v1818 1 c1819]) (F := Arr v1072 7 c1073 :: Arr (.slice (some ⟨b1459, 0, none⟩) (x1074.length : Int).toNat (x1074.length : Int).toNat) 1 c1523 :: Box b1067 [v1, v4] :: Box b1078 [v1072, v4] :: Box b1086 [v1087, .int .i64 60] :: Arr v1087 1 c1150 :: hs) H
              refine d1 (de rfl (E_call fn38 rfl (c_38_1 HA (gle.up hl1824)  (r1804.up hl1824) (arr_rd (by decide) hl1824 (hL (Arr v1818 1 c1819) (by simp)) r1821) hq1823)) rfl rfl ?_)
              rintro _ wd1826 ⟨x1825, rfl, rfl, H⟩
              try dsimp only at hB1795
              replace H := hback H
              dsimp only [List.cons_append, List.nil_append] at H
              refine ⟨H.okS (by simp), ?_⟩
              refine dq rfl (fun _ _ => Q_not rfl) rfl rfl <| DL_nil <| x_then ?_
              refine C_cond rfl (fun hb => ?_) (fun hb => ?_)
              ·replace hB1795 := itT hb hB1795
               refine C_seq <| R_nd <| nq (Q_assign rfl) rfl rfl <| WL_nil <| x_then <| C_ret <| x_block_ret <| x_then_ret <| x_then_ret <| x_block_ret <| x_then_ret <| x_then_ret ?_
               replace H := H.drop 0 rfl
               dsimp only [List.eraseIdx] at H
               replace H := H.drop 0 rfl
               dsimp only [List.eraseIdx] at H
               replace H := H.drop 0 rfl
               dsimp only [List.eraseIdx] at H
               replace H := H.drop 0 rfl
               dsimp only [List.eraseIdx] at H
               replace H := H.drop 0 rfl
               dsimp only [List.eraseIdx] at H
               replace H := H.drop 0 rfl
               dsimp only [List.eraseIdx] at H
               replace H := H.drop 0 rfl
               dsimp only [List.eraseIdx] at H
               replace H := H.drop 0 rfl
               dsimp only [List.eraseIdx] at H
               replace H := H.drop 0 rfl
               dsimp only [List.eraseIdx] at H
               obtain rfl := Option.some.inj hB1795
               obtain rfl := hO1796 _ rfl
               obtain rfl := Option.some.inj (show some _ = some _ from hF)
               exact fn_ret (l := [.tmp 6]) (vs := [.bool false]) rfl rfl rfl ⟨ρ, false, rfl, rfl, (View.le_refl _), H⟩
              ·replace hB1795 := itF hb hB1795
               refine C_skip <| x_block <| x_then <| R_nd <| nq (Q_move rfl) rfl rfl <| nq (Q_add rfl rfl) rfl rfl <| nq (Q_assign rfl) rfl rfl <| WL_nil ?_
               replace H := H.f8
               replace H := H.f8
               replace H := H.f5
               replace H := H.f8
               replace H := H.f8
               replace H := H.f8
               replace H := H.drop 6 rfl
               dsimp only [List.eraseIdx] at H
               replace H := H.drop 6 rfl
               dsimp only [List.eraseIdx] at H
               replace H := H.drop 6 rfl
               dsimp only [List.eraseIdx] at H
               obtain rfl := Option.some.inj hB1795
               refine x_A fun a hf => ⟨_, rfl, w64 (x1763 + 1), rfl, hf.sub ⟨rfl, rfl, rfl, rfl, rfl, rfl, trivial⟩, H⟩
            ·replace hB1795 := itF hb hB1795
             refine C_exit <| x_then_exit <| x_then_exit <| x_block_exit ?_
             replace H := H.f5
             replace H := H.f5
             replace H := H.f5
             replace H := H.f5
             replace H := H.f5
             replace H := H.f5
             obtain rfl := Option.some.inj hB1795
             obtain rfl := hO1796 _ rfl
             refine x_A fun a hf => ⟨rfl, hf.sub ⟨rfl, rfl, rfl, rfl, rfl, trivial⟩, H⟩
          ·rintro a wd1827 ⟨rfl, hf, H⟩
           try dsimp only at hF
           refine XX.at hf <| x_then <| C_seq <| C_seq <| R_nd <| nq (Q_move rfl) rfl rfl <| nq (Q_len Tryz.underlying42 rfl r12) rfl rfl <| nq (Q_move rfl) rfl rfl <| WL_nil <| x_then ?_
           obtain ⟨o1973, ho1973, hF⟩ := bnd hF
           refine C_cutQ (fun a w' => .inl () = o1973 ∧ Fr 166 a [] ∧ Hp C w' ρ (hs)) ?_ ?_
           ·refine C_block ?_
            replace H := H.f5
            replace H := H.f5
            replace H := H.f5
            replace H := H.f5
            replace H := H.f5
            replace H := H.f5
            refine C_iter (f := fun s => F_dofferlaw16_WalkSteps_l4 N x2 x5 x11 x1074 s.1 s.2.1 s.2.2.1 s.2.2.2) ho1973 (fun s a w' => ∃ (v2022 : Value) (c2023 : (List Value)) (b2026 : Nat) (v2027 : Value) (c2028 : (List Value)) (x2021 : Int) (x2024 : (List Bool)) (x2029 : (List Int)) (x2031 : Int), (x2021, x2024, x2029, x2031) = s ∧ rdL eB ρ x2024 c2023 ∧ rdL (eI .u64) ρ x2029 c2028 ∧ Fr 166 a [(3, .pointer (some ⟨b1067, 0, none⟩)), (7, .pointer (some ⟨b1078, 0, none⟩)), (9, .pointer (some ⟨b2026, 0, none⟩)), (15, v2022), (147, v10), (148, .int .i64 (x11.length : Int)), (149, .int .i64 x2021)] ∧ Hp C w' ρ (Arr v2022 1 c2023 :: Box b1067 [v1, v4] :: Box b1078 [v1072, v4] :: Arr v1072 7 c1073 :: Box b2026 [v2027, .int .i64 x2031] :: Arr v2027 1 c2028 :: hs)) ?_ ?_
            ·exact fun a hf => ⟨(.slice (some ⟨b1459, 0, none⟩) (x1074.length : Int).toNat (x1074.length : Int).toNat), c1523, b1086, v1087, c1150, 0, x1524, x1151, 60, rfl, r1525, r1152, hf.sub ⟨rfl, rfl, rfl, rfl, rfl, rfl, rfl, trivial⟩, H⟩
            ·rintro s o2079 a wd2082 ⟨v2022, c2023, b2026, v2027, c2028, x2021, x2024, x2029, x2031, rfl, r2025, r2030, hf, H⟩ hB2080 hO2081
             replace hB2080 : F_dofferlaw16_WalkSteps_l4 N x2 x5 x11 x1074 x2021 x2024 x2029 x2031 = some o2079 := hB2080
             unfold F_dofferlaw16_WalkSteps_l4 at hB2080
             refine CW.at hf <| C_seq <| R_nd <| nq (Q_lss rfl rfl) rfl rfl <| WL_nil <| x_then <| C_seq ?_
             refine C_cond rfl (fun hb => ?_) (fun hb => ?_)
             ·replace hB2080 := itT hb hB2080
              refine C_skip <| x_then <| C_seq <| C_block <| C_seq <| R_nd ?_
              obtain ⟨x2083, hx2083, hB2080⟩ := bnd hB2080
              obtain ⟨b2084, o2085, c2086, hc2087, ha2088, hi2089⟩ := idxR r12 hx2083
              refine nq (Q_idx hi2089 Tryz.underlying42 ty5 rfl rfl) rfl rfl <| nq (v := .int .u8 x2083) (Q_ld (show cellsAt _ _ _ [.int .u8 x2083] from (show _ = [_] from hc2087) ▸ (ha2088.up H.ok.view)) ty5 rfl (fun _ => rfl) rfl rfl) rfl rfl <| nq (Q_assign rfl) rfl rfl <| WL_nil <| x_then <| C_seq <| R_nd <| nq (v := .agg #[v1, v4]) (Q_ldB (k := 1) (cs := [v1, v4]) H.ok rfl ty25 rfl rfl rfl (fun h => nomatch h) rfl) rfl rfl <| nq (Q_move rfl) rfl rfl <| nq (Q_move rfl) rfl rfl ?_
              replace H := H.f5
              replace H := H.f5
              obtain ⟨q2090, hq2090, hB2080⟩ := bnd hB2080
              refine ne (E_call fn37 rfl (c_37 H gle gl18 r3 r6 r2030 hq2090)) rfl rfl ?_
              rintro _ wd2097 (⟨rfl, rfl, H⟩ | ⟨b2092, v2093, c2094, x2095, rfl, rfl, r2096, H⟩)
              ·try dsimp only at hB2080
               refine nq (Q_assign rfl) rfl rfl <| WL_nil <| x_then <| C_seq <| R_nd <| nq (v := .agg #[v1072, v4]) (Q_ldB (k := 4) (cs := [v1072, v4]) H.ok rfl ty29 rfl rfl rfl (fun h => nomatch h) rfl) rfl rfl <| nq (Q_move rfl) rfl rfl <| nq (Q_move rfl) rfl rfl ?_
               replace H := H.f2
               replace H := H.f5
               obtain ⟨q2098, hq2098, hB2080⟩ := bnd hB2080
               obtain ⟨C', ρ', hl2099, HA, hL, hback⟩ := Hp.lend (A := []) (L := [Arr v1072 7 c1073, Arr v2022 1 c2023]) (F := Box b2026 [v2027, .int .i64 x2031] :: Arr v2027 1 c2028 :: Box b1067 [v1, v4] :: Box b1078 [v1072, v4] :: hs) H
               refine ne (E_call fn42 rfl (c_42 HA (gle.up hl2099)  (arr_rd (by decide) hl2099 (hL (Arr v1072 7 c1073) (by simp)) r1076) (r6.up hl2099) (arr_rd (by decide) hl2099 (hL (Arr v2022 1 c2023) (by simp)) r2025) hq2098)) rfl rfl ?_
               rintro _ wd2104 ⟨v2100, c2101, x2102, rfl, rfl, r2103, H⟩
               try dsimp only at hB2080
               replace H := hback H
               replace r2103 := rdL.flat (ρ := ρ') (ρ' := ρ) flat_B r2103
               dsimp only [List.cons_append, List.nil_append] at H
               refine nq (Q_assign rfl) rfl rfl <| WL_nil <| x_then <| C_seq <| R_nd <| nq (Q_move rfl) rfl rfl <| nq (Q_move rfl) rfl rfl ?_
               obtain ⟨q2105, hq2105, hB2080⟩ := bnd hB2080
               obtain ⟨C', ρ', hl2106, HA, hL, hback⟩ := Hp.lend (A := []) (L := [Arr v2100 1 c2101]) (F := Arr v1072 7 c1073 :: Arr v2022 1 c2023 :: Box b2026 [v2027, .int .i64 x2031] :: Arr v2027 1 c2028 :: Box b1067 [v1, v4] :: Box b1078 [v1072, v4] :: hs) H
               refine ne (E_call fn38 rfl (c_38 HA (gle.up hl2106)  (arr_rd (by decide) hl2106 (hL (Arr v2100 1 c2101) (by simp)) r2103) hq2105)) rfl rfl ?_
               rintro _ wd2107 ⟨rfl, rfl, H⟩
               try dsimp only at hB2080
               replace H := hback H
               dsimp only [List.cons_append, List.nil_append] at H
               refine nq (Q_not rfl) rfl rfl <| WL_nil <| x_then ?_
               refine C_cond rfl (fun _ => ?_) (fun h => nomatch h)
               refine C_seq <| R_nd <| nq (Q_assign rfl) rfl rfl <| WL_nil <| x_then <| C_ret <| x_block_ret <| x_then_ret <| x_then_ret <| x_block_ret <| x_then_ret <| x_then_ret ?_
               replace H := H.drop 0 rfl
               dsimp only [List.eraseIdx] at H
               replace H := H.drop 0 rfl
               dsimp only [List.eraseIdx] at H
               replace H := H.drop 0 rfl
               dsimp only [List.eraseIdx] at H
               replace H := H.drop 0 rfl
               dsimp only [List.eraseIdx] at H
               replace H := H.drop 0 rfl
               dsimp only [List.eraseIdx] at H
               replace H := H.drop 0 rfl
               dsimp only [List.eraseIdx] at H
               replace H := H.drop 0 rfl
               dsimp only [List.eraseIdx] at H
               obtain rfl := Option.some.inj hB2080
               obtain rfl := hO2081 _ rfl
               obtain rfl := Option.some.inj (show some _ = some _ from hF)
               exact fn_ret (l := [.tmp 6]) (vs := [.bool false]) rfl rfl rfl ⟨ρ, false, rfl, rfl, (View.le_refl _), H⟩
              ·try dsimp only at hB2080
               refine nq (Q_assign rfl) rfl rfl <| WL_nil <| x_then <| C_seq <| R_nd <| nq (v := .agg #[v1072, v4]) (Q_ldB (k := 6) (cs := [v1072, v4]) H.ok rfl ty29 rfl rfl rfl (fun h => nomatch h) rfl) rfl rfl <| nq (Q_move rfl) rfl rfl <| nq (Q_move rfl) rfl rfl ?_
               replace H := H.f4
               replace H := H.f7
               obtain ⟨q2108, hq2108, hB2080⟩ := bnd hB2080
               obtain ⟨C', ρ', hl2109, HA, hL, hback⟩ := Hp.lend (A := []) (L := [Arr v1072 7 c1073, Arr v2022 1 c2023]) (F := Box b2026 [v2027, .int .i64 x2031] :: Arr v2027 1 c2028 :: Box b2092 [v2093, .int .i64 (x2.length : Int)] :: Arr v2093 1 c2094 :: Box b1067 [v1, v4] :: Box b1078 [v1072, v4] :: hs) H
               refine ne (E_call fn42 rfl (c_42 HA (gle.up hl2109)  (arr_rd (by decide) hl2109 (hL (Arr v1072 7 c1073) (by simp)) r1076) (r6.up hl2109) (arr_rd (by decide) hl2109 (hL (Arr v2022 1 c2023) (by simp)) r2025) hq2108)) rfl rfl ?_
               rintro _ wd2114 ⟨v2110, c2111, x2112, rfl, rfl, r2113, H⟩
               try dsimp only at hB2080
               replace H := hback H
               replace r2113 := rdL.flat (ρ := ρ') (ρ' := ρ) flat_B r2113
               dsimp only [List.cons_append, List.nil_append] at H
               refine nq (Q_assign rfl) rfl rfl <| WL_nil <| x_then <| C_seq <| R_nd <| nq (Q_move rfl) rfl rfl <| nq (Q_move rfl) rfl rfl ?_
               replace H := H.f6
               replace H := H.f6
               obtain ⟨q2115, hq2115, hB2080⟩ := bnd hB2080
               obtain ⟨C', ρ', hl2116, HA, hL, hback⟩ := Hp.lend (A := [Box b2092 [v2093, .int .i64 (x2.length : Int)], Arr v2093 1 c2094]) (L := [Arr v2110 1 c2111]) (F := Arr v1072 7 c1073 :: Arr v2022 1 c2023 :: Box b2026 [v2027, .int .i64 x2031] :: Arr v2027 1 c2028 :: Box b1067 [v1, v4] :: Box b1078 [v1072, v4] :: hs) H
               refine ne (E_call fn38 rfl (c_38_1 HA (gle.up hl2116)  (r2096.up hl2116) (arr_rd (by decide) hl2116 (hL (Arr v2110 1 c2111) (by simp)) r2113) hq2115)) rfl rfl ?_
               rintro _ wd2118 ⟨x2117, rfl, rfl, H⟩
               try dsimp only at hB2080
               replace H := hback H
               dsimp only [List.cons_append, List.nil_append] at H
               refine nq (Q_not rfl) rfl rfl <| WL_nil <| x_then ?_
               refine C_cond rfl (fun hb => ?_) (fun hb => ?_)
               ·replace hB2080 := itT hb hB2080
                refine C_seq <| R_nd <| nq (Q_assign rfl) rfl rfl <| WL_nil <| x_then <| C_ret <| x_block_ret <| x_then_ret <| x_then_ret <| x_block_ret <| x_then_ret <| x_then_ret ?_
                replace H := H.drop 0 rfl
                dsimp only [List.eraseIdx] at H
                replace H := H.drop 0 rfl
                dsimp only [List.eraseIdx] at H
                replace H := H.drop 0 rfl
                dsimp only [List.eraseIdx] at H
                replace H := H.drop 0 rfl
                dsimp only [List.eraseIdx] at H
                replace H := H.drop 0 rfl
                dsimp only [List.eraseIdx] at H
                replace H := H.drop 0 rfl
                dsimp only [List.eraseIdx] at H
                replace H := H.drop 0 rfl
                dsimp only [List.eraseIdx] at H
                replace H := H.drop 0 rfl
                dsimp only [List.eraseIdx] at H
                replace H := H.drop 0 rfl
                dsimp only [List.eraseIdx] at H
                obtain rfl := Option.some.inj hB2080
                obtain rfl := hO2081 _ rfl
                obtain rfl := Option.some.inj (show some _ = some _ from hF)
                exact fn_ret (l := [.tmp 6]) (vs := [.bool false]) rfl rfl rfl ⟨ρ, false, rfl, rfl, (View.le_refl _), H⟩
               ·replace hB2080 := itF hb hB2080
                refine C_skip <| x_block <| x_then <| R_nd <| nq (Q_add rfl rfl) rfl rfl <| nq (Q_move rfl) rfl rfl <| WL_nil ?_
                replace H := H.f1
                replace H := H.f1
                replace H := H.f3
                replace H := H.f8
                replace H := H.f8
                replace H := H.f5
                replace H := H.drop 6 rfl
                dsimp only [List.eraseIdx] at H
                replace H := H.drop 6 rfl
                dsimp only [List.eraseIdx] at H
                replace H := H.drop 6 rfl
                dsimp only [List.eraseIdx] at H
                obtain rfl := Option.some.inj hB2080
                refine x_A fun a hf => ⟨_, rfl, v2110, c2111, b2092, v2093, c2094, w64 (x2021 + 1), x2112, x2095, (x2.length : Int), rfl, r2113, r2096, hf.sub ⟨rfl, rfl, rfl, rfl, rfl, rfl, rfl, trivial⟩, H⟩
             ·replace hB2080 := itF hb hB2080
              refine C_exit <| x_then_exit <| x_then_exit <| x_block_exit ?_
              replace H := H.drop 0 rfl
              dsimp only [List.eraseIdx] at H
              replace H := H.drop 0 rfl
              dsimp only [List.eraseIdx] at H
              replace H := H.drop 0 rfl
              dsimp only [List.eraseIdx] at H
              replace H := H.drop 0 rfl
              dsimp only [List.eraseIdx] at H
              replace H := H.drop 0 rfl
              dsimp only [List.eraseIdx] at H
              replace H := H.drop 0 rfl
              dsimp only [List.eraseIdx] at H
              obtain rfl := Option.some.inj hB2080
              obtain rfl := hO2081 _ rfl
              refine x_A fun a hf => ⟨rfl, hf.sub trivial, H⟩
           ·rintro a wd2119 ⟨rfl, hf, H⟩
            try dsimp only at hF
            refine XX.at hf <| x_then <| C_seq <| R_nd <| nq (Q_assign rfl) rfl rfl <| WL_nil <| x_then <| C_ret ?_
            obtain rfl := Option.some.inj hF
            exact fn_ret (l := [.tmp 6]) (vs := [.bool true]) rfl rfl rfl ⟨ρ, true, rfl, rfl, (View.le_refl _), H⟩
end Go.Proofs.YtealkahefalaeaaGreatDoor
