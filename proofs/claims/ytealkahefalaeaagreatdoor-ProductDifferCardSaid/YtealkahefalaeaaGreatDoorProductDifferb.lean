/-
  The walks of the law ProductDiffer, printed by my program, part 2: each function of the code computes its pure function.
-/
import Derived.Test.YtealkahefalaeaaGreatDoorProductDiffera
namespace Go.Proofs.YtealkahefalaeaaGreatDoor
open Go Go.Eng
set_option maxRecDepth 100000
set_option maxHeartbeats 8000000 in
theorem c_9 {N : Nat} {C : Cx} {w : World} {ρ : View} {hs : List Hl} {gV : Nat → Value} {v1 : Value} {v4 : Value} {v7 : Value} {v10 : Value} {v13 : Value} {v16 : Value} {x2 : (List (List Int))} {x5 : (List Int)} {x8 : (List Int)} {x11 : (List (List Int))} {x14 : (List Int)} {x17 : (List Int)} (H : Hp C w ρ (hs)) (gle : GErrs ρ 394 errIds gV) (gl18 : GTab ρ 18 .u8 tab_math_bits_deBruijn64tab) (r3 : RdSl ρ (eA 256 (eI .i64)) v1 x2) (r6 : RdSl ρ (eI .i64) v4 x5) (r9 : RdSl ρ (eI .i64) v7 x8) (r12 : RdSl ρ (eA 256 (eI .i64)) v10 x11) (r15 : RdSl ρ (eI .i64) v13 x14) (r18 : RdSl ρ (eI .i64) v16 x17) {r : Bool} (hF : F_dofferlaw21_ProductDiffer N x2 x5 x8 x11 x14 x17 = some r) :
  Calls Tryz.prog 9 [.agg #[v1, v4, v7], .agg #[v10, v13, v16]].toArray w (Rets (fun v w' => (∃ (ρ' : View) (x1342 : Bool), x1342 = r ∧ .bool x1342 = v ∧ View.le ρ ρ' ∧ Hp C w' ρ' (hs)))) := by
 unfold F_dofferlaw21_ProductDiffer at hF
 have h0 : Tryz.f9.body = some _ := rfl
 refine fn_calls' Tryz.func9 h0 (n := 148) rfl (by simp) <| C_seq <| R_nd <| ne (E_box H (vs := [v1, v4, v7]) rfl rfl) rfl rfl ?_
 rintro _ wd1344 ⟨b1343, rfl, H⟩
 refine ne (E_box H (vs := [v10, v13, v16]) rfl rfl) rfl rfl ?_
 rintro _ wd1346 ⟨b1345, rfl, H⟩
 refine nq (Q_assign rfl) rfl rfl <| WL_nil <| x_then <| C_seq <| C_seq <| R_nd ?_
 obtain ⟨q1347, hq1347, hF⟩ := bnd hF
 refine ne (E_call fn50 rfl (c_50 H gle gl18  hq1347)) rfl rfl ?_
 rintro _ wd1351 ⟨ρ, x1349, rfl, rfl, lw1350, H⟩
 try dsimp only at hF
 replace r3 := RdSl.up lw1350 r3
 replace r6 := RdSl.up lw1350 r6
 replace r9 := RdSl.up lw1350 r9
 replace r12 := RdSl.up lw1350 r12
 replace r15 := RdSl.up lw1350 r15
 replace r18 := RdSl.up lw1350 r18
 replace gle := GErrs.up lw1350 gle
 replace gl18 := GTab.up lw1350 gl18
 refine nq (Q_not rfl) rfl rfl <| WL_nil <| x_then ?_
 refine C_cond rfl (fun hb => ?_) (fun hb => ?_)
 ·replace hF := itT hb hF
  refine C_seq <| R_nd <| nq (Q_assign rfl) rfl rfl <| WL_nil <| x_then <| C_ret <| x_then_ret ?_
  replace H := H.e1.e0
  obtain rfl := Option.some.inj hF
  exact fn_ret (l := [.tmp 4]) (vs := [.bool false]) rfl rfl rfl ⟨ρ, false, rfl, rfl, lw1350, H⟩
 ·replace hF := itF hb hF
  refine C_skip <| x_then <| C_seq <| R_nd <| nq (v := .agg #[v1, v4, v7]) (Q_ldB (k := 1) (cs := [v1, v4, v7]) H.ok rfl ty78 rfl rfl rfl (fun h => nomatch h) rfl) rfl rfl ?_
  obtain ⟨q1352, hq1352, hF⟩ := bnd hF
  refine ne (E_call fn46 rfl (c_46 H gle  r3 r6 r9 hq1352)) rfl rfl ?_
  rintro _ wd1359 ⟨v1354, c1355, x1356, x1357, rfl, rfl, r1358, H⟩
  try dsimp only at hF
  refine nq (Q_move rfl) rfl rfl <| nq (Q_extract rfl rfl) rfl rfl <| nq (Q_extract rfl rfl) rfl rfl <| ne (E_alloc H ty81 (zs := [.slice none 0 0, .slice none 0 0, .slice none 0 0]) rfl) rfl rfl ?_
  rintro _ wd1361 ⟨b1360, rfl, H⟩
  refine ne (E_stB (k := 0) (cs := [v1354, v4, v7]) (vs' := [v1354, v4, v7]) H rfl ty81 rfl rfl rfl rfl (one_cons (arr_cells (H.ok.get (k := 1) rfl)).2 (one_cons (RdSl.one r6) (one_cons (RdSl.one r9) one_nil))) (by simp) rfl) rfl rfl ?_
  rintro _ wd1362 H
  dsimp only [List.set] at H
  refine nq (Q_assign rfl) rfl rfl <| WL_nil <| x_then <| C_seq <| R_nd <| nq (v := .agg #[v10, v13, v16]) (Q_ldB (k := 2) (cs := [v10, v13, v16]) H.ok rfl ty78 rfl rfl rfl (fun h => nomatch h) rfl) rfl rfl ?_
  obtain ⟨q1363, hq1363, hF⟩ := bnd hF
  refine ne (E_call fn46 rfl (c_46 H gle  r12 r15 r18 hq1363)) rfl rfl ?_
  rintro _ wd1370 ⟨v1365, c1366, x1367, x1368, rfl, rfl, r1369, H⟩
  try dsimp only at hF
  refine nq (Q_move rfl) rfl rfl <| nq (Q_extract rfl rfl) rfl rfl <| nq (Q_extract rfl rfl) rfl rfl <| ne (E_alloc H ty81 (zs := [.slice none 0 0, .slice none 0 0, .slice none 0 0]) rfl) rfl rfl ?_
  rintro _ wd1372 ⟨b1371, rfl, H⟩
  refine ne (E_stB (k := 0) (cs := [v1365, v13, v16]) (vs' := [v1365, v13, v16]) H rfl ty81 rfl rfl rfl rfl (one_cons (arr_cells (H.ok.get (k := 1) rfl)).2 (one_cons (RdSl.one r15) (one_cons (RdSl.one r18) one_nil))) (by simp) rfl) rfl rfl ?_
  rintro _ wd1373 H
  dsimp only [List.set] at H
  refine nq (Q_assign rfl) rfl rfl <| WL_nil <| x_then <| C_seq ?_
  obtain ⟨o1375, ho1375, hF⟩ := bnd hF
  refine C_cut (fun a w' => ∃ (x1374 : Bool), x1374 = o1375 ∧ Fr 148 a [(2, .pointer (some ⟨b1343, 0, none⟩)), (3, .pointer (some ⟨b1345, 0, none⟩)), (5, .pointer (some ⟨b1360, 0, none⟩)), (7, .pointer (some ⟨b1371, 0, none⟩)), (36, .bool x1374)] ∧ Hp C w' ρ (Box b1343 [v1, v4, v7] :: Box b1345 [v10, v13, v16] :: Box b1360 [v1354, v4, v7] :: Arr v1354 256 c1355 :: Box b1371 [v1365, v13, v16] :: Arr v1365 256 c1366 :: hs)) ?_ ?_
  ·refine R_nd <| nq (Q_move rfl) rfl rfl <| nq (Q_not rfl) rfl rfl <| nq (Q_move rfl) rfl rfl ?_
   rcases Bool.eq_false_or_eq_true (!x1357) with hb | hb
   ·rw [hb]
    replace ho1375 := itT hb ho1375
    refine gs rfl rfl rfl rfl <| gs rfl rfl rfl rfl <| nq (Q_pickT rfl rfl) rfl rfl <| WL_nil ?_
    replace H := H.f3.f3.f4.f5
    obtain rfl := Option.some.inj ho1375
    refine x_A fun a hf => ⟨true, rfl, hf.sub ⟨rfl, rfl, rfl, rfl, rfl, trivial⟩, H⟩
   ·rw [hb]
    replace ho1375 := itF hb ho1375
    refine gq (Q_move rfl) rfl rfl rfl <| gq (Q_not rfl) rfl rfl rfl <| nq (Q_pickF rfl rfl) rfl rfl <| WL_nil ?_
    replace H := H.f3.f3.f4.f5
    obtain rfl := Option.some.inj ho1375
    refine x_A fun a hf => ⟨!x1368, rfl, hf.sub ⟨rfl, rfl, rfl, rfl, rfl, trivial⟩, H⟩
  ·rintro a wd1376 ⟨x1374, rfl, hf, H⟩
   try dsimp only at hF
   refine CW.at hf ?_
   refine C_cond rfl (fun hb => ?_) (fun hb => ?_)
   ·replace hF := itT hb hF
    refine C_seq <| R_nd <| nq (Q_assign rfl) rfl rfl <| WL_nil <| x_then <| C_ret <| x_then_ret ?_
    replace H := H.e5.e4.e3.e2.e1.e0
    obtain rfl := Option.some.inj hF
    exact fn_ret (l := [.tmp 4]) (vs := [.bool true]) rfl rfl rfl ⟨ρ, true, rfl, rfl, lw1350, H⟩
   ·replace hF := itF hb hF
    refine C_skip <| x_then <| C_seq <| R_nd <| nq (v := .agg #[v1, v4, v7]) (Q_ldB (k := 0) (cs := [v1, v4, v7]) H.ok rfl ty78 rfl rfl rfl (fun h => nomatch h) rfl) rfl rfl <| nq (v := .agg #[v10, v13, v16]) (Q_ldB (k := 1) (cs := [v10, v13, v16]) H.ok rfl ty78 rfl rfl rfl (fun h => nomatch h) rfl) rfl rfl ?_
    obtain ⟨q1377, hq1377, hF⟩ := bnd hF
    refine ne (E_call fn51 rfl (c_51 H gle  r3 r6 r9 r12 r15 r18 hq1377)) rfl rfl ?_
    rintro _ wd1387 (⟨ρ, rfl, rfl, lw1379, H⟩ | ⟨ρ, v1380, x1381, x1382, x1383, x1384, rfl, rfl, lw1385, r1386, H⟩)
    ·try dsimp only at hF
     replace r3 := RdSl.up lw1379 r3
     replace r6 := RdSl.up lw1379 r6
     replace r9 := RdSl.up lw1379 r9
     replace r12 := RdSl.up lw1379 r12
     replace r15 := RdSl.up lw1379 r15
     replace r18 := RdSl.up lw1379 r18
     replace r1358 := rdL.up lw1379 r1358
     replace r1369 := rdL.up lw1379 r1369
     replace gle := GErrs.up lw1379 gle
     replace gl18 := GTab.up lw1379 gl18
     refine nq (Q_move rfl) rfl rfl <| nq (Q_extract rfl rfl) rfl rfl <| nq (Q_extract rfl rfl) rfl rfl <| ne (E_alloc H ty90 (zs := [.int .i64 0, .slice none 0 0, .int .i64 0, .int .i64 0]) rfl) rfl rfl ?_
     rintro _ wd1389 ⟨b1388, rfl, H⟩
     refine ne (E_stB (k := 0) (cs := [.int .i64 0, (.slice none 0 0), .int .i64 0, .int .i64 0]) (vs' := [.int .i64 0, (.slice none 0 0), .int .i64 0, .int .i64 0]) H rfl ty90 rfl rfl rfl rfl (one_cons rfl (one_cons (arr_cells (H.ok.get (k := 1) rfl)).2 (one_cons rfl (one_cons rfl one_nil)))) (by simp) rfl) rfl rfl ?_
     rintro _ wd1390 H
     dsimp only [List.set] at H
     refine nq (Q_assign rfl) rfl rfl <| WL_nil <| x_then ?_
     obtain ⟨o1400, ho1400, hF⟩ := bnd hF
     refine C_cut (fun a w' => ∃ (x1399 : Bool), x1399 = o1400 ∧ Fr 148 a [(2, .pointer (some ⟨b1343, 0, none⟩)), (3, .pointer (some ⟨b1345, 0, none⟩)), (5, .pointer (some ⟨b1360, 0, none⟩)), (7, .pointer (some ⟨b1371, 0, none⟩)), (9, .pointer (some ⟨b1388, 0, none⟩)), (10, .bool false), (11, .bool x1399)] ∧ Hp C w' ρ (Box b1343 [v1, v4, v7] :: Box b1345 [v10, v13, v16] :: Box b1360 [v1354, v4, v7] :: Arr v1354 256 c1355 :: Box b1371 [v1365, v13, v16] :: Arr v1365 256 c1366 :: Box b1388 [.int .i64 0, (.slice none 0 0), .int .i64 0, .int .i64 0] :: Arr (.slice none 0 0) 1 ([]) :: hs)) ?_ ?_
     ·refine R_nd <| nq (v := .agg #[v1354, v4, v7]) (Q_ldB (k := 4) (cs := [v1354, v4, v7]) H.ok rfl ty81 rfl rfl rfl (fun h => nomatch h) rfl) rfl rfl ?_
      replace H := H.f5
      obtain ⟨q1401, hq1401, ho1400⟩ := bnd ho1400
      obtain ⟨C', ρ', hl1402, HA, hL, hback⟩ := Hp.lend (A := []) (L := [Arr v1354 256 c1355]) (F := Box b1388 [.int .i64 0, (.slice none 0 0), .int .i64 0, .int .i64 0] :: Arr (.slice none 0 0) 1 ([]) :: Box b1343 [v1, v4, v7] :: Box b1345 [v10, v13, v16] :: Box b1360 [v1354, v4, v7] :: Box b1371 [v1365, v13, v16] :: Arr v1365 256 c1366 :: hs) H
      refine ne (E_call fn52 rfl (c_52 HA (gle.up hl1402)  (arr_rd (by decide) hl1402 (hL (Arr v1354 256 c1355) (by simp)) r1358) (r6.up hl1402) (r9.up hl1402) hq1401)) rfl rfl ?_
      rintro _ wd1404 ⟨x1403, rfl, rfl, H⟩
      try dsimp only at ho1400
      replace H := hback H
      dsimp only [List.cons_append, List.nil_append] at H
      refine nq (Q_move rfl) rfl rfl ?_
      rcases Bool.eq_false_or_eq_true x1403 with hb | hb
      ·rw [hb]
       replace ho1400 := itT hb ho1400
       refine gq (v := .agg #[v1365, v13, v16]) (Q_ldB (k := 6) (cs := [v1365, v13, v16]) H.ok rfl ty81 rfl rfl rfl (fun h => nomatch h) rfl) rfl rfl rfl ?_
       replace H := H.f7
       obtain ⟨q1405, hq1405, ho1400⟩ := bnd ho1400
       obtain ⟨C', ρ', hl1406, HA, hL, hback⟩ := Hp.lend (A := []) (L := [Arr v1365 256 c1366]) (F := Arr v1354 256 c1355 :: Box b1388 [.int .i64 0, (.slice none 0 0), .int .i64 0, .int .i64 0] :: Arr (.slice none 0 0) 1 ([]) :: Box b1343 [v1, v4, v7] :: Box b1345 [v10, v13, v16] :: Box b1360 [v1354, v4, v7] :: Box b1371 [v1365, v13, v16] :: hs) H
       refine ge (E_call fn52 rfl (c_52 HA (gle.up hl1406)  (arr_rd (by decide) hl1406 (hL (Arr v1365 256 c1366) (by simp)) r1369) (r15.up hl1406) (r18.up hl1406) hq1405)) rfl rfl rfl ?_
       rintro _ wd1408 ⟨x1407, rfl, rfl, H⟩
       try dsimp only at ho1400
       replace H := hback H
       dsimp only [List.cons_append, List.nil_append] at H
       refine nq (Q_pickT rfl rfl) rfl rfl <| nq (Q_assign rfl) rfl rfl <| WL_nil ?_
       replace H := H.f7.f2.f7.f7.f7
       obtain rfl := Option.some.inj ho1400
       refine x_A fun a hf => ⟨x1407, rfl, hf.sub ⟨rfl, rfl, rfl, rfl, rfl, rfl, rfl, trivial⟩, H⟩
      ·rw [hb]
       replace ho1400 := itF hb ho1400
       refine gs rfl rfl rfl rfl <| gs rfl rfl rfl rfl <| nq (Q_pickF rfl rfl) rfl rfl <| nq (Q_assign rfl) rfl rfl <| WL_nil ?_
       replace H := H.f7.f7.f2.f7.f7.f7
       obtain rfl := Option.some.inj ho1400
       refine x_A fun a hf => ⟨false, rfl, hf.sub ⟨rfl, rfl, rfl, rfl, rfl, rfl, rfl, trivial⟩, H⟩
     ·rintro a wd1409 ⟨x1399, rfl, hf, H⟩
      try dsimp only at hF
      refine CW.at hf <| C_seq <| R_nd <| nq (v := .agg #[.int .i64 0, .slice none 0 0, .int .i64 0, .int .i64 0]) (Q_buildS st90.choose_spec (ps := []) rfl trivial rfl) rfl rfl <| ne (E_alloc H ty90 (zs := [.int .i64 0, .slice none 0 0, .int .i64 0, .int .i64 0]) rfl) rfl rfl ?_
      rintro _ wd1411 ⟨b1410, rfl, H⟩
      refine ne (E_stB (k := 0) (cs := [.int .i64 0, .slice none 0 0, .int .i64 0, .int .i64 0]) (vs' := [.int .i64 0, .slice none 0 0, .int .i64 0, .int .i64 0]) H rfl ty90 rfl rfl rfl rfl (one_cons rfl (one_cons rfl (one_cons rfl (one_cons rfl one_nil)))) (by simp) rfl) rfl rfl ?_
      rintro _ wd1412 H
      dsimp only [List.set] at H
      refine nq (Q_assign rfl) rfl rfl <| WL_nil <| x_then <| C_seq <| C_seq <| R_nd <| nq (Q_assign rfl) rfl rfl <| WL_nil <| x_then ?_
      obtain ⟨o1703, ho1703, hF⟩ := bnd hF
      refine C_cutQ (fun a w' => ∃ (v1696 : Value) (c1697 : (List Value)) (x1694 : Bool) (x1695 : Int) (x1698 : (List Int)) (x1700 : Int) (x1701 : Int) (x1702 : Bool), (x1694, x1695, x1698, x1700, x1701, x1702) = o1703 ∧ rdL (eI .u8) ρ x1698 c1697 ∧ Fr 148 a [(2, .pointer (some ⟨b1343, 0, none⟩)), (3, .pointer (some ⟨b1345, 0, none⟩)), (9, .pointer (some ⟨b1388, 0, none⟩)), (10, .bool false), (11, .bool x1694), (12, .pointer (some ⟨b1410, 0, none⟩)), (13, .bool x1702)] ∧ Hp C w' ρ (Box b1410 [.int .i64 x1695, v1696, .int .i64 x1700, .int .i64 x1701] :: Arr v1696 1 c1697 :: Box b1343 [v1, v4, v7] :: Box b1345 [v10, v13, v16] :: Box b1388 [.int .i64 0, (.slice none 0 0), .int .i64 0, .int .i64 0] :: Arr (.slice none 0 0) 1 ([]) :: hs)) ?_ ?_
      ·refine C_block ?_
       have H := H.nilArr 1
       replace H := H.f1
       refine C_iter (f := fun s => F_dofferlaw21_ProductDiffer_l0 N x5 x8 x14 x17 x1356 x1367 s.1 s.2.1 s.2.2.1 s.2.2.2.1 s.2.2.2.2.1 s.2.2.2.2.2.1 s.2.2.2.2.2.2) ho1703 (fun s a w' => ∃ (v1847 : Value) (c1848 : (List Value)) (x1845 : Bool) (x1846 : Int) (x1849 : (List Int)) (x1851 : Int) (x1852 : Int) (x1853 : Bool) (x1854 : Int), (x1845, x1846, x1849, x1851, x1852, x1853, x1854) = s ∧ rdL (eI .u8) ρ x1849 c1848 ∧ Fr 148 a [(2, .pointer (some ⟨b1343, 0, none⟩)), (3, .pointer (some ⟨b1345, 0, none⟩)), (5, .pointer (some ⟨b1360, 0, none⟩)), (7, .pointer (some ⟨b1371, 0, none⟩)), (9, .pointer (some ⟨b1388, 0, none⟩)), (10, .bool false), (11, .bool x1845), (12, .pointer (some ⟨b1410, 0, none⟩)), (13, .bool x1853), (14, .int .i64 x1854)] ∧ Hp C w' ρ (Box b1410 [.int .i64 x1846, v1847, .int .i64 x1851, .int .i64 x1852] :: Arr v1847 1 c1848 :: Box b1343 [v1, v4, v7] :: Box b1345 [v10, v13, v16] :: Box b1360 [v1354, v4, v7] :: Arr v1354 256 c1355 :: Box b1371 [v1365, v13, v16] :: Arr v1365 256 c1366 :: Box b1388 [.int .i64 0, (.slice none 0 0), .int .i64 0, .int .i64 0] :: Arr (.slice none 0 0) 1 ([]) :: hs)) ?_ ?_
       ·exact fun a hf => ⟨(.slice none 0 0), [], x1399, 0, [], 0, 0, false, 0, rfl, rdL.nil, hf.sub ⟨rfl, rfl, rfl, rfl, rfl, rfl, rfl, rfl, rfl, rfl, trivial⟩, H⟩
       ·rintro s o1923 a wd1926 ⟨v1847, c1848, x1845, x1846, x1849, x1851, x1852, x1853, x1854, rfl, r1850, hf, H⟩ hB1924 hO1925
        replace hB1924 : F_dofferlaw21_ProductDiffer_l0 N x5 x8 x14 x17 x1356 x1367 x1845 x1846 x1849 x1851 x1852 x1853 x1854 = some o1923 := hB1924
        unfold F_dofferlaw21_ProductDiffer_l0 at hB1924
        refine CW.at hf <| C_seq ?_
        obtain ⟨o1929, ho1929, hB1924⟩ := bnd hB1924
        refine C_cut (fun a w' => ∃ (x1927 : Bool) (x1928 : Bool), (x1927, x1928) = o1929 ∧ Fr 148 a [(2, .pointer (some ⟨b1343, 0, none⟩)), (3, .pointer (some ⟨b1345, 0, none⟩)), (5, .pointer (some ⟨b1360, 0, none⟩)), (7, .pointer (some ⟨b1371, 0, none⟩)), (9, .pointer (some ⟨b1388, 0, none⟩)), (10, .bool false), (11, .bool x1927), (12, .pointer (some ⟨b1410, 0, none⟩)), (13, .bool x1853), (14, .int .i64 x1854), (68, .bool x1928)] ∧ Hp C w' ρ (Box b1410 [.int .i64 x1846, v1847, .int .i64 x1851, .int .i64 x1852] :: Arr v1847 1 c1848 :: Box b1343 [v1, v4, v7] :: Box b1345 [v10, v13, v16] :: Box b1360 [v1354, v4, v7] :: Arr v1354 256 c1355 :: Box b1371 [v1365, v13, v16] :: Arr v1365 256 c1366 :: Box b1388 [.int .i64 0, (.slice none 0 0), .int .i64 0, .int .i64 0] :: Arr (.slice none 0 0) 1 ([]) :: hs)) ?_ ?_
        ·refine R_nd <| nq (Q_move rfl) rfl rfl <| nq (Q_move rfl) rfl rfl ?_
         rcases Bool.eq_false_or_eq_true x1845 with hb | hb
         ·rw [hb]
          replace ho1929 := itT hb ho1929
          refine gq (Q_move rfl) rfl rfl rfl <| gq (Q_not rfl) rfl rfl rfl <| nq (Q_pickT rfl rfl) rfl rfl <| nq (Q_move rfl) rfl rfl ?_
          rcases Bool.eq_false_or_eq_true (!x1853) with hb | hb
          ·rw [hb]
           replace ho1929 := itT hb ho1929
           refine gq (Q_move rfl) rfl rfl rfl <| gq (v := .pointer (some ⟨b1343, 2, none⟩)) (Q_fld Tryz.underlying78 rfl ty23 (by decide) rfl rfl) rfl rfl rfl <| gq (v := v7) (Q_ldB (k := 2) (cs := [v7]) H.ok rfl ty23 rfl rfl rfl (fun _ => rfl) rfl) rfl rfl rfl <| gq (Q_len Tryz.underlying23 rfl r9) rfl rfl rfl <| gq (Q_lss rfl rfl) rfl rfl rfl <| gq (Q_move rfl) rfl rfl rfl ?_
           rcases Bool.eq_false_or_eq_true (decide (x1854 < (x8.length : Int))) with hb | hb
           ·rw [hb]
            replace ho1929 := itT hb ho1929
            refine gs rfl rfl rfl rfl <| gs rfl rfl rfl rfl <| gs rfl rfl rfl rfl <| gs rfl rfl rfl rfl <| gs rfl rfl rfl rfl <| gq (Q_pickT rfl rfl) rfl rfl rfl <| nq (Q_pickT rfl rfl) rfl rfl <| WL_nil ?_
            obtain rfl := Option.some.inj ho1929
            refine x_A fun a hf => ⟨true, true, rfl, hf.sub ⟨rfl, rfl, rfl, rfl, rfl, rfl, rfl, rfl, rfl, rfl, rfl, trivial⟩, H⟩
           ·rw [hb]
            replace ho1929 := itF hb ho1929
            refine gq (Q_move rfl) rfl rfl rfl <| gq (v := .pointer (some ⟨b1345, 2, none⟩)) (Q_fld Tryz.underlying78 rfl ty23 (by decide) rfl rfl) rfl rfl rfl <| gq (v := v16) (Q_ldB (k := 3) (cs := [v16]) H.ok rfl ty23 rfl rfl rfl (fun _ => rfl) rfl) rfl rfl rfl <| gq (Q_len Tryz.underlying23 rfl r18) rfl rfl rfl <| gq (Q_lss rfl rfl) rfl rfl rfl <| gq (Q_pickF rfl rfl) rfl rfl rfl <| nq (Q_pickT rfl rfl) rfl rfl <| WL_nil ?_
            obtain rfl := Option.some.inj ho1929
            refine x_A fun a hf => ⟨true, decide (x1854 < (x17.length : Int)), rfl, hf.sub ⟨rfl, rfl, rfl, rfl, rfl, rfl, rfl, rfl, rfl, rfl, rfl, trivial⟩, H⟩
          ·rw [hb]
           replace ho1929 := itF hb ho1929
           refine gs rfl rfl rfl rfl <| gs rfl rfl rfl rfl <| gs rfl rfl rfl rfl <| gs rfl rfl rfl rfl <| gs rfl rfl rfl rfl <| gs rfl rfl rfl rfl <| gsu rfl ⟨_, _, rfl, rfl, rfl⟩ rfl <| gsu rfl ⟨_, _, rfl, rfl, rfl⟩ rfl <| gsu rfl ⟨_, _, rfl, rfl, rfl⟩ rfl <| gsu rfl ⟨_, _, rfl, rfl, rfl⟩ rfl <| gsu rfl ⟨_, _, rfl, rfl, rfl⟩ rfl <| gs rfl rfl rfl rfl <| nq (Q_pickF rfl rfl) rfl rfl <| WL_nil ?_
           obtain rfl := Option.some.inj ho1929
           refine x_A fun a hf => ⟨true, false, rfl, hf.sub ⟨rfl, rfl, rfl, rfl, rfl, rfl, rfl, rfl, rfl, rfl, rfl, trivial⟩, H⟩
         ·rw [hb]
          replace ho1929 := itF hb ho1929
          refine gs rfl rfl rfl rfl <| gs rfl rfl rfl rfl <| nq (Q_pickF rfl rfl) rfl rfl <| nq (Q_move rfl) rfl rfl <| gs rfl rfl rfl rfl <| gs rfl rfl rfl rfl <| gs rfl rfl rfl rfl <| gs rfl rfl rfl rfl <| gs rfl rfl rfl rfl <| gs rfl rfl rfl rfl <| gsu rfl ⟨_, _, rfl, rfl, rfl⟩ rfl <| gsu rfl ⟨_, _, rfl, rfl, rfl⟩ rfl <| gsu rfl ⟨_, _, rfl, rfl, rfl⟩ rfl <| gsu rfl ⟨_, _, rfl, rfl, rfl⟩ rfl ?_
          refine gsu rfl ⟨_, _, rfl, rfl, rfl⟩ rfl <| gs rfl rfl rfl rfl <| nq (Q_pickF rfl rfl) rfl rfl <| WL_nil ?_
          obtain rfl := Option.some.inj ho1929
          refine x_A fun a hf => ⟨false, false, rfl, hf.sub ⟨rfl, rfl, rfl, rfl, rfl, rfl, rfl, rfl, rfl, rfl, rfl, trivial⟩, H⟩
        ·rintro a wd1930 ⟨x1927, x1928, rfl, hf, H⟩
         try dsimp only at hB1924
         refine CW.at hf ?_
         refine C_cond rfl (fun hb => ?_) (fun hb => ?_)
         ·replace hB1924 := itT hb hB1924
          refine C_skip <| x_then ?_
          obtain ⟨o1961, ho1961, hB1924⟩ := bnd hB1924
          refine C_cut (fun a w' => ∃ (v1954 : Value) (c1955 : (List Value)) (x1953 : Int) (x1956 : (List Int)) (x1958 : Int) (x1959 : Int) (x1960 : Bool), (x1953, x1956, x1958, x1959, x1960) = o1961 ∧ rdL (eI .u8) ρ x1956 c1955 ∧ Fr 148 a [(2, .pointer (some ⟨b1343, 0, none⟩)), (3, .pointer (some ⟨b1345, 0, none⟩)), (5, .pointer (some ⟨b1360, 0, none⟩)), (7, .pointer (some ⟨b1371, 0, none⟩)), (9, .pointer (some ⟨b1388, 0, none⟩)), (10, .bool false), (11, .bool x1927), (12, .pointer (some ⟨b1410, 0, none⟩)), (13, .bool x1960), (14, .int .i64 x1854)] ∧ Hp C w' ρ (Box b1410 [.int .i64 x1953, v1954, .int .i64 x1958, .int .i64 x1959] :: Arr v1954 1 c1955 :: Box b1343 [v1, v4, v7] :: Box b1345 [v10, v13, v16] :: Box b1360 [v1354, v4, v7] :: Arr v1354 256 c1355 :: Box b1371 [v1365, v13, v16] :: Arr v1365 256 c1366 :: Box b1388 [.int .i64 0, (.slice none 0 0), .int .i64 0, .int .i64 0] :: Arr (.slice none 0 0) 1 ([]) :: hs)) ?_ ?_
          ·refine C_block <| C_seq <| R_nd <| nq (v := .agg #[v1354, v4, v7]) (Q_ldB (k := 4) (cs := [v1354, v4, v7]) H.ok rfl ty81 rfl rfl rfl (fun h => nomatch h) rfl) rfl rfl <| nq (v := .agg #[v1365, v13, v16]) (Q_ldB (k := 6) (cs := [v1365, v13, v16]) H.ok rfl ty81 rfl rfl rfl (fun h => nomatch h) rfl) rfl rfl <| nq (Q_move rfl) rfl rfl ?_
           replace H := H.f7.f6
           obtain ⟨q1962, hq1962, ho1961⟩ := bnd ho1961
           obtain ⟨C', ρ', hl1963, HA, hL, hback⟩ := Hp.lend (A := []) (L := [Arr v1354 256 c1355, Arr v1365 256 c1366]) (F := Box b1410 [.int .i64 x1846, v1847, .int .i64 x1851, .int .i64 x1852] :: Arr v1847 1 c1848 :: Box b1343 [v1, v4, v7] :: Box b1345 [v10, v13, v16] :: Box b1360 [v1354, v4, v7] :: Box b1371 [v1365, v13, v16] :: Box b1388 [.int .i64 0, (.slice none 0 0), .int .i64 0, .int .i64 0] :: Arr (.slice none 0 0) 1 ([]) :: hs) H
           refine ne (E_call fn53 rfl (c_53 HA (gle.up hl1963)  (arr_rd (by decide) hl1963 (hL (Arr v1354 256 c1355) (by simp)) r1358) (r6.up hl1963) (r9.up hl1963) (arr_rd (by decide) hl1963 (hL (Arr v1365 256 c1366) (by simp)) r1369) (r15.up hl1963) (r18.up hl1963) hq1962)) rfl rfl ?_
           rintro _ wd1971 ⟨v1964, c1965, x1966, x1967, x1968, x1969, rfl, rfl, r1970, H⟩
           try dsimp only at ho1961
           replace H := hback H
           replace r1970 := rdL.flat (ρ := ρ') (ρ' := ρ) (flat_I _) r1970
           dsimp only [List.cons_append, List.nil_append] at H
           refine nq (Q_move rfl) rfl rfl <| nq (Q_extract rfl rfl) rfl rfl <| nq (Q_extract rfl rfl) rfl rfl <| nq (Q_extract rfl rfl) rfl rfl <| nq (Q_extract rfl rfl) rfl rfl <| nq (Q_assign rfl) rfl rfl <| nq (Q_assign rfl) rfl rfl <| nq (Q_assign rfl) rfl rfl <| nq (Q_assign rfl) rfl rfl <| WL_nil <| x_then <| C_seq <| R_nd <| nq (Q_move rfl) rfl rfl ?_
           refine WL_nil <| x_then ?_
           obtain ⟨o1981, ho1981, ho1961⟩ := bnd ho1961
           refine C_cutQ (fun a w' => ∃ (v1974 : Value) (c1975 : (List Value)) (x1973 : Int) (x1976 : (List Int)) (x1978 : Int) (x1979 : Int) (x1980 : Bool), (x1973, x1976, x1978, x1979, x1980) = o1981 ∧ rdL (eI .u8) ρ x1976 c1975 ∧ Fr 148 a [(2, .pointer (some ⟨b1343, 0, none⟩)), (3, .pointer (some ⟨b1345, 0, none⟩)), (5, .pointer (some ⟨b1360, 0, none⟩)), (7, .pointer (some ⟨b1371, 0, none⟩)), (9, .pointer (some ⟨b1388, 0, none⟩)), (10, .bool false), (11, .bool x1927), (12, .pointer (some ⟨b1410, 0, none⟩)), (13, .bool x1980), (14, .int .i64 x1854)] ∧ Hp C w' ρ (Box b1410 [.int .i64 x1973, v1974, .int .i64 x1978, .int .i64 x1979] :: Arr v1974 1 c1975 :: Box b1343 [v1, v4, v7] :: Box b1345 [v10, v13, v16] :: Box b1360 [v1354, v4, v7] :: Arr v1354 256 c1355 :: Box b1371 [v1365, v13, v16] :: Arr v1365 256 c1366 :: Box b1388 [.int .i64 0, (.slice none 0 0), .int .i64 0, .int .i64 0] :: Arr (.slice none 0 0) 1 ([]) :: hs)) ?_ ?_
           ·refine C_cond rfl (fun hb => ?_) (fun hb => ?_)
            ·replace ho1981 := itT hb ho1981
             refine R_nd <| nq (Q_move rfl) rfl rfl <| nq (Q_move rfl) rfl rfl <| nq (Q_move rfl) rfl rfl <| nq (Q_move rfl) rfl rfl <| nq (v := .agg #[.int .i64 x1854, v1964, .int .i64 x1967, .int .i64 x1968]) (Q_buildS st90.choose_spec (ps := [(0, [.int .i64 x1854]), (1, [v1964]), (2, [.int .i64 x1967]), (3, [.int .i64 x1968])]) rfl ⟨rfl, rfl, by simp, ⟨rfl, (arr_cells (H.ok.get (k := 0) rfl)).1, by simp, ⟨rfl, rfl, by simp, ⟨rfl, rfl, by simp, trivial⟩⟩⟩⟩ rfl) rfl rfl <| ne (E_stB (k := 3) (cs := [.int .i64 x1854, v1964, .int .i64 x1967, .int .i64 x1968]) (vs' := [.int .i64 x1854, v1964, .int .i64 x1967, .int .i64 x1968]) H rfl ty90 rfl rfl rfl rfl (one_cons rfl (one_cons (arr_cells (H.ok.get (k := 0) rfl)).2 (one_cons rfl (one_cons rfl one_nil)))) (by simp) rfl) rfl rfl ?_
             rintro _ wd1982 H
             dsimp only [List.set] at H
             refine nq (Q_assign rfl) rfl rfl <| WL_nil ?_
             replace H := H.e4.f7.f2.f7.f7.f7.f5.f7
             obtain rfl := Option.some.inj ho1981
             refine x_A fun a hf => ⟨v1964, c1965, x1854, x1966, x1967, x1968, true, rfl, r1970, hf.sub ⟨rfl, rfl, rfl, rfl, rfl, rfl, rfl, rfl, rfl, rfl, trivial⟩, H⟩
            ·replace ho1981 := itF hb ho1981
             refine C_skip ?_
             replace H := H.e0.f7.f1.f7.f7.f7.f7.f7
             obtain rfl := Option.some.inj ho1981
             refine x_A fun a hf => ⟨v1847, c1848, x1846, x1849, x1851, x1852, x1853, rfl, r1850, hf.sub ⟨rfl, rfl, rfl, rfl, rfl, rfl, rfl, rfl, rfl, rfl, trivial⟩, H⟩
           ·rintro a wd1983 ⟨v1974, c1975, x1973, x1976, x1978, x1979, x1980, rfl, r1977, hf, H⟩
            try dsimp only at ho1961
            refine XX.at hf <| x_block ?_
            obtain rfl := Option.some.inj ho1961
            refine x_A fun a hf => ⟨v1974, c1975, x1973, x1976, x1978, x1979, x1980, rfl, r1977, hf.sub ⟨rfl, rfl, rfl, rfl, rfl, rfl, rfl, rfl, rfl, rfl, trivial⟩, H⟩
          ·rintro a wd1984 ⟨v1954, c1955, x1953, x1956, x1958, x1959, x1960, rfl, r1957, hf, H⟩
           try dsimp only at hB1924
           refine CW.at hf <| R_nd <| nq (Q_move rfl) rfl rfl <| nq (Q_add rfl rfl) rfl rfl <| nq (Q_assign rfl) rfl rfl <| WL_nil ?_
           obtain rfl := Option.some.inj hB1924
           refine x_A fun a hf => ⟨_, rfl, v1954, c1955, x1927, x1953, x1956, x1958, x1959, x1960, w64 (x1854 + 1), rfl, r1957, hf.sub ⟨rfl, rfl, rfl, rfl, rfl, rfl, rfl, rfl, rfl, rfl, trivial⟩, H⟩
         ·replace hB1924 := itF hb hB1924
          refine C_exit <| x_then_exit <| x_then_exit <| x_block_exit ?_
          replace H := H.e7.e6.e5.e4
          obtain rfl := Option.some.inj hB1924
          obtain rfl := hO1925 _ rfl
          refine x_A fun a hf => ⟨v1847, c1848, x1927, x1846, x1849, x1851, x1852, x1853, rfl, r1850, hf.sub ⟨rfl, rfl, rfl, rfl, rfl, rfl, rfl, trivial⟩, H⟩
      ·rintro a wd1985 ⟨v1696, c1697, x1694, x1695, x1698, x1700, x1701, x1702, rfl, r1699, hf, H⟩
       try dsimp only at hF
       refine XX.at hf <| x_then <| C_seq ?_
       obtain ⟨o1989, ho1989, hF⟩ := bnd hF
       refine C_cut (fun a w' => ∃ (x1988 : Bool), x1988 = o1989 ∧ Fr 148 a [(2, .pointer (some ⟨b1343, 0, none⟩)), (3, .pointer (some ⟨b1345, 0, none⟩)), (11, .bool x1694), (13, .bool x1702), (118, .bool x1988)] ∧ Hp C w' ρ (Box b1343 [v1, v4, v7] :: Box b1345 [v10, v13, v16] :: hs)) ?_ ?_
       ·refine R_nd <| nq (Q_move rfl) rfl rfl <| nq (Q_move rfl) rfl rfl <| nq (v := .bool (false != x1702)) (Q_neqB Tryz.underlying4 rfl rfl) rfl rfl <| nq (Q_move rfl) rfl rfl ?_
        rcases Bool.eq_false_or_eq_true (false != x1702) with hb | hb
        ·rw [hb]
         replace ho1989 := itT hb ho1989
         refine gs rfl rfl rfl rfl <| gs rfl rfl rfl rfl <| gs rfl rfl rfl rfl <| gs rfl rfl rfl rfl <| gs rfl rfl rfl rfl <| nq (Q_pickT rfl rfl) rfl rfl <| nq (Q_move rfl) rfl rfl <| gs rfl rfl rfl rfl <| gs rfl rfl rfl rfl <| gs rfl rfl rfl rfl <| gs rfl rfl rfl rfl <| gs rfl rfl rfl rfl <| gs rfl rfl rfl rfl <| gs rfl rfl rfl rfl ?_
         refine nq (Q_pickT rfl rfl) rfl rfl <| nq (Q_move rfl) rfl rfl <| gs rfl rfl rfl rfl <| gs rfl rfl rfl rfl <| gs rfl rfl rfl rfl <| gs rfl rfl rfl rfl <| gs rfl rfl rfl rfl <| nq (Q_pickT rfl rfl) rfl rfl <| nq (Q_move rfl) rfl rfl <| gs rfl rfl rfl rfl <| gs rfl rfl rfl rfl <| gs rfl rfl rfl rfl <| gs rfl rfl rfl rfl <| gs rfl rfl rfl rfl ?_
         refine nq (Q_pickT rfl rfl) rfl rfl <| WL_nil ?_
         replace H := H.e5.e4.e1.e0
         obtain rfl := Option.some.inj ho1989
         refine x_A fun a hf => ⟨true, rfl, hf.sub ⟨rfl, rfl, rfl, rfl, rfl, trivial⟩, H⟩
        ·rw [hb]
         replace ho1989 := itF hb ho1989
         refine gq (v := .pointer (some ⟨b1388, 0, none⟩)) (Q_fld Tryz.underlying90 rfl ty3 (by decide) rfl rfl) rfl rfl rfl <| gq (v := .int .i64 0) (Q_ldB (k := 4) (cs := [.int .i64 0]) H.ok rfl ty3 rfl rfl rfl (fun _ => rfl) rfl) rfl rfl rfl <| gq (v := .pointer (some ⟨b1410, 0, none⟩)) (Q_fld Tryz.underlying90 rfl ty3 (by decide) rfl rfl) rfl rfl rfl <| gq (v := .int .i64 x1695) (Q_ldB (k := 0) (cs := [.int .i64 x1695]) H.ok rfl ty3 rfl rfl rfl (fun _ => rfl) rfl) rfl rfl rfl <| gq (Q_neq rfl rfl) rfl rfl rfl <| nq (Q_pickF rfl rfl) rfl rfl <| nq (Q_move rfl) rfl rfl ?_
         rcases Bool.eq_false_or_eq_true (0 != x1695) with hb | hb
         ·rw [hb]
          replace ho1989 := itT hb ho1989
          refine gs rfl rfl rfl rfl <| gs rfl rfl rfl rfl <| gs rfl rfl rfl rfl <| gs rfl rfl rfl rfl <| gs rfl rfl rfl rfl <| gs rfl rfl rfl rfl <| gs rfl rfl rfl rfl <| nq (Q_pickT rfl rfl) rfl rfl <| nq (Q_move rfl) rfl rfl <| gs rfl rfl rfl rfl <| gs rfl rfl rfl rfl <| gs rfl rfl rfl rfl <| gs rfl rfl rfl rfl <| gs rfl rfl rfl rfl ?_
          refine nq (Q_pickT rfl rfl) rfl rfl <| nq (Q_move rfl) rfl rfl <| gs rfl rfl rfl rfl <| gs rfl rfl rfl rfl <| gs rfl rfl rfl rfl <| gs rfl rfl rfl rfl <| gs rfl rfl rfl rfl <| nq (Q_pickT rfl rfl) rfl rfl <| WL_nil ?_
          replace H := H.e5.e4.e1.e0
          obtain rfl := Option.some.inj ho1989
          refine x_A fun a hf => ⟨true, rfl, hf.sub ⟨rfl, rfl, rfl, rfl, rfl, trivial⟩, H⟩
         ·rw [hb]
          replace ho1989 := itF hb ho1989
          refine gq (v := .pointer (some ⟨b1388, 1, none⟩)) (Q_fld Tryz.underlying90 rfl ty42 (by decide) rfl rfl) rfl rfl rfl <| gq (v := (.slice none 0 0)) (Q_ldB (k := 4) (cs := [(.slice none 0 0)]) H.ok rfl ty42 rfl rfl rfl (fun _ => rfl) rfl) rfl rfl rfl <| ge (E_bstrA (k := 5) H rfl rdL.nil Tryz.underlying42 Tryz.underlying5 Tryz.underlying9 rfl) rfl rfl rfl ?_
          rintro _ wd1990 ⟨rfl, rfl⟩
          refine gq (v := .pointer (some ⟨b1410, 1, none⟩)) (Q_fld Tryz.underlying90 rfl ty42 (by decide) rfl rfl) rfl rfl rfl <| gq (v := v1696) (Q_ldB (k := 0) (cs := [v1696]) H.ok rfl ty42 rfl rfl rfl (fun _ => rfl) rfl) rfl rfl rfl <| ge (E_bstrA (k := 1) H rfl r1699 Tryz.underlying42 Tryz.underlying5 Tryz.underlying9 rfl) rfl rfl rfl ?_
          rintro _ wd1991 ⟨rfl, rfl⟩
          refine gq (v := .bool ((bstr ([])).toList != (bstr x1698).toList)) (Q_neqStr Tryz.underlying9 rfl rfl) rfl rfl rfl <| nq (Q_pickF rfl rfl) rfl rfl <| nq (Q_move rfl) rfl rfl ?_
          rcases Bool.eq_false_or_eq_true ((bstr ([])).toList != (bstr x1698).toList) with hb | hb
          ·rw [hb]
           replace ho1989 := itT hb ho1989
           refine gs rfl rfl rfl rfl <| gs rfl rfl rfl rfl <| gs rfl rfl rfl rfl <| gs rfl rfl rfl rfl <| gs rfl rfl rfl rfl <| nq (Q_pickT rfl rfl) rfl rfl <| nq (Q_move rfl) rfl rfl <| gs rfl rfl rfl rfl <| gs rfl rfl rfl rfl <| gs rfl rfl rfl rfl <| gs rfl rfl rfl rfl <| gs rfl rfl rfl rfl <| nq (Q_pickT rfl rfl) rfl rfl <| WL_nil ?_
           replace H := H.e5.e4.e1.e0
           obtain rfl := Option.some.inj ho1989
           refine x_A fun a hf => ⟨true, rfl, hf.sub ⟨rfl, rfl, rfl, rfl, rfl, trivial⟩, H⟩
          ·rw [hb]
           replace ho1989 := itF hb ho1989
           refine gq (v := .pointer (some ⟨b1388, 2, none⟩)) (Q_fld Tryz.underlying90 rfl ty3 (by decide) rfl rfl) rfl rfl rfl <| gq (v := .int .i64 0) (Q_ldB (k := 4) (cs := [.int .i64 0]) H.ok rfl ty3 rfl rfl rfl (fun _ => rfl) rfl) rfl rfl rfl <| gq (v := .pointer (some ⟨b1410, 2, none⟩)) (Q_fld Tryz.underlying90 rfl ty3 (by decide) rfl rfl) rfl rfl rfl <| gq (v := .int .i64 x1700) (Q_ldB (k := 0) (cs := [.int .i64 x1700]) H.ok rfl ty3 rfl rfl rfl (fun _ => rfl) rfl) rfl rfl rfl <| gq (Q_neq rfl rfl) rfl rfl rfl <| nq (Q_pickF rfl rfl) rfl rfl <| nq (Q_move rfl) rfl rfl ?_
           rcases Bool.eq_false_or_eq_true (0 != x1700) with hb | hb
           ·rw [hb]
            replace ho1989 := itT hb ho1989
            refine gs rfl rfl rfl rfl <| gs rfl rfl rfl rfl <| gs rfl rfl rfl rfl <| gs rfl rfl rfl rfl <| gs rfl rfl rfl rfl <| nq (Q_pickT rfl rfl) rfl rfl <| WL_nil ?_
            replace H := H.e5.e4.e1.e0
            obtain rfl := Option.some.inj ho1989
            refine x_A fun a hf => ⟨true, rfl, hf.sub ⟨rfl, rfl, rfl, rfl, rfl, trivial⟩, H⟩
           ·rw [hb]
            replace ho1989 := itF hb ho1989
            refine gq (v := .pointer (some ⟨b1388, 3, none⟩)) (Q_fld Tryz.underlying90 rfl ty3 (by decide) rfl rfl) rfl rfl rfl <| gq (v := .int .i64 0) (Q_ldB (k := 4) (cs := [.int .i64 0]) H.ok rfl ty3 rfl rfl rfl (fun _ => rfl) rfl) rfl rfl rfl <| gq (v := .pointer (some ⟨b1410, 3, none⟩)) (Q_fld Tryz.underlying90 rfl ty3 (by decide) rfl rfl) rfl rfl rfl <| gq (v := .int .i64 x1701) (Q_ldB (k := 0) (cs := [.int .i64 x1701]) H.ok rfl ty3 rfl rfl rfl (fun _ => rfl) rfl) rfl rfl rfl <| gq (Q_neq rfl rfl) rfl rfl rfl <| nq (Q_pickF rfl rfl) rfl rfl <| WL_nil ?_
            replace H := H.e5.e4.e1.e0
            obtain rfl := Option.some.inj ho1989
            refine x_A fun a hf => ⟨0 != x1701, rfl, hf.sub ⟨rfl, rfl, rfl, rfl, rfl, trivial⟩, H⟩
       ·rintro a wd1992 ⟨x1988, rfl, hf, H⟩
        try dsimp only at hF
        refine CW.at hf ?_
        refine C_cond rfl (fun hb => ?_) (fun hb => ?_)
        ·replace hF := itT hb hF
         refine C_seq <| R_nd <| nq (Q_assign rfl) rfl rfl <| WL_nil <| x_then <| C_ret <| x_then_ret ?_
         replace H := H.e1.e0
         obtain rfl := Option.some.inj hF
         exact fn_ret (l := [.tmp 4]) (vs := [.bool false]) rfl rfl rfl ⟨ρ, false, rfl, rfl, (View.le_trans lw1350 lw1379), H⟩
        ·replace hF := itF hb hF
         refine C_skip <| x_then ?_
         obtain ⟨o2009, ho2009, hF⟩ := bnd hF
         refine C_cut (fun a w' => ∃ (ρ' : View) (x2008 : Bool), View.le ρ ρ' ∧ x2008 = o2009 ∧ Fr 148 a [(4, .bool x2008)] ∧ Hp C w' ρ' (hs)) ?_ ?_
         ·refine R_nd <| nq (v := .agg #[v1, v4, v7]) (Q_ldB (k := 0) (cs := [v1, v4, v7]) H.ok rfl ty78 rfl rfl rfl (fun h => nomatch h) rfl) rfl rfl <| nq (v := .agg #[v10, v13, v16]) (Q_ldB (k := 1) (cs := [v10, v13, v16]) H.ok rfl ty78 rfl rfl rfl (fun h => nomatch h) rfl) rfl rfl ?_
          obtain ⟨q2010, hq2010, ho2009⟩ := bnd ho2009
          refine ne (E_call fn54 rfl (c_54 H gle  r3 r6 r9 r12 r15 r18 hq2010)) rfl rfl ?_
          rintro _ wd2014 ⟨ρ, x2012, rfl, rfl, lw2013, H⟩
          try dsimp only at ho2009
          replace r3 := RdSl.up lw2013 r3
          replace r6 := RdSl.up lw2013 r6
          replace r9 := RdSl.up lw2013 r9
          replace r12 := RdSl.up lw2013 r12
          replace r15 := RdSl.up lw2013 r15
          replace r18 := RdSl.up lw2013 r18
          replace gle := GErrs.up lw2013 gle
          replace gl18 := GTab.up lw2013 gl18
          refine nq (Q_move rfl) rfl rfl <| nq (Q_move rfl) rfl rfl ?_
          rcases Bool.eq_false_or_eq_true x1694 with hb | hb
          ·rw [hb]
           replace ho2009 := itT hb ho2009
           refine gq (Q_move rfl) rfl rfl rfl <| gq (Q_not rfl) rfl rfl rfl <| nq (Q_pickT rfl rfl) rfl rfl <| nq (v := .bool (x2012 == (!x1702))) (Q_eqlB Tryz.underlying4 rfl rfl) rfl rfl <| nq (Q_move rfl) rfl rfl ?_
           rcases Bool.eq_false_or_eq_true (x2012 == (!x1702)) with hb | hb
           ·rw [hb]
            replace ho2009 := itT hb ho2009
            refine gq (v := .agg #[v1, v4, v7]) (Q_ldB (k := 0) (cs := [v1, v4, v7]) H.ok rfl ty78 rfl rfl rfl (fun h => nomatch h) rfl) rfl rfl rfl <| gq (v := .agg #[v10, v13, v16]) (Q_ldB (k := 1) (cs := [v10, v13, v16]) H.ok rfl ty78 rfl rfl rfl (fun h => nomatch h) rfl) rfl rfl rfl ?_
            obtain ⟨q2015, hq2015, ho2009⟩ := bnd ho2009
            refine ge (E_call fn55 rfl (c_55 H gle  r3 r6 r9 r12 r15 r18 hq2015)) rfl rfl rfl ?_
            rintro _ wd2019 ⟨ρ, x2017, rfl, rfl, lw2018, H⟩
            try dsimp only at ho2009
            replace r3 := RdSl.up lw2018 r3
            replace r6 := RdSl.up lw2018 r6
            replace r9 := RdSl.up lw2018 r9
            replace r12 := RdSl.up lw2018 r12
            replace r15 := RdSl.up lw2018 r15
            replace r18 := RdSl.up lw2018 r18
            replace gle := GErrs.up lw2018 gle
            replace gl18 := GTab.up lw2018 gl18
            refine gq (Q_move rfl) rfl rfl rfl <| gq (Q_move rfl) rfl rfl rfl <| gq (Q_move rfl) rfl rfl rfl <| gq (Q_not rfl) rfl rfl rfl <| gq (Q_pickT rfl rfl) rfl rfl rfl <| gq (Q_move rfl) rfl rfl rfl ?_
            rcases Bool.eq_false_or_eq_true (!x1702) with hb | hb
            ·rw [hb]
             replace ho2009 := itT hb ho2009
             refine gq (v := .pointer (some ⟨b1343, 0, none⟩)) (Q_fld Tryz.underlying78 rfl ty76 (by decide) rfl rfl) rfl rfl rfl <| gq (v := v1) (Q_ldB (k := 0) (cs := [v1]) H.ok rfl ty76 rfl rfl rfl (fun _ => rfl) rfl) rfl rfl rfl <| gq (Q_len Tryz.underlying76 rfl r3) rfl rfl rfl <| gq (v := .pointer (some ⟨b1345, 0, none⟩)) (Q_fld Tryz.underlying78 rfl ty76 (by decide) rfl rfl) rfl rfl rfl <| gq (v := v10) (Q_ldB (k := 1) (cs := [v10]) H.ok rfl ty76 rfl rfl rfl (fun _ => rfl) rfl) rfl rfl rfl <| gq (Q_len Tryz.underlying76 rfl r12) rfl rfl rfl <| gq (Q_lss rfl rfl) rfl rfl rfl <| gq (Q_pickT rfl rfl) rfl rfl rfl <| gq (v := .bool (x2017 == (decide ((x2.length : Int) < (x11.length : Int))))) (Q_eqlB Tryz.underlying4 rfl rfl) rfl rfl rfl <| nq (Q_pickT rfl rfl) rfl rfl <| nq (Q_assign rfl) rfl rfl <| WL_nil ?_
             replace H := H.e1.e0
             obtain rfl := Option.some.inj ho2009
             refine x_A fun a hf => ⟨ρ, x2017 == (decide ((x2.length : Int) < (x11.length : Int))), (View.le_trans lw2013 lw2018), rfl, hf.sub ⟨rfl, trivial⟩, H⟩
            ·rw [hb]
             replace ho2009 := itF hb ho2009
             refine gs rfl rfl rfl rfl <| gs rfl rfl rfl rfl <| gs rfl rfl rfl rfl <| gs rfl rfl rfl rfl <| gs rfl rfl rfl rfl <| gs rfl rfl rfl rfl <| gs rfl rfl rfl rfl <| gq (Q_pickF rfl rfl) rfl rfl rfl <| gq (v := .bool (x2017 == false)) (Q_eqlB Tryz.underlying4 rfl rfl) rfl rfl rfl <| nq (Q_pickT rfl rfl) rfl rfl <| nq (Q_assign rfl) rfl rfl <| WL_nil ?_
             replace H := H.e1.e0
             obtain rfl := Option.some.inj ho2009
             refine x_A fun a hf => ⟨ρ, x2017 == false, (View.le_trans lw2013 lw2018), rfl, hf.sub ⟨rfl, trivial⟩, H⟩
           ·rw [hb]
            replace ho2009 := itF hb ho2009
            refine gs rfl rfl rfl rfl <| gs rfl rfl rfl rfl <| gs rfl rfl rfl rfl <| gs rfl rfl rfl rfl <| gs rfl rfl rfl rfl <| gsu rfl ⟨_, _, rfl, rfl, rfl⟩ rfl <| gsu rfl ⟨_, _, rfl, rfl, rfl⟩ rfl <| gs rfl rfl rfl rfl <| gs rfl rfl rfl rfl <| gsu rfl ⟨_, _, rfl, rfl, rfl⟩ rfl <| gsu rfl ⟨_, _, rfl, rfl, rfl⟩ rfl <| gsu rfl ⟨_, _, rfl, rfl, rfl⟩ rfl <| gsu rfl ⟨_, _, rfl, rfl, rfl⟩ rfl <| gsu rfl ⟨_, _, rfl, rfl, rfl⟩ rfl ?_
            refine gsu rfl ⟨_, _, rfl, rfl, rfl⟩ rfl <| gsu rfl ⟨_, _, rfl, rfl, rfl⟩ rfl <| gs rfl rfl rfl rfl <| gs rfl rfl rfl rfl <| nq (Q_pickF rfl rfl) rfl rfl <| nq (Q_assign rfl) rfl rfl <| WL_nil ?_
            replace H := H.e1.e0
            obtain rfl := Option.some.inj ho2009
            refine x_A fun a hf => ⟨ρ, false, lw2013, rfl, hf.sub ⟨rfl, trivial⟩, H⟩
          ·rw [hb]
           replace ho2009 := itF hb ho2009
           refine gs rfl rfl rfl rfl <| gs rfl rfl rfl rfl <| nq (Q_pickF rfl rfl) rfl rfl <| nq (v := .bool (x2012 == false)) (Q_eqlB Tryz.underlying4 rfl rfl) rfl rfl <| nq (Q_move rfl) rfl rfl ?_
           rcases Bool.eq_false_or_eq_true (x2012 == false) with hb | hb
           ·rw [hb]
            replace ho2009 := itT hb ho2009
            refine gq (v := .agg #[v1, v4, v7]) (Q_ldB (k := 0) (cs := [v1, v4, v7]) H.ok rfl ty78 rfl rfl rfl (fun h => nomatch h) rfl) rfl rfl rfl <| gq (v := .agg #[v10, v13, v16]) (Q_ldB (k := 1) (cs := [v10, v13, v16]) H.ok rfl ty78 rfl rfl rfl (fun h => nomatch h) rfl) rfl rfl rfl ?_
            obtain ⟨q2020, hq2020, ho2009⟩ := bnd ho2009
            refine ge (E_call fn55 rfl (c_55 H gle  r3 r6 r9 r12 r15 r18 hq2020)) rfl rfl rfl ?_
            rintro _ wd2024 ⟨ρ, x2022, rfl, rfl, lw2023, H⟩
            try dsimp only at ho2009
            replace r3 := RdSl.up lw2023 r3
            replace r6 := RdSl.up lw2023 r6
            replace r9 := RdSl.up lw2023 r9
            replace r12 := RdSl.up lw2023 r12
            replace r15 := RdSl.up lw2023 r15
            replace r18 := RdSl.up lw2023 r18
            replace gle := GErrs.up lw2023 gle
            replace gl18 := GTab.up lw2023 gl18
            refine gq (Q_move rfl) rfl rfl rfl <| gq (Q_move rfl) rfl rfl rfl <| gs rfl rfl rfl rfl <| gs rfl rfl rfl rfl <| gq (Q_pickF rfl rfl) rfl rfl rfl <| gq (Q_move rfl) rfl rfl rfl <| gs rfl rfl rfl rfl <| gs rfl rfl rfl rfl <| gs rfl rfl rfl rfl <| gs rfl rfl rfl rfl <| gs rfl rfl rfl rfl <| gs rfl rfl rfl rfl <| gs rfl rfl rfl rfl <| gq (Q_pickF rfl rfl) rfl rfl rfl ?_
            refine gq (v := .bool (x2022 == false)) (Q_eqlB Tryz.underlying4 rfl rfl) rfl rfl rfl <| nq (Q_pickT rfl rfl) rfl rfl <| nq (Q_assign rfl) rfl rfl <| WL_nil ?_
            replace H := H.e1.e0
            obtain rfl := Option.some.inj ho2009
            refine x_A fun a hf => ⟨ρ, x2022 == false, (View.le_trans lw2013 lw2023), rfl, hf.sub ⟨rfl, trivial⟩, H⟩
           ·rw [hb]
            replace ho2009 := itF hb ho2009
            refine gs rfl rfl rfl rfl <| gs rfl rfl rfl rfl <| gs rfl rfl rfl rfl <| gs rfl rfl rfl rfl <| gs rfl rfl rfl rfl <| gsu rfl ⟨_, _, rfl, rfl, rfl⟩ rfl <| gsu rfl ⟨_, _, rfl, rfl, rfl⟩ rfl <| gs rfl rfl rfl rfl <| gs rfl rfl rfl rfl <| gsu rfl ⟨_, _, rfl, rfl, rfl⟩ rfl <| gsu rfl ⟨_, _, rfl, rfl, rfl⟩ rfl <| gsu rfl ⟨_, _, rfl, rfl, rfl⟩ rfl <| gsu rfl ⟨_, _, rfl, rfl, rfl⟩ rfl <| gsu rfl ⟨_, _, rfl, rfl, rfl⟩ rfl ?_
            refine gsu rfl ⟨_, _, rfl, rfl, rfl⟩ rfl <| gsu rfl ⟨_, _, rfl, rfl, rfl⟩ rfl <| gs rfl rfl rfl rfl <| gs rfl rfl rfl rfl <| nq (Q_pickF rfl rfl) rfl rfl <| nq (Q_assign rfl) rfl rfl <| WL_nil ?_
            replace H := H.e1.e0
            obtain rfl := Option.some.inj ho2009
            refine x_A fun a hf => ⟨ρ, false, lw2013, rfl, hf.sub ⟨rfl, trivial⟩, H⟩
         ·rintro a wd2025 ⟨ρ, x2008, lw2026, rfl, hf, H⟩
          try dsimp only at hF
          replace gle := GErrs.up lw2026 gle
          replace gl18 := GTab.up lw2026 gl18
          refine CW.at hf <| C_ret ?_
          obtain rfl := Option.some.inj hF
          exact fn_ret (l := [.tmp 4]) (vs := [.bool x2008]) rfl rfl rfl ⟨ρ, x2008, rfl, rfl, (View.le_trans lw1350 (View.le_trans lw1379 lw2026)), H⟩
    ·try dsimp only at hF
     replace r3 := RdSl.up lw1385 r3
     replace r6 := RdSl.up lw1385 r6
     replace r9 := RdSl.up lw1385 r9
     replace r12 := RdSl.up lw1385 r12
     replace r15 := RdSl.up lw1385 r15
     replace r18 := RdSl.up lw1385 r18
     replace r1358 := rdL.up lw1385 r1358
     replace r1369 := rdL.up lw1385 r1369
     replace gle := GErrs.up lw1385 gle
     replace gl18 := GTab.up lw1385 gl18
     refine nq (Q_move rfl) rfl rfl <| nq (Q_extract rfl rfl) rfl rfl <| nq (Q_extract rfl rfl) rfl rfl <| ne (E_alloc H ty90 (zs := [.int .i64 0, .slice none 0 0, .int .i64 0, .int .i64 0]) rfl) rfl rfl ?_
     rintro _ wd2028 ⟨b2027, rfl, H⟩
     refine ne (E_stB (k := 0) (cs := [.int .i64 x1381, v1380, .int .i64 x1383, .int .i64 x1384]) (vs' := [.int .i64 x1381, v1380, .int .i64 x1383, .int .i64 x1384]) H rfl ty90 rfl rfl rfl rfl (one_cons rfl (one_cons (RdSl.one r1386) (one_cons rfl (one_cons rfl one_nil)))) (by simp) rfl) rfl rfl ?_
     rintro _ wd2029 H
     dsimp only [List.set] at H
     refine nq (Q_assign rfl) rfl rfl <| WL_nil <| x_then ?_
     obtain ⟨o2039, ho2039, hF⟩ := bnd hF
     refine C_cut (fun a w' => ∃ (x2038 : Bool), x2038 = o2039 ∧ Fr 148 a [(2, .pointer (some ⟨b1343, 0, none⟩)), (3, .pointer (some ⟨b1345, 0, none⟩)), (5, .pointer (some ⟨b1360, 0, none⟩)), (7, .pointer (some ⟨b1371, 0, none⟩)), (9, .pointer (some ⟨b2027, 0, none⟩)), (10, .bool true), (11, .bool x2038)] ∧ Hp C w' ρ (Box b1343 [v1, v4, v7] :: Box b1345 [v10, v13, v16] :: Box b1360 [v1354, v4, v7] :: Arr v1354 256 c1355 :: Box b1371 [v1365, v13, v16] :: Arr v1365 256 c1366 :: Box b2027 [.int .i64 x1381, v1380, .int .i64 x1383, .int .i64 x1384] :: hs)) ?_ ?_
     ·refine R_nd <| nq (v := .agg #[v1354, v4, v7]) (Q_ldB (k := 3) (cs := [v1354, v4, v7]) H.ok rfl ty81 rfl rfl rfl (fun h => nomatch h) rfl) rfl rfl ?_
      replace H := H.f4
      obtain ⟨q2040, hq2040, ho2039⟩ := bnd ho2039
      obtain ⟨C', ρ', hl2041, HA, hL, hback⟩ := Hp.lend (A := []) (L := [Arr v1354 256 c1355]) (F := Box b2027 [.int .i64 x1381, v1380, .int .i64 x1383, .int .i64 x1384] :: Box b1343 [v1, v4, v7] :: Box b1345 [v10, v13, v16] :: Box b1360 [v1354, v4, v7] :: Box b1371 [v1365, v13, v16] :: Arr v1365 256 c1366 :: hs) H
      refine ne (E_call fn52 rfl (c_52 HA (gle.up hl2041)  (arr_rd (by decide) hl2041 (hL (Arr v1354 256 c1355) (by simp)) r1358) (r6.up hl2041) (r9.up hl2041) hq2040)) rfl rfl ?_
      rintro _ wd2043 ⟨x2042, rfl, rfl, H⟩
      try dsimp only at ho2039
      replace H := hback H
      dsimp only [List.cons_append, List.nil_append] at H
      refine nq (Q_move rfl) rfl rfl ?_
      rcases Bool.eq_false_or_eq_true x2042 with hb | hb
      ·rw [hb]
       replace ho2039 := itT hb ho2039
       refine gq (v := .agg #[v1365, v13, v16]) (Q_ldB (k := 5) (cs := [v1365, v13, v16]) H.ok rfl ty81 rfl rfl rfl (fun h => nomatch h) rfl) rfl rfl rfl ?_
       replace H := H.f6
       obtain ⟨q2044, hq2044, ho2039⟩ := bnd ho2039
       obtain ⟨C', ρ', hl2045, HA, hL, hback⟩ := Hp.lend (A := []) (L := [Arr v1365 256 c1366]) (F := Arr v1354 256 c1355 :: Box b2027 [.int .i64 x1381, v1380, .int .i64 x1383, .int .i64 x1384] :: Box b1343 [v1, v4, v7] :: Box b1345 [v10, v13, v16] :: Box b1360 [v1354, v4, v7] :: Box b1371 [v1365, v13, v16] :: hs) H
       refine ge (E_call fn52 rfl (c_52 HA (gle.up hl2045)  (arr_rd (by decide) hl2045 (hL (Arr v1365 256 c1366) (by simp)) r1369) (r15.up hl2045) (r18.up hl2045) hq2044)) rfl rfl rfl ?_
       rintro _ wd2047 ⟨x2046, rfl, rfl, H⟩
       try dsimp only at ho2039
       replace H := hback H
       dsimp only [List.cons_append, List.nil_append] at H
       refine nq (Q_pickT rfl rfl) rfl rfl <| nq (Q_assign rfl) rfl rfl <| WL_nil ?_
       replace H := H.f6.f2.f6.f6.f6
       obtain rfl := Option.some.inj ho2039
       refine x_A fun a hf => ⟨x2046, rfl, hf.sub ⟨rfl, rfl, rfl, rfl, rfl, rfl, rfl, trivial⟩, H⟩
      ·rw [hb]
       replace ho2039 := itF hb ho2039
       refine gs rfl rfl rfl rfl <| gs rfl rfl rfl rfl <| nq (Q_pickF rfl rfl) rfl rfl <| nq (Q_assign rfl) rfl rfl <| WL_nil ?_
       replace H := H.f6.f6.f2.f6.f6.f6
       obtain rfl := Option.some.inj ho2039
       refine x_A fun a hf => ⟨false, rfl, hf.sub ⟨rfl, rfl, rfl, rfl, rfl, rfl, rfl, trivial⟩, H⟩
     ·rintro a wd2048 ⟨x2038, rfl, hf, H⟩
      try dsimp only at hF
      refine CW.at hf <| C_seq <| R_nd <| nq (v := .agg #[.int .i64 0, .slice none 0 0, .int .i64 0, .int .i64 0]) (Q_buildS st90.choose_spec (ps := []) rfl trivial rfl) rfl rfl <| ne (E_alloc H ty90 (zs := [.int .i64 0, .slice none 0 0, .int .i64 0, .int .i64 0]) rfl) rfl rfl ?_
      rintro _ wd2050 ⟨b2049, rfl, H⟩
      refine ne (E_stB (k := 0) (cs := [.int .i64 0, .slice none 0 0, .int .i64 0, .int .i64 0]) (vs' := [.int .i64 0, .slice none 0 0, .int .i64 0, .int .i64 0]) H rfl ty90 rfl rfl rfl rfl (one_cons rfl (one_cons rfl (one_cons rfl (one_cons rfl one_nil)))) (by simp) rfl) rfl rfl ?_
      rintro _ wd2051 H
      dsimp only [List.set] at H
      refine nq (Q_assign rfl) rfl rfl <| WL_nil <| x_then <| C_seq <| C_seq <| R_nd <| nq (Q_assign rfl) rfl rfl <| WL_nil <| x_then ?_
      obtain ⟨o2342, ho2342, hF⟩ := bnd hF
      refine C_cutQ (fun a w' => ∃ (v2335 : Value) (c2336 : (List Value)) (x2333 : Bool) (x2334 : Int) (x2337 : (List Int)) (x2339 : Int) (x2340 : Int) (x2341 : Bool), (x2333, x2334, x2337, x2339, x2340, x2341) = o2342 ∧ rdL (eI .u8) ρ x2337 c2336 ∧ Fr 148 a [(2, .pointer (some ⟨b1343, 0, none⟩)), (3, .pointer (some ⟨b1345, 0, none⟩)), (9, .pointer (some ⟨b2027, 0, none⟩)), (10, .bool true), (11, .bool x2333), (12, .pointer (some ⟨b2049, 0, none⟩)), (13, .bool x2341)] ∧ Hp C w' ρ (Box b2049 [.int .i64 x2334, v2335, .int .i64 x2339, .int .i64 x2340] :: Arr v2335 1 c2336 :: Box b1343 [v1, v4, v7] :: Box b1345 [v10, v13, v16] :: Box b2027 [.int .i64 x1381, v1380, .int .i64 x1383, .int .i64 x1384] :: hs)) ?_ ?_
      ·refine C_block ?_
       have H := H.nilArr 1
       replace H := H.f1
       refine C_iter (f := fun s => F_dofferlaw21_ProductDiffer_l1 N x5 x8 x14 x17 x1356 x1367 s.1 s.2.1 s.2.2.1 s.2.2.2.1 s.2.2.2.2.1 s.2.2.2.2.2.1 s.2.2.2.2.2.2) ho2342 (fun s a w' => ∃ (v2486 : Value) (c2487 : (List Value)) (x2484 : Bool) (x2485 : Int) (x2488 : (List Int)) (x2490 : Int) (x2491 : Int) (x2492 : Bool) (x2493 : Int), (x2484, x2485, x2488, x2490, x2491, x2492, x2493) = s ∧ rdL (eI .u8) ρ x2488 c2487 ∧ Fr 148 a [(2, .pointer (some ⟨b1343, 0, none⟩)), (3, .pointer (some ⟨b1345, 0, none⟩)), (5, .pointer (some ⟨b1360, 0, none⟩)), (7, .pointer (some ⟨b1371, 0, none⟩)), (9, .pointer (some ⟨b2027, 0, none⟩)), (10, .bool true), (11, .bool x2484), (12, .pointer (some ⟨b2049, 0, none⟩)), (13, .bool x2492), (14, .int .i64 x2493)] ∧ Hp C w' ρ (Box b2049 [.int .i64 x2485, v2486, .int .i64 x2490, .int .i64 x2491] :: Arr v2486 1 c2487 :: Box b1343 [v1, v4, v7] :: Box b1345 [v10, v13, v16] :: Box b1360 [v1354, v4, v7] :: Arr v1354 256 c1355 :: Box b1371 [v1365, v13, v16] :: Arr v1365 256 c1366 :: Box b2027 [.int .i64 x1381, v1380, .int .i64 x1383, .int .i64 x1384] :: hs)) ?_ ?_
       ·exact fun a hf => ⟨(.slice none 0 0), [], x2038, 0, [], 0, 0, false, 0, rfl, rdL.nil, hf.sub ⟨rfl, rfl, rfl, rfl, rfl, rfl, rfl, rfl, rfl, rfl, trivial⟩, H⟩
       ·rintro s o2562 a wd2565 ⟨v2486, c2487, x2484, x2485, x2488, x2490, x2491, x2492, x2493, rfl, r2489, hf, H⟩ hB2563 hO2564
        replace hB2563 : F_dofferlaw21_ProductDiffer_l1 N x5 x8 x14 x17 x1356 x1367 x2484 x2485 x2488 x2490 x2491 x2492 x2493 = some o2562 := hB2563
        unfold F_dofferlaw21_ProductDiffer_l1 at hB2563
        refine CW.at hf <| C_seq ?_
        obtain ⟨o2568, ho2568, hB2563⟩ := bnd hB2563
        refine C_cut (fun a w' => ∃ (x2566 : Bool) (x2567 : Bool), (x2566, x2567) = o2568 ∧ Fr 148 a [(2, .pointer (some ⟨b1343, 0, none⟩)), (3, .pointer (some ⟨b1345, 0, none⟩)), (5, .pointer (some ⟨b1360, 0, none⟩)), (7, .pointer (some ⟨b1371, 0, none⟩)), (9, .pointer (some ⟨b2027, 0, none⟩)), (10, .bool true), (11, .bool x2566), (12, .pointer (some ⟨b2049, 0, none⟩)), (13, .bool x2492), (14, .int .i64 x2493), (68, .bool x2567)] ∧ Hp C w' ρ (Box b2049 [.int .i64 x2485, v2486, .int .i64 x2490, .int .i64 x2491] :: Arr v2486 1 c2487 :: Box b1343 [v1, v4, v7] :: Box b1345 [v10, v13, v16] :: Box b1360 [v1354, v4, v7] :: Arr v1354 256 c1355 :: Box b1371 [v1365, v13, v16] :: Arr v1365 256 c1366 :: Box b2027 [.int .i64 x1381, v1380, .int .i64 x1383, .int .i64 x1384] :: hs)) ?_ ?_
        ·refine R_nd <| nq (Q_move rfl) rfl rfl <| nq (Q_move rfl) rfl rfl ?_
         rcases Bool.eq_false_or_eq_true x2484 with hb | hb
         ·rw [hb]
          replace ho2568 := itT hb ho2568
          refine gq (Q_move rfl) rfl rfl rfl <| gq (Q_not rfl) rfl rfl rfl <| nq (Q_pickT rfl rfl) rfl rfl <| nq (Q_move rfl) rfl rfl ?_
          rcases Bool.eq_false_or_eq_true (!x2492) with hb | hb
          ·rw [hb]
           replace ho2568 := itT hb ho2568
           refine gq (Q_move rfl) rfl rfl rfl <| gq (v := .pointer (some ⟨b1343, 2, none⟩)) (Q_fld Tryz.underlying78 rfl ty23 (by decide) rfl rfl) rfl rfl rfl <| gq (v := v7) (Q_ldB (k := 2) (cs := [v7]) H.ok rfl ty23 rfl rfl rfl (fun _ => rfl) rfl) rfl rfl rfl <| gq (Q_len Tryz.underlying23 rfl r9) rfl rfl rfl <| gq (Q_lss rfl rfl) rfl rfl rfl <| gq (Q_move rfl) rfl rfl rfl ?_
           rcases Bool.eq_false_or_eq_true (decide (x2493 < (x8.length : Int))) with hb | hb
           ·rw [hb]
            replace ho2568 := itT hb ho2568
            refine gs rfl rfl rfl rfl <| gs rfl rfl rfl rfl <| gs rfl rfl rfl rfl <| gs rfl rfl rfl rfl <| gs rfl rfl rfl rfl <| gq (Q_pickT rfl rfl) rfl rfl rfl <| nq (Q_pickT rfl rfl) rfl rfl <| WL_nil ?_
            obtain rfl := Option.some.inj ho2568
            refine x_A fun a hf => ⟨true, true, rfl, hf.sub ⟨rfl, rfl, rfl, rfl, rfl, rfl, rfl, rfl, rfl, rfl, rfl, trivial⟩, H⟩
           ·rw [hb]
            replace ho2568 := itF hb ho2568
            refine gq (Q_move rfl) rfl rfl rfl <| gq (v := .pointer (some ⟨b1345, 2, none⟩)) (Q_fld Tryz.underlying78 rfl ty23 (by decide) rfl rfl) rfl rfl rfl <| gq (v := v16) (Q_ldB (k := 3) (cs := [v16]) H.ok rfl ty23 rfl rfl rfl (fun _ => rfl) rfl) rfl rfl rfl <| gq (Q_len Tryz.underlying23 rfl r18) rfl rfl rfl <| gq (Q_lss rfl rfl) rfl rfl rfl <| gq (Q_pickF rfl rfl) rfl rfl rfl <| nq (Q_pickT rfl rfl) rfl rfl <| WL_nil ?_
            obtain rfl := Option.some.inj ho2568
            refine x_A fun a hf => ⟨true, decide (x2493 < (x17.length : Int)), rfl, hf.sub ⟨rfl, rfl, rfl, rfl, rfl, rfl, rfl, rfl, rfl, rfl, rfl, trivial⟩, H⟩
          ·rw [hb]
           replace ho2568 := itF hb ho2568
           refine gs rfl rfl rfl rfl <| gs rfl rfl rfl rfl <| gs rfl rfl rfl rfl <| gs rfl rfl rfl rfl <| gs rfl rfl rfl rfl <| gs rfl rfl rfl rfl <| gsu rfl ⟨_, _, rfl, rfl, rfl⟩ rfl <| gsu rfl ⟨_, _, rfl, rfl, rfl⟩ rfl <| gsu rfl ⟨_, _, rfl, rfl, rfl⟩ rfl <| gsu rfl ⟨_, _, rfl, rfl, rfl⟩ rfl <| gsu rfl ⟨_, _, rfl, rfl, rfl⟩ rfl <| gs rfl rfl rfl rfl <| nq (Q_pickF rfl rfl) rfl rfl <| WL_nil ?_
           obtain rfl := Option.some.inj ho2568
           refine x_A fun a hf => ⟨true, false, rfl, hf.sub ⟨rfl, rfl, rfl, rfl, rfl, rfl, rfl, rfl, rfl, rfl, rfl, trivial⟩, H⟩
         ·rw [hb]
          replace ho2568 := itF hb ho2568
          refine gs rfl rfl rfl rfl <| gs rfl rfl rfl rfl <| nq (Q_pickF rfl rfl) rfl rfl <| nq (Q_move rfl) rfl rfl <| gs rfl rfl rfl rfl <| gs rfl rfl rfl rfl <| gs rfl rfl rfl rfl <| gs rfl rfl rfl rfl <| gs rfl rfl rfl rfl <| gs rfl rfl rfl rfl <| gsu rfl ⟨_, _, rfl, rfl, rfl⟩ rfl <| gsu rfl ⟨_, _, rfl, rfl, rfl⟩ rfl <| gsu rfl ⟨_, _, rfl, rfl, rfl⟩ rfl <| gsu rfl ⟨_, _, rfl, rfl, rfl⟩ rfl ?_
          refine gsu rfl ⟨_, _, rfl, rfl, rfl⟩ rfl <| gs rfl rfl rfl rfl <| nq (Q_pickF rfl rfl) rfl rfl <| WL_nil ?_
          obtain rfl := Option.some.inj ho2568
          refine x_A fun a hf => ⟨false, false, rfl, hf.sub ⟨rfl, rfl, rfl, rfl, rfl, rfl, rfl, rfl, rfl, rfl, rfl, trivial⟩, H⟩
        ·rintro a wd2569 ⟨x2566, x2567, rfl, hf, H⟩
         try dsimp only at hB2563
         refine CW.at hf ?_
         refine C_cond rfl (fun hb => ?_) (fun hb => ?_)
         ·replace hB2563 := itT hb hB2563
          refine C_skip <| x_then ?_
          obtain ⟨o2600, ho2600, hB2563⟩ := bnd hB2563
          refine C_cut (fun a w' => ∃ (v2593 : Value) (c2594 : (List Value)) (x2592 : Int) (x2595 : (List Int)) (x2597 : Int) (x2598 : Int) (x2599 : Bool), (x2592, x2595, x2597, x2598, x2599) = o2600 ∧ rdL (eI .u8) ρ x2595 c2594 ∧ Fr 148 a [(2, .pointer (some ⟨b1343, 0, none⟩)), (3, .pointer (some ⟨b1345, 0, none⟩)), (5, .pointer (some ⟨b1360, 0, none⟩)), (7, .pointer (some ⟨b1371, 0, none⟩)), (9, .pointer (some ⟨b2027, 0, none⟩)), (10, .bool true), (11, .bool x2566), (12, .pointer (some ⟨b2049, 0, none⟩)), (13, .bool x2599), (14, .int .i64 x2493)] ∧ Hp C w' ρ (Box b2049 [.int .i64 x2592, v2593, .int .i64 x2597, .int .i64 x2598] :: Arr v2593 1 c2594 :: Box b1343 [v1, v4, v7] :: Box b1345 [v10, v13, v16] :: Box b1360 [v1354, v4, v7] :: Arr v1354 256 c1355 :: Box b1371 [v1365, v13, v16] :: Arr v1365 256 c1366 :: Box b2027 [.int .i64 x1381, v1380, .int .i64 x1383, .int .i64 x1384] :: hs)) ?_ ?_
          ·refine C_block <| C_seq <| R_nd <| nq (v := .agg #[v1354, v4, v7]) (Q_ldB (k := 4) (cs := [v1354, v4, v7]) H.ok rfl ty81 rfl rfl rfl (fun h => nomatch h) rfl) rfl rfl <| nq (v := .agg #[v1365, v13, v16]) (Q_ldB (k := 6) (cs := [v1365, v13, v16]) H.ok rfl ty81 rfl rfl rfl (fun h => nomatch h) rfl) rfl rfl <| nq (Q_move rfl) rfl rfl ?_
           replace H := H.f7.f6
           obtain ⟨q2601, hq2601, ho2600⟩ := bnd ho2600
           obtain ⟨C', ρ', hl2602, HA, hL, hback⟩ := Hp.lend (A := []) (L := [Arr v1354 256 c1355, Arr v1365 256 c1366]) (F := Box b2049 [.int .i64 x2485, v2486, .int .i64 x2490, .int .i64 x2491] :: Arr v2486 1 c2487 :: Box b1343 [v1, v4, v7] :: Box b1345 [v10, v13, v16] :: Box b1360 [v1354, v4, v7] :: Box b1371 [v1365, v13, v16] :: Box b2027 [.int .i64 x1381, v1380, .int .i64 x1383, .int .i64 x1384] :: hs) H
           refine ne (E_call fn53 rfl (c_53 HA (gle.up hl2602)  (arr_rd (by decide) hl2602 (hL (Arr v1354 256 c1355) (by simp)) r1358) (r6.up hl2602) (r9.up hl2602) (arr_rd (by decide) hl2602 (hL (Arr v1365 256 c1366) (by simp)) r1369) (r15.up hl2602) (r18.up hl2602) hq2601)) rfl rfl ?_
           rintro _ wd2610 ⟨v2603, c2604, x2605, x2606, x2607, x2608, rfl, rfl, r2609, H⟩
           try dsimp only at ho2600
           replace H := hback H
           replace r2609 := rdL.flat (ρ := ρ') (ρ' := ρ) (flat_I _) r2609
           dsimp only [List.cons_append, List.nil_append] at H
           refine nq (Q_move rfl) rfl rfl <| nq (Q_extract rfl rfl) rfl rfl <| nq (Q_extract rfl rfl) rfl rfl <| nq (Q_extract rfl rfl) rfl rfl <| nq (Q_extract rfl rfl) rfl rfl <| nq (Q_assign rfl) rfl rfl <| nq (Q_assign rfl) rfl rfl <| nq (Q_assign rfl) rfl rfl <| nq (Q_assign rfl) rfl rfl <| WL_nil <| x_then <| C_seq <| R_nd <| nq (Q_move rfl) rfl rfl ?_
           refine WL_nil <| x_then ?_
           obtain ⟨o2620, ho2620, ho2600⟩ := bnd ho2600
           refine C_cutQ (fun a w' => ∃ (v2613 : Value) (c2614 : (List Value)) (x2612 : Int) (x2615 : (List Int)) (x2617 : Int) (x2618 : Int) (x2619 : Bool), (x2612, x2615, x2617, x2618, x2619) = o2620 ∧ rdL (eI .u8) ρ x2615 c2614 ∧ Fr 148 a [(2, .pointer (some ⟨b1343, 0, none⟩)), (3, .pointer (some ⟨b1345, 0, none⟩)), (5, .pointer (some ⟨b1360, 0, none⟩)), (7, .pointer (some ⟨b1371, 0, none⟩)), (9, .pointer (some ⟨b2027, 0, none⟩)), (10, .bool true), (11, .bool x2566), (12, .pointer (some ⟨b2049, 0, none⟩)), (13, .bool x2619), (14, .int .i64 x2493)] ∧ Hp C w' ρ (Box b2049 [.int .i64 x2612, v2613, .int .i64 x2617, .int .i64 x2618] :: Arr v2613 1 c2614 :: Box b1343 [v1, v4, v7] :: Box b1345 [v10, v13, v16] :: Box b1360 [v1354, v4, v7] :: Arr v1354 256 c1355 :: Box b1371 [v1365, v13, v16] :: Arr v1365 256 c1366 :: Box b2027 [.int .i64 x1381, v1380, .int .i64 x1383, .int .i64 x1384] :: hs)) ?_ ?_
           ·refine C_cond rfl (fun hb => ?_) (fun hb => ?_)
            ·replace ho2620 := itT hb ho2620
             refine R_nd <| nq (Q_move rfl) rfl rfl <| nq (Q_move rfl) rfl rfl <| nq (Q_move rfl) rfl rfl <| nq (Q_move rfl) rfl rfl <| nq (v := .agg #[.int .i64 x2493, v2603, .int .i64 x2606, .int .i64 x2607]) (Q_buildS st90.choose_spec (ps := [(0, [.int .i64 x2493]), (1, [v2603]), (2, [.int .i64 x2606]), (3, [.int .i64 x2607])]) rfl ⟨rfl, rfl, by simp, ⟨rfl, (arr_cells (H.ok.get (k := 0) rfl)).1, by simp, ⟨rfl, rfl, by simp, ⟨rfl, rfl, by simp, trivial⟩⟩⟩⟩ rfl) rfl rfl <| ne (E_stB (k := 3) (cs := [.int .i64 x2493, v2603, .int .i64 x2606, .int .i64 x2607]) (vs' := [.int .i64 x2493, v2603, .int .i64 x2606, .int .i64 x2607]) H rfl ty90 rfl rfl rfl rfl (one_cons rfl (one_cons (arr_cells (H.ok.get (k := 0) rfl)).2 (one_cons rfl (one_cons rfl one_nil)))) (by simp) rfl) rfl rfl ?_
             rintro _ wd2621 H
             dsimp only [List.set] at H
             refine nq (Q_assign rfl) rfl rfl <| WL_nil ?_
             replace H := H.e4.f7.f2.f7.f7.f7.f5.f7
             obtain rfl := Option.some.inj ho2620
             refine x_A fun a hf => ⟨v2603, c2604, x2493, x2605, x2606, x2607, true, rfl, r2609, hf.sub ⟨rfl, rfl, rfl, rfl, rfl, rfl, rfl, rfl, rfl, rfl, trivial⟩, H⟩
            ·replace ho2620 := itF hb ho2620
             refine C_skip ?_
             replace H := H.e0.f7.f1.f7.f7.f7.f7.f7
             obtain rfl := Option.some.inj ho2620
             refine x_A fun a hf => ⟨v2486, c2487, x2485, x2488, x2490, x2491, x2492, rfl, r2489, hf.sub ⟨rfl, rfl, rfl, rfl, rfl, rfl, rfl, rfl, rfl, rfl, trivial⟩, H⟩
           ·rintro a wd2622 ⟨v2613, c2614, x2612, x2615, x2617, x2618, x2619, rfl, r2616, hf, H⟩
            try dsimp only at ho2600
            refine XX.at hf <| x_block ?_
            obtain rfl := Option.some.inj ho2600
            refine x_A fun a hf => ⟨v2613, c2614, x2612, x2615, x2617, x2618, x2619, rfl, r2616, hf.sub ⟨rfl, rfl, rfl, rfl, rfl, rfl, rfl, rfl, rfl, rfl, trivial⟩, H⟩
          ·rintro a wd2623 ⟨v2593, c2594, x2592, x2595, x2597, x2598, x2599, rfl, r2596, hf, H⟩
           try dsimp only at hB2563
           refine CW.at hf <| R_nd <| nq (Q_move rfl) rfl rfl <| nq (Q_add rfl rfl) rfl rfl <| nq (Q_assign rfl) rfl rfl <| WL_nil ?_
           obtain rfl := Option.some.inj hB2563
           refine x_A fun a hf => ⟨_, rfl, v2593, c2594, x2566, x2592, x2595, x2597, x2598, x2599, w64 (x2493 + 1), rfl, r2596, hf.sub ⟨rfl, rfl, rfl, rfl, rfl, rfl, rfl, rfl, rfl, rfl, trivial⟩, H⟩
         ·replace hB2563 := itF hb hB2563
          refine C_exit <| x_then_exit <| x_then_exit <| x_block_exit ?_
          replace H := H.e7.e6.e5.e4
          obtain rfl := Option.some.inj hB2563
          obtain rfl := hO2564 _ rfl
          refine x_A fun a hf => ⟨v2486, c2487, x2566, x2485, x2488, x2490, x2491, x2492, rfl, r2489, hf.sub ⟨rfl, rfl, rfl, rfl, rfl, rfl, rfl, trivial⟩, H⟩
      ·rintro a wd2624 ⟨v2335, c2336, x2333, x2334, x2337, x2339, x2340, x2341, rfl, r2338, hf, H⟩
       try dsimp only at hF
       refine XX.at hf <| x_then <| C_seq ?_
       obtain ⟨o2628, ho2628, hF⟩ := bnd hF
       refine C_cut (fun a w' => ∃ (x2627 : Bool), x2627 = o2628 ∧ Fr 148 a [(2, .pointer (some ⟨b1343, 0, none⟩)), (3, .pointer (some ⟨b1345, 0, none⟩)), (11, .bool x2333), (13, .bool x2341), (118, .bool x2627)] ∧ Hp C w' ρ (Box b1343 [v1, v4, v7] :: Box b1345 [v10, v13, v16] :: hs)) ?_ ?_
       ·refine R_nd <| nq (Q_move rfl) rfl rfl <| nq (Q_move rfl) rfl rfl <| nq (v := .bool (true != x2341)) (Q_neqB Tryz.underlying4 rfl rfl) rfl rfl <| nq (Q_move rfl) rfl rfl ?_
        rcases Bool.eq_false_or_eq_true (true != x2341) with hb | hb
        ·rw [hb]
         replace ho2628 := itT hb ho2628
         refine gs rfl rfl rfl rfl <| gs rfl rfl rfl rfl <| gs rfl rfl rfl rfl <| gs rfl rfl rfl rfl <| gs rfl rfl rfl rfl <| nq (Q_pickT rfl rfl) rfl rfl <| nq (Q_move rfl) rfl rfl <| gs rfl rfl rfl rfl <| gs rfl rfl rfl rfl <| gs rfl rfl rfl rfl <| gs rfl rfl rfl rfl <| gs rfl rfl rfl rfl <| gs rfl rfl rfl rfl <| gs rfl rfl rfl rfl ?_
         refine nq (Q_pickT rfl rfl) rfl rfl <| nq (Q_move rfl) rfl rfl <| gs rfl rfl rfl rfl <| gs rfl rfl rfl rfl <| gs rfl rfl rfl rfl <| gs rfl rfl rfl rfl <| gs rfl rfl rfl rfl <| nq (Q_pickT rfl rfl) rfl rfl <| nq (Q_move rfl) rfl rfl <| gs rfl rfl rfl rfl <| gs rfl rfl rfl rfl <| gs rfl rfl rfl rfl <| gs rfl rfl rfl rfl <| gs rfl rfl rfl rfl ?_
         refine nq (Q_pickT rfl rfl) rfl rfl <| WL_nil ?_
         replace H := H.e4.e1.e0
         obtain rfl := Option.some.inj ho2628
         refine x_A fun a hf => ⟨true, rfl, hf.sub ⟨rfl, rfl, rfl, rfl, rfl, trivial⟩, H⟩
        ·rw [hb]
         replace ho2628 := itF hb ho2628
         refine gq (v := .pointer (some ⟨b2027, 0, none⟩)) (Q_fld Tryz.underlying90 rfl ty3 (by decide) rfl rfl) rfl rfl rfl <| gq (v := .int .i64 x1381) (Q_ldB (k := 4) (cs := [.int .i64 x1381]) H.ok rfl ty3 rfl rfl rfl (fun _ => rfl) rfl) rfl rfl rfl <| gq (v := .pointer (some ⟨b2049, 0, none⟩)) (Q_fld Tryz.underlying90 rfl ty3 (by decide) rfl rfl) rfl rfl rfl <| gq (v := .int .i64 x2334) (Q_ldB (k := 0) (cs := [.int .i64 x2334]) H.ok rfl ty3 rfl rfl rfl (fun _ => rfl) rfl) rfl rfl rfl <| gq (Q_neq rfl rfl) rfl rfl rfl <| nq (Q_pickF rfl rfl) rfl rfl <| nq (Q_move rfl) rfl rfl ?_
         rcases Bool.eq_false_or_eq_true (x1381 != x2334) with hb | hb
         ·rw [hb]
          replace ho2628 := itT hb ho2628
          refine gs rfl rfl rfl rfl <| gs rfl rfl rfl rfl <| gs rfl rfl rfl rfl <| gs rfl rfl rfl rfl <| gs rfl rfl rfl rfl <| gs rfl rfl rfl rfl <| gs rfl rfl rfl rfl <| nq (Q_pickT rfl rfl) rfl rfl <| nq (Q_move rfl) rfl rfl <| gs rfl rfl rfl rfl <| gs rfl rfl rfl rfl <| gs rfl rfl rfl rfl <| gs rfl rfl rfl rfl <| gs rfl rfl rfl rfl ?_
          refine nq (Q_pickT rfl rfl) rfl rfl <| nq (Q_move rfl) rfl rfl <| gs rfl rfl rfl rfl <| gs rfl rfl rfl rfl <| gs rfl rfl rfl rfl <| gs rfl rfl rfl rfl <| gs rfl rfl rfl rfl <| nq (Q_pickT rfl rfl) rfl rfl <| WL_nil ?_
          replace H := H.e4.e1.e0
          obtain rfl := Option.some.inj ho2628
          refine x_A fun a hf => ⟨true, rfl, hf.sub ⟨rfl, rfl, rfl, rfl, rfl, trivial⟩, H⟩
         ·rw [hb]
          replace ho2628 := itF hb ho2628
          refine gq (v := .pointer (some ⟨b2027, 1, none⟩)) (Q_fld Tryz.underlying90 rfl ty42 (by decide) rfl rfl) rfl rfl rfl <| gq (v := v1380) (Q_ldB (k := 4) (cs := [v1380]) H.ok rfl ty42 rfl rfl rfl (fun _ => rfl) rfl) rfl rfl rfl <| ge (E_bstrR H Tryz.underlying42 Tryz.underlying5 Tryz.underlying9 rfl r1386) rfl rfl rfl ?_
          rintro _ wd2629 ⟨rfl, rfl⟩
          refine gq (v := .pointer (some ⟨b2049, 1, none⟩)) (Q_fld Tryz.underlying90 rfl ty42 (by decide) rfl rfl) rfl rfl rfl <| gq (v := v2335) (Q_ldB (k := 0) (cs := [v2335]) H.ok rfl ty42 rfl rfl rfl (fun _ => rfl) rfl) rfl rfl rfl <| ge (E_bstrA (k := 1) H rfl r2338 Tryz.underlying42 Tryz.underlying5 Tryz.underlying9 rfl) rfl rfl rfl ?_
          rintro _ wd2630 ⟨rfl, rfl⟩
          refine gq (v := .bool ((bstr x1382).toList != (bstr x2337).toList)) (Q_neqStr Tryz.underlying9 rfl rfl) rfl rfl rfl <| nq (Q_pickF rfl rfl) rfl rfl <| nq (Q_move rfl) rfl rfl ?_
          rcases Bool.eq_false_or_eq_true ((bstr x1382).toList != (bstr x2337).toList) with hb | hb
          ·rw [hb]
           replace ho2628 := itT hb ho2628
           refine gs rfl rfl rfl rfl <| gs rfl rfl rfl rfl <| gs rfl rfl rfl rfl <| gs rfl rfl rfl rfl <| gs rfl rfl rfl rfl <| nq (Q_pickT rfl rfl) rfl rfl <| nq (Q_move rfl) rfl rfl <| gs rfl rfl rfl rfl <| gs rfl rfl rfl rfl <| gs rfl rfl rfl rfl <| gs rfl rfl rfl rfl <| gs rfl rfl rfl rfl <| nq (Q_pickT rfl rfl) rfl rfl <| WL_nil ?_
           replace H := H.e4.e1.e0
           obtain rfl := Option.some.inj ho2628
           refine x_A fun a hf => ⟨true, rfl, hf.sub ⟨rfl, rfl, rfl, rfl, rfl, trivial⟩, H⟩
          ·rw [hb]
           replace ho2628 := itF hb ho2628
           refine gq (v := .pointer (some ⟨b2027, 2, none⟩)) (Q_fld Tryz.underlying90 rfl ty3 (by decide) rfl rfl) rfl rfl rfl <| gq (v := .int .i64 x1383) (Q_ldB (k := 4) (cs := [.int .i64 x1383]) H.ok rfl ty3 rfl rfl rfl (fun _ => rfl) rfl) rfl rfl rfl <| gq (v := .pointer (some ⟨b2049, 2, none⟩)) (Q_fld Tryz.underlying90 rfl ty3 (by decide) rfl rfl) rfl rfl rfl <| gq (v := .int .i64 x2339) (Q_ldB (k := 0) (cs := [.int .i64 x2339]) H.ok rfl ty3 rfl rfl rfl (fun _ => rfl) rfl) rfl rfl rfl <| gq (Q_neq rfl rfl) rfl rfl rfl <| nq (Q_pickF rfl rfl) rfl rfl <| nq (Q_move rfl) rfl rfl ?_
           rcases Bool.eq_false_or_eq_true (x1383 != x2339) with hb | hb
           ·rw [hb]
            replace ho2628 := itT hb ho2628
            refine gs rfl rfl rfl rfl <| gs rfl rfl rfl rfl <| gs rfl rfl rfl rfl <| gs rfl rfl rfl rfl <| gs rfl rfl rfl rfl <| nq (Q_pickT rfl rfl) rfl rfl <| WL_nil ?_
            replace H := H.e4.e1.e0
            obtain rfl := Option.some.inj ho2628
            refine x_A fun a hf => ⟨true, rfl, hf.sub ⟨rfl, rfl, rfl, rfl, rfl, trivial⟩, H⟩
           ·rw [hb]
            replace ho2628 := itF hb ho2628
            refine gq (v := .pointer (some ⟨b2027, 3, none⟩)) (Q_fld Tryz.underlying90 rfl ty3 (by decide) rfl rfl) rfl rfl rfl <| gq (v := .int .i64 x1384) (Q_ldB (k := 4) (cs := [.int .i64 x1384]) H.ok rfl ty3 rfl rfl rfl (fun _ => rfl) rfl) rfl rfl rfl <| gq (v := .pointer (some ⟨b2049, 3, none⟩)) (Q_fld Tryz.underlying90 rfl ty3 (by decide) rfl rfl) rfl rfl rfl <| gq (v := .int .i64 x2340) (Q_ldB (k := 0) (cs := [.int .i64 x2340]) H.ok rfl ty3 rfl rfl rfl (fun _ => rfl) rfl) rfl rfl rfl <| gq (Q_neq rfl rfl) rfl rfl rfl <| nq (Q_pickF rfl rfl) rfl rfl <| WL_nil ?_
            replace H := H.e4.e1.e0
            obtain rfl := Option.some.inj ho2628
            refine x_A fun a hf => ⟨x1384 != x2340, rfl, hf.sub ⟨rfl, rfl, rfl, rfl, rfl, trivial⟩, H⟩
       ·rintro a wd2631 ⟨x2627, rfl, hf, H⟩
        try dsimp only at hF
        refine CW.at hf ?_
        refine C_cond rfl (fun hb => ?_) (fun hb => ?_)
        ·replace hF := itT hb hF
         refine C_seq <| R_nd <| nq (Q_assign rfl) rfl rfl <| WL_nil <| x_then <| C_ret <| x_then_ret ?_
         replace H := H.e1.e0
         obtain rfl := Option.some.inj hF
         exact fn_ret (l := [.tmp 4]) (vs := [.bool false]) rfl rfl rfl ⟨ρ, false, rfl, rfl, (View.le_trans lw1350 lw1385), H⟩
        ·replace hF := itF hb hF
         refine C_skip <| x_then ?_
         obtain ⟨o2648, ho2648, hF⟩ := bnd hF
         refine C_cut (fun a w' => ∃ (ρ' : View) (x2647 : Bool), View.le ρ ρ' ∧ x2647 = o2648 ∧ Fr 148 a [(4, .bool x2647)] ∧ Hp C w' ρ' (hs)) ?_ ?_
         ·refine R_nd <| nq (v := .agg #[v1, v4, v7]) (Q_ldB (k := 0) (cs := [v1, v4, v7]) H.ok rfl ty78 rfl rfl rfl (fun h => nomatch h) rfl) rfl rfl <| nq (v := .agg #[v10, v13, v16]) (Q_ldB (k := 1) (cs := [v10, v13, v16]) H.ok rfl ty78 rfl rfl rfl (fun h => nomatch h) rfl) rfl rfl ?_
          obtain ⟨q2649, hq2649, ho2648⟩ := bnd ho2648
          refine ne (E_call fn54 rfl (c_54 H gle  r3 r6 r9 r12 r15 r18 hq2649)) rfl rfl ?_
          rintro _ wd2653 ⟨ρ, x2651, rfl, rfl, lw2652, H⟩
          try dsimp only at ho2648
          replace r3 := RdSl.up lw2652 r3
          replace r6 := RdSl.up lw2652 r6
          replace r9 := RdSl.up lw2652 r9
          replace r12 := RdSl.up lw2652 r12
          replace r15 := RdSl.up lw2652 r15
          replace r18 := RdSl.up lw2652 r18
          replace gle := GErrs.up lw2652 gle
          replace gl18 := GTab.up lw2652 gl18
          refine nq (Q_move rfl) rfl rfl <| nq (Q_move rfl) rfl rfl ?_
          rcases Bool.eq_false_or_eq_true x2333 with hb | hb
          ·rw [hb]
           replace ho2648 := itT hb ho2648
           refine gq (Q_move rfl) rfl rfl rfl <| gq (Q_not rfl) rfl rfl rfl <| nq (Q_pickT rfl rfl) rfl rfl <| nq (v := .bool (x2651 == (!x2341))) (Q_eqlB Tryz.underlying4 rfl rfl) rfl rfl <| nq (Q_move rfl) rfl rfl ?_
           rcases Bool.eq_false_or_eq_true (x2651 == (!x2341)) with hb | hb
           ·rw [hb]
            replace ho2648 := itT hb ho2648
            refine gq (v := .agg #[v1, v4, v7]) (Q_ldB (k := 0) (cs := [v1, v4, v7]) H.ok rfl ty78 rfl rfl rfl (fun h => nomatch h) rfl) rfl rfl rfl <| gq (v := .agg #[v10, v13, v16]) (Q_ldB (k := 1) (cs := [v10, v13, v16]) H.ok rfl ty78 rfl rfl rfl (fun h => nomatch h) rfl) rfl rfl rfl ?_
            obtain ⟨q2654, hq2654, ho2648⟩ := bnd ho2648
            refine ge (E_call fn55 rfl (c_55 H gle  r3 r6 r9 r12 r15 r18 hq2654)) rfl rfl rfl ?_
            rintro _ wd2658 ⟨ρ, x2656, rfl, rfl, lw2657, H⟩
            try dsimp only at ho2648
            replace r3 := RdSl.up lw2657 r3
            replace r6 := RdSl.up lw2657 r6
            replace r9 := RdSl.up lw2657 r9
            replace r12 := RdSl.up lw2657 r12
            replace r15 := RdSl.up lw2657 r15
            replace r18 := RdSl.up lw2657 r18
            replace gle := GErrs.up lw2657 gle
            replace gl18 := GTab.up lw2657 gl18
            refine gq (Q_move rfl) rfl rfl rfl <| gq (Q_move rfl) rfl rfl rfl <| gq (Q_move rfl) rfl rfl rfl <| gq (Q_not rfl) rfl rfl rfl <| gq (Q_pickT rfl rfl) rfl rfl rfl <| gq (Q_move rfl) rfl rfl rfl ?_
            rcases Bool.eq_false_or_eq_true (!x2341) with hb | hb
            ·rw [hb]
             replace ho2648 := itT hb ho2648
             refine gq (v := .pointer (some ⟨b1343, 0, none⟩)) (Q_fld Tryz.underlying78 rfl ty76 (by decide) rfl rfl) rfl rfl rfl <| gq (v := v1) (Q_ldB (k := 0) (cs := [v1]) H.ok rfl ty76 rfl rfl rfl (fun _ => rfl) rfl) rfl rfl rfl <| gq (Q_len Tryz.underlying76 rfl r3) rfl rfl rfl <| gq (v := .pointer (some ⟨b1345, 0, none⟩)) (Q_fld Tryz.underlying78 rfl ty76 (by decide) rfl rfl) rfl rfl rfl <| gq (v := v10) (Q_ldB (k := 1) (cs := [v10]) H.ok rfl ty76 rfl rfl rfl (fun _ => rfl) rfl) rfl rfl rfl <| gq (Q_len Tryz.underlying76 rfl r12) rfl rfl rfl <| gq (Q_lss rfl rfl) rfl rfl rfl <| gq (Q_pickT rfl rfl) rfl rfl rfl <| gq (v := .bool (x2656 == (decide ((x2.length : Int) < (x11.length : Int))))) (Q_eqlB Tryz.underlying4 rfl rfl) rfl rfl rfl <| nq (Q_pickT rfl rfl) rfl rfl <| nq (Q_assign rfl) rfl rfl <| WL_nil ?_
             replace H := H.e1.e0
             obtain rfl := Option.some.inj ho2648
             refine x_A fun a hf => ⟨ρ, x2656 == (decide ((x2.length : Int) < (x11.length : Int))), (View.le_trans lw2652 lw2657), rfl, hf.sub ⟨rfl, trivial⟩, H⟩
            ·rw [hb]
             replace ho2648 := itF hb ho2648
             refine gs rfl rfl rfl rfl <| gs rfl rfl rfl rfl <| gs rfl rfl rfl rfl <| gs rfl rfl rfl rfl <| gs rfl rfl rfl rfl <| gs rfl rfl rfl rfl <| gs rfl rfl rfl rfl <| gq (Q_pickF rfl rfl) rfl rfl rfl <| gq (v := .bool (x2656 == false)) (Q_eqlB Tryz.underlying4 rfl rfl) rfl rfl rfl <| nq (Q_pickT rfl rfl) rfl rfl <| nq (Q_assign rfl) rfl rfl <| WL_nil ?_
             replace H := H.e1.e0
             obtain rfl := Option.some.inj ho2648
             refine x_A fun a hf => ⟨ρ, x2656 == false, (View.le_trans lw2652 lw2657), rfl, hf.sub ⟨rfl, trivial⟩, H⟩
           ·rw [hb]
            replace ho2648 := itF hb ho2648
            refine gs rfl rfl rfl rfl <| gs rfl rfl rfl rfl <| gs rfl rfl rfl rfl <| gs rfl rfl rfl rfl <| gs rfl rfl rfl rfl <| gsu rfl ⟨_, _, rfl, rfl, rfl⟩ rfl <| gsu rfl ⟨_, _, rfl, rfl, rfl⟩ rfl <| gs rfl rfl rfl rfl <| gs rfl rfl rfl rfl <| gsu rfl ⟨_, _, rfl, rfl, rfl⟩ rfl <| gsu rfl ⟨_, _, rfl, rfl, rfl⟩ rfl <| gsu rfl ⟨_, _, rfl, rfl, rfl⟩ rfl <| gsu rfl ⟨_, _, rfl, rfl, rfl⟩ rfl <| gsu rfl ⟨_, _, rfl, rfl, rfl⟩ rfl ?_
            refine gsu rfl ⟨_, _, rfl, rfl, rfl⟩ rfl <| gsu rfl ⟨_, _, rfl, rfl, rfl⟩ rfl <| gs rfl rfl rfl rfl <| gs rfl rfl rfl rfl <| nq (Q_pickF rfl rfl) rfl rfl <| nq (Q_assign rfl) rfl rfl <| WL_nil ?_
            replace H := H.e1.e0
            obtain rfl := Option.some.inj ho2648
            refine x_A fun a hf => ⟨ρ, false, lw2652, rfl, hf.sub ⟨rfl, trivial⟩, H⟩
          ·rw [hb]
           replace ho2648 := itF hb ho2648
           refine gs rfl rfl rfl rfl <| gs rfl rfl rfl rfl <| nq (Q_pickF rfl rfl) rfl rfl <| nq (v := .bool (x2651 == false)) (Q_eqlB Tryz.underlying4 rfl rfl) rfl rfl <| nq (Q_move rfl) rfl rfl ?_
           rcases Bool.eq_false_or_eq_true (x2651 == false) with hb | hb
           ·rw [hb]
            replace ho2648 := itT hb ho2648
            refine gq (v := .agg #[v1, v4, v7]) (Q_ldB (k := 0) (cs := [v1, v4, v7]) H.ok rfl ty78 rfl rfl rfl (fun h => nomatch h) rfl) rfl rfl rfl <| gq (v := .agg #[v10, v13, v16]) (Q_ldB (k := 1) (cs := [v10, v13, v16]) H.ok rfl ty78 rfl rfl rfl (fun h => nomatch h) rfl) rfl rfl rfl ?_
            obtain ⟨q2659, hq2659, ho2648⟩ := bnd ho2648
            refine ge (E_call fn55 rfl (c_55 H gle  r3 r6 r9 r12 r15 r18 hq2659)) rfl rfl rfl ?_
            rintro _ wd2663 ⟨ρ, x2661, rfl, rfl, lw2662, H⟩
            try dsimp only at ho2648
            replace r3 := RdSl.up lw2662 r3
            replace r6 := RdSl.up lw2662 r6
            replace r9 := RdSl.up lw2662 r9
            replace r12 := RdSl.up lw2662 r12
            replace r15 := RdSl.up lw2662 r15
            replace r18 := RdSl.up lw2662 r18
            replace gle := GErrs.up lw2662 gle
            replace gl18 := GTab.up lw2662 gl18
            refine gq (Q_move rfl) rfl rfl rfl <| gq (Q_move rfl) rfl rfl rfl <| gs rfl rfl rfl rfl <| gs rfl rfl rfl rfl <| gq (Q_pickF rfl rfl) rfl rfl rfl <| gq (Q_move rfl) rfl rfl rfl <| gs rfl rfl rfl rfl <| gs rfl rfl rfl rfl <| gs rfl rfl rfl rfl <| gs rfl rfl rfl rfl <| gs rfl rfl rfl rfl <| gs rfl rfl rfl rfl <| gs rfl rfl rfl rfl <| gq (Q_pickF rfl rfl) rfl rfl rfl ?_
            refine gq (v := .bool (x2661 == false)) (Q_eqlB Tryz.underlying4 rfl rfl) rfl rfl rfl <| nq (Q_pickT rfl rfl) rfl rfl <| nq (Q_assign rfl) rfl rfl <| WL_nil ?_
            replace H := H.e1.e0
            obtain rfl := Option.some.inj ho2648
            refine x_A fun a hf => ⟨ρ, x2661 == false, (View.le_trans lw2652 lw2662), rfl, hf.sub ⟨rfl, trivial⟩, H⟩
           ·rw [hb]
            replace ho2648 := itF hb ho2648
            refine gs rfl rfl rfl rfl <| gs rfl rfl rfl rfl <| gs rfl rfl rfl rfl <| gs rfl rfl rfl rfl <| gs rfl rfl rfl rfl <| gsu rfl ⟨_, _, rfl, rfl, rfl⟩ rfl <| gsu rfl ⟨_, _, rfl, rfl, rfl⟩ rfl <| gs rfl rfl rfl rfl <| gs rfl rfl rfl rfl <| gsu rfl ⟨_, _, rfl, rfl, rfl⟩ rfl <| gsu rfl ⟨_, _, rfl, rfl, rfl⟩ rfl <| gsu rfl ⟨_, _, rfl, rfl, rfl⟩ rfl <| gsu rfl ⟨_, _, rfl, rfl, rfl⟩ rfl <| gsu rfl ⟨_, _, rfl, rfl, rfl⟩ rfl ?_
            refine gsu rfl ⟨_, _, rfl, rfl, rfl⟩ rfl <| gsu rfl ⟨_, _, rfl, rfl, rfl⟩ rfl <| gs rfl rfl rfl rfl <| gs rfl rfl rfl rfl <| nq (Q_pickF rfl rfl) rfl rfl <| nq (Q_assign rfl) rfl rfl <| WL_nil ?_
            replace H := H.e1.e0
            obtain rfl := Option.some.inj ho2648
            refine x_A fun a hf => ⟨ρ, false, lw2652, rfl, hf.sub ⟨rfl, trivial⟩, H⟩
         ·rintro a wd2664 ⟨ρ, x2647, lw2665, rfl, hf, H⟩
          try dsimp only at hF
          replace gle := GErrs.up lw2665 gle
          replace gl18 := GTab.up lw2665 gl18
          refine CW.at hf <| C_ret ?_
          obtain rfl := Option.some.inj hF
          exact fn_ret (l := [.tmp 4]) (vs := [.bool x2647]) rfl rfl rfl ⟨ρ, x2647, rfl, rfl, (View.le_trans lw1350 (View.le_trans lw1385 lw2665)), H⟩
end Go.Proofs.YtealkahefalaeaaGreatDoor
