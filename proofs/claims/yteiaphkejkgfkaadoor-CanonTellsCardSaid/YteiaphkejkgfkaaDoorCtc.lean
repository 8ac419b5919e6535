/-
  The walks, printed by my program, part 3: each function of the code computes its pure function.
-/
import Derived.Test.YteiaphkejkgfkaaDoorCtb
namespace Go.Proofs.YteiaphkejkgfkaaDoor
open Go Go.Eng
set_option maxRecDepth 100000
theorem c_19 {N : Nat} {C : Cx} {w : World} {ρ : View} {hs : List Hl} {v1 : Value} {v4 : Value} {v7 : Value} {x2 : (List (List Int))} {x5 : (List Int)} {x8 : (List Int)} (H : Hp C w ρ (hs)) {ge0 : Value} (gl0 : GErr ρ 0 ge0) (r3 : RdSl ρ (eA 256 (eI .i64)) v1 x2) (r6 : RdSl ρ (eI .i64) v4 x5) (r9 : RdSl ρ (eI .i64) v7 x8) {r : Int} (hF : F_canon_Edges N x2 x5 x8 = some r) :
    Calls Tryd.prog 19 [.agg #[v1, v4, v7]].toArray w (Rets (fun v w' => (∃ (x681 : Int), x681 = r ∧ .int .i64 x681 = v ∧ Hp C w' ρ (hs)))) := by
  unfold F_canon_Edges at hF
  have h0 : Tryd.f19.body = some _ := rfl
  refine fn_calls' Tryd.func19 h0 (n := 40) rfl (by simp) ?_
  refine C_seq ?_
  refine R_nd ?_
  refine ne (E_box H (vs := [v1, v4, v7]) rfl rfl) rfl rfl ?_
  rintro _ wd683 ⟨b682, rfl, H⟩
  replace H : Hp C wd683 ρ (Box b682 [v1, v4, v7] :: hs) := H
  refine nq (v := .int .i64 0) (Q_assign rfl) rfl rfl ?_
  refine WL_nil ?_
  refine x_then ?_
  refine CW.sub (E' := [(1, .pointer (some ⟨b682, 0, none⟩))]) ⟨rfl, trivial⟩ ?_
  refine C_seq ?_
  refine C_seq ?_
  refine R_nd ?_
  refine nq (v := .agg #[v1, v4, v7]) (Q_ldB (k := 0) (cs := [v1, v4, v7]) H.ok rfl ty25 rfl rfl rfl (fun h => nomatch h) rfl) rfl rfl ?_
  obtain ⟨q684, hq684, hF⟩ := bnd hF
  refine ne (E_call fn26 rfl (c_26 H  r3 r6 r9 hq684)) rfl rfl ?_
  rintro _ wd687 ⟨x686, rfl, rfl, H⟩
  try dsimp only at hF
  replace H : Hp C wd687 ρ (Box b682 [v1, v4, v7] :: hs) := H
  refine nq (v := .bool (!x686)) (Q_not rfl) rfl rfl ?_
  refine WL_nil ?_
  refine x_then ?_
  refine CW.sub (E' := [(1, .pointer (some ⟨b682, 0, none⟩)), (12, .bool (!x686))]) ⟨rfl, rfl, trivial⟩ ?_
  refine C_cond rfl (fun hb => ?_) (fun hb => ?_)
  · replace hF := itT hb hF
    refine C_seq ?_
    refine R_nd ?_
    refine nq (v := .int .i64 0) (Q_assign rfl) rfl rfl ?_
    refine WL_nil ?_
    refine x_then ?_
    refine CW.sub (E' := [(2, .int .i64 0)]) ⟨rfl, trivial⟩ ?_
    refine C_ret ?_
    refine x_then_ret ?_
    replace H := H.drop 0 rfl
    replace H : Hp C wd687 ρ (hs) := H
    obtain rfl := Option.some.inj hF
    exact fn_ret (l := [.tmp 2]) (vs := [.int .i64 0]) rfl rfl rfl ⟨0, rfl, rfl, H⟩
  · replace hF := itF hb hF
    refine C_skip ?_
    refine x_then ?_
    refine CW.sub (E' := [(1, .pointer (some ⟨b682, 0, none⟩))]) ⟨rfl, trivial⟩ ?_
    refine C_seq ?_
    refine R_nd ?_
    refine nq (v := .int .i64 0) (Q_assign rfl) rfl rfl ?_
    refine WL_nil ?_
    refine x_then ?_
    refine CW.sub (E' := [(1, .pointer (some ⟨b682, 0, none⟩)), (3, .int .i64 0)]) ⟨rfl, rfl, trivial⟩ ?_
    refine C_seq ?_
    refine C_seq ?_
    refine R_nd ?_
    refine nq (v := .pointer (some ⟨b682, 0, none⟩)) (Q_fld Tryd.underlying25 rfl ty22 (by decide) rfl rfl) rfl rfl ?_
    refine nq (v := v1) (Q_ldB (k := 0) (cs := [v1]) H.ok rfl ty22 rfl rfl rfl (fun _ => rfl) rfl) rfl rfl ?_
    refine nq (v := .int .i64 (x2.length : Int)) (Q_len Tryd.underlying22 rfl r3) rfl rfl ?_
    refine nq (v := .int .i64 0) (Q_move rfl) rfl rfl ?_
    refine WL_nil ?_
    refine x_then ?_
    refine CW.sub (E' := [(3, .int .i64 0), (14, v1), (15, .int .i64 (x2.length : Int)), (16, .int .i64 0)]) ⟨rfl, rfl, rfl, rfl, trivial⟩ ?_
    obtain ⟨o1020, ho1020, hF⟩ := bnd hF
    refine C_cutQ (fun a w' => ∃ (x1019 : Int), .inl x1019 = o1020 ∧ Fr 40 a [(3, .int .i64 x1019)] ∧ Hp C w' ρ (hs)) ?_ ?_
    · refine C_block ?_
      replace H := H.drop 0 rfl
      replace H : Hp C wd687 ρ (hs) := H
      refine C_iter (f := fun s => F_canon_Edges_l0 N x2 s.1 s.2) ho1020 (fun s a w' => ∃ (x1130 : Int) (x1131 : Int), (x1130, x1131) = s ∧ Fr 40 a [(3, .int .i64 x1131), (14, v1), (15, .int .i64 (x2.length : Int)), (16, .int .i64 x1130)] ∧ Hp C w' ρ (hs)) ?_ ?_
      · exact fun a hf => ⟨0, 0, rfl, hf.sub ⟨rfl, rfl, rfl, rfl, trivial⟩, H⟩
      · rintro s o1241 a wd1244 ⟨x1130, x1131, rfl, hf, H⟩ hB1242 hO1243
        replace hB1242 : F_canon_Edges_l0 N x2 x1130 x1131 = some o1241 := hB1242
        unfold F_canon_Edges_l0 at hB1242
        refine CW.at hf ?_
        refine C_seq ?_
        refine R_nd ?_
        refine nq (v := .bool (decide (x1130 < (x2.length : Int)))) (Q_lss rfl rfl) rfl rfl ?_
        refine WL_nil ?_
        refine x_then ?_
        refine CW.sub (E' := [(3, .int .i64 x1131), (14, v1), (15, .int .i64 (x2.length : Int)), (16, .int .i64 x1130), (17, .bool (decide (x1130 < (x2.length : Int))))]) ⟨rfl, rfl, rfl, rfl, rfl, trivial⟩ ?_
        refine C_seq ?_
        refine C_cond rfl (fun hb => ?_) (fun hb => ?_)
        · replace hB1242 := itT hb hB1242
          refine C_skip ?_
          refine x_then ?_
          refine CW.sub (E' := [(3, .int .i64 x1131), (14, v1), (15, .int .i64 (x2.length : Int)), (16, .int .i64 x1130)]) ⟨rfl, rfl, rfl, rfl, trivial⟩ ?_
          refine C_seq ?_
          refine C_block ?_
          refine C_seq ?_
          refine R_nd ?_
          obtain ⟨x1245, hx1245, hB1242⟩ := bnd hB1242
          obtain ⟨b1246, o1247, c1248, hc1249, ha1250, hi1251⟩ := idxR r3 hx1245
          refine nq (v := .pointer (some ⟨b1246, o1247, none⟩)) (Q_idx hi1251 Tryd.underlying22 ty58 rfl rfl) rfl rfl ?_
          refine nq (v := .agg c1248.toArray) (Q_ld (ha1250.up H.ok.view) ty58 ((eA 256 (eI .i64)).len hc1249) (fun h => nomatch h) rfl rfl) rfl rfl ?_
          refine ne (E_allocA (N := 256) (n := 1) (zs := (repC 256 [.int .i64 0])) H ty58 rfl (by simp [repC_length])) rfl rfl ?_
          rintro _ wd1253 ⟨b1252, rfl, H⟩
          replace H : Hp C wd1253 ρ (Arr (.slice (some ⟨b1252, 0, none⟩) 256 256) 1 (repC 256 [.int .i64 0]) :: hs) := H
          refine ne (E_stW (k := 0) H rfl ty58 rfl rfl (rdL.one hc1249.2) (arr_clen (rdL_rep (e:=(eI .i64)) (ρ:=ρ) (rfl) 256) List.length_replicate) (arr_clen hc1249.2 hc1249.1)) rfl rfl ?_
          rintro _ wd1254 H
          replace H : Hp C wd1254 ρ (Arr (.slice (some ⟨b1252, 0, none⟩) 256 256) 1 c1248 :: hs) := H
          refine WL_nil ?_
          refine x_then ?_
          refine CW.sub (E' := [(3, .int .i64 x1131), (5, .pointer (some ⟨b1252, 0, none⟩)), (14, v1), (15, .int .i64 (x2.length : Int)), (16, .int .i64 x1130)]) ⟨rfl, rfl, rfl, rfl, rfl, trivial⟩ ?_
          refine C_seq ?_
          refine R_nd ?_
          obtain ⟨q1255, hq1255, hB1242⟩ := bnd hB1242
          refine ne (E_call fn51 rfl (c_51 H gl0  hq1255)) rfl rfl ?_
          rintro _ wd1262 (⟨rfl, rfl, H⟩ | ⟨b1257, v1258, c1259, x1260, rfl, rfl, r1261, H⟩)
          · try dsimp only at hB1242
            replace H : Hp C wd1262 ρ (Arr (.slice (some ⟨b1252, 0, none⟩) 256 256) 1 c1248 :: hs) := H
            refine nq (v := .tuple [.pointer none, ge0].toArray) (Q_move rfl) rfl rfl ?_
            refine nq (v := .pointer none) (Q_extract rfl rfl) rfl rfl ?_
            refine nq (v := ge0) (Q_extract rfl rfl) rfl rfl ?_
            refine nq (v := .pointer none) (Q_assign rfl) rfl rfl ?_
            refine nq (v := ge0) (Q_assign rfl) rfl rfl ?_
            refine WL_nil ?_
            refine x_then ?_
            refine CW.sub (E' := [(3, .int .i64 x1131), (5, .pointer (some ⟨b1252, 0, none⟩)), (6, .pointer none), (7, ge0), (14, v1), (15, .int .i64 (x2.length : Int)), (16, .int .i64 x1130)]) ⟨rfl, rfl, rfl, rfl, rfl, rfl, rfl, trivial⟩ ?_
            refine C_seq ?_
            refine C_seq ?_
            refine R_nd ?_
            refine nq (v := ge0) (Q_move rfl) rfl rfl ?_
            refine nq (v := .bool true) (Q_neqE Tryd.underlying63 gl0 rfl) rfl rfl ?_
            refine WL_nil ?_
            refine x_then ?_
            refine CW.sub (E' := [(3, .int .i64 x1131), (5, .pointer (some ⟨b1252, 0, none⟩)), (6, .pointer none), (14, v1), (15, .int .i64 (x2.length : Int)), (16, .int .i64 x1130), (25, .bool true)]) ⟨rfl, rfl, rfl, rfl, rfl, rfl, rfl, trivial⟩ ?_
            refine C_cond rfl (fun _ => ?_) (fun h => nomatch h)
            refine C_seq ?_
            refine R_nd ?_
            refine nq (v := .int .i64 0) (Q_assign rfl) rfl rfl ?_
            refine WL_nil ?_
            refine x_then ?_
            refine CW.sub (E' := [(2, .int .i64 0)]) ⟨rfl, trivial⟩ ?_
            refine C_ret ?_
            refine x_then_ret ?_
            refine x_block_ret ?_
            refine x_then_ret ?_
            refine x_then_ret ?_
            refine x_block_ret ?_
            refine x_then_ret ?_
            refine x_then_ret ?_
            replace H := H.drop 0 rfl
            replace H : Hp C wd1262 ρ (hs) := H
            obtain rfl := Option.some.inj hB1242
            obtain rfl := hO1243 _ rfl
            obtain rfl := Option.some.inj (show some _ = some _ from hF)
            exact fn_ret (l := [.tmp 2]) (vs := [.int .i64 0]) rfl rfl rfl ⟨0, rfl, rfl, H⟩
          · try dsimp only at hB1242
            replace H : Hp C wd1262 ρ (Box b1257 [v1258, .int .i64 200] :: Arr v1258 1 c1259 :: Arr (.slice (some ⟨b1252, 0, none⟩) 256 256) 1 c1248 :: hs) := H
            refine nq (v := .tuple [.pointer (some ⟨b1257, 0, none⟩), .nilIface].toArray) (Q_move rfl) rfl rfl ?_
            refine nq (v := .pointer (some ⟨b1257, 0, none⟩)) (Q_extract rfl rfl) rfl rfl ?_
            refine nq (v := .nilIface) (Q_extract rfl rfl) rfl rfl ?_
            refine nq (v := .pointer (some ⟨b1257, 0, none⟩)) (Q_assign rfl) rfl rfl ?_
            refine nq (v := .nilIface) (Q_assign rfl) rfl rfl ?_
            refine WL_nil ?_
            refine x_then ?_
            refine CW.sub (E' := [(3, .int .i64 x1131), (5, .pointer (some ⟨b1252, 0, none⟩)), (6, .pointer (some ⟨b1257, 0, none⟩)), (7, .nilIface), (14, v1), (15, .int .i64 (x2.length : Int)), (16, .int .i64 x1130)]) ⟨rfl, rfl, rfl, rfl, rfl, rfl, rfl, trivial⟩ ?_
            refine C_seq ?_
            refine C_seq ?_
            refine R_nd ?_
            refine nq (v := .nilIface) (Q_move rfl) rfl rfl ?_
            refine nq (v := .bool false) (Q_neqN Tryd.underlying63 rfl) rfl rfl ?_
            refine WL_nil ?_
            refine x_then ?_
            refine CW.sub (E' := [(3, .int .i64 x1131), (5, .pointer (some ⟨b1252, 0, none⟩)), (6, .pointer (some ⟨b1257, 0, none⟩)), (14, v1), (15, .int .i64 (x2.length : Int)), (16, .int .i64 x1130), (25, .bool false)]) ⟨rfl, rfl, rfl, rfl, rfl, rfl, rfl, trivial⟩ ?_
            refine C_cond rfl (fun h => nomatch h) (fun _ => ?_)
            refine C_skip ?_
            refine x_then ?_
            refine CW.sub (E' := [(3, .int .i64 x1131), (5, .pointer (some ⟨b1252, 0, none⟩)), (6, .pointer (some ⟨b1257, 0, none⟩)), (14, v1), (15, .int .i64 (x2.length : Int)), (16, .int .i64 x1130)]) ⟨rfl, rfl, rfl, rfl, rfl, rfl, trivial⟩ ?_
            refine C_seq ?_
            refine C_seq ?_
            refine R_nd ?_
            refine nq (v := .agg c1248.toArray) (Q_ldW (k := 2) H.ok rfl ty58 rfl (arr_clen hc1249.2 hc1249.1)) rfl rfl ?_
            refine nq (v := .int .i64 0) (Q_move rfl) rfl rfl ?_
            refine WL_nil ?_
            refine x_then ?_
            refine CW.sub (E' := [(3, .int .i64 x1131), (6, .pointer (some ⟨b1257, 0, none⟩)), (14, v1), (15, .int .i64 (x2.length : Int)), (16, .int .i64 x1130), (26, .agg c1248.toArray), (27, .int .i64 0)]) ⟨rfl, rfl, rfl, rfl, rfl, rfl, rfl, trivial⟩ ?_
            obtain ⟨o1306, ho1306, hB1242⟩ := bnd hB1242
            refine C_cutQ (fun a w' => ∃ (c1303 : (List Value)) (x1304 : (List Int)), x1304 = o1306 ∧ rdL (eI .u64) ρ x1304 c1303 ∧ Fr 40 a [(3, .int .i64 x1131), (6, .pointer (some ⟨b1257, 0, none⟩)), (14, v1), (15, .int .i64 (x2.length : Int)), (16, .int .i64 x1130)] ∧ Hp C w' ρ (Box b1257 [v1258, .int .i64 200] :: Arr v1258 1 c1303 :: hs)) ?_ ?_
            · refine C_block ?_
              replace H := H.front 1 rfl
              replace H : Hp C wd1262 ρ (Arr v1258 1 c1259 :: Box b1257 [v1258, .int .i64 200] :: Arr (.slice (some ⟨b1252, 0, none⟩) 256 256) 1 c1248 :: hs) := H
              replace H := H.front 1 rfl
              replace H : Hp C wd1262 ρ (Box b1257 [v1258, .int .i64 200] :: Arr v1258 1 c1259 :: Arr (.slice (some ⟨b1252, 0, none⟩) 256 256) 1 c1248 :: hs) := H
              replace H := H.drop 2 rfl
              replace H : Hp C wd1262 ρ (Box b1257 [v1258, .int .i64 200] :: Arr v1258 1 c1259 :: hs) := H
              refine C_iter (f := fun s => F_canon_Edges_l1 N x1245 s.1 s.2) ho1306 (fun s a w' => ∃ (c1320 : (List Value)) (x1319 : Int) (x1321 : (List Int)), (x1319, x1321) = s ∧ rdL (eI .u64) ρ x1321 c1320 ∧ Fr 40 a [(3, .int .i64 x1131), (6, .pointer (some ⟨b1257, 0, none⟩)), (14, v1), (15, .int .i64 (x2.length : Int)), (16, .int .i64 x1130), (26, .agg c1248.toArray), (27, .int .i64 x1319)] ∧ Hp C w' ρ (Box b1257 [v1258, .int .i64 200] :: Arr v1258 1 c1320 :: hs)) ?_ ?_
              · exact fun a hf => ⟨c1259, 0, x1260, rfl, r1261, hf.sub ⟨rfl, rfl, rfl, rfl, rfl, rfl, rfl, trivial⟩, H⟩
              · rintro s o1335 a wd1338 ⟨c1320, x1319, x1321, rfl, r1322, hf, H⟩ hB1336 hO1337
                replace hB1336 : F_canon_Edges_l1 N x1245 x1319 x1321 = some o1335 := hB1336
                unfold F_canon_Edges_l1 at hB1336
                refine CW.at hf ?_
                refine C_seq ?_
                refine R_nd ?_
                refine nq (v := .bool (decide (x1319 < 256))) (Q_lss rfl rfl) rfl rfl ?_
                refine WL_nil ?_
                refine x_then ?_
                refine CW.sub (E' := [(3, .int .i64 x1131), (6, .pointer (some ⟨b1257, 0, none⟩)), (14, v1), (15, .int .i64 (x2.length : Int)), (16, .int .i64 x1130), (26, .agg c1248.toArray), (27, .int .i64 x1319), (28, .bool (decide (x1319 < 256)))]) ⟨rfl, rfl, rfl, rfl, rfl, rfl, rfl, rfl, trivial⟩ ?_
                refine C_seq ?_
                refine C_cond rfl (fun hb => ?_) (fun hb => ?_)
                · replace hB1336 := itT hb hB1336
                  refine C_skip ?_
                  refine x_then ?_
                  refine CW.sub (E' := [(3, .int .i64 x1131), (6, .pointer (some ⟨b1257, 0, none⟩)), (14, v1), (15, .int .i64 (x2.length : Int)), (16, .int .i64 x1130), (26, .agg c1248.toArray), (27, .int .i64 x1319)]) ⟨rfl, rfl, rfl, rfl, rfl, rfl, rfl, trivial⟩ ?_
                  refine C_seq ?_
                  refine C_block ?_
                  refine C_seq ?_
                  refine R_nd ?_
                  obtain ⟨x1339, hx1339, hB1336⟩ := bnd hB1336
                  refine nq (v := .int .i64 x1339) (Q_ixI hc1249.2 hc1249.1 hx1339 Tryd.underlying58 rfl rfl ty3 rfl) rfl rfl ?_
                  refine nq (v := .int .i64 x1339) (Q_assign rfl) rfl rfl ?_
                  refine WL_nil ?_
                  refine x_then ?_
                  refine CW.sub (E' := [(3, .int .i64 x1131), (6, .pointer (some ⟨b1257, 0, none⟩)), (9, .int .i64 x1339), (14, v1), (15, .int .i64 (x2.length : Int)), (16, .int .i64 x1130), (26, .agg c1248.toArray), (27, .int .i64 x1319)]) ⟨rfl, rfl, rfl, rfl, rfl, rfl, rfl, rfl, trivial⟩ ?_
                  refine R_nd ?_
                  refine nq (v := .pointer (some ⟨b1257, 0, none⟩)) (Q_move rfl) rfl rfl ?_
                  refine nq (v := .int .i64 x1339) (Q_move rfl) rfl rfl ?_
                  replace H := H.front 1 rfl
                  replace H : Hp C wd1338 ρ (Arr v1258 1 c1320 :: Box b1257 [v1258, .int .i64 200] :: hs) := H
                  replace H := H.front 1 rfl
                  replace H : Hp C wd1338 ρ (Box b1257 [v1258, .int .i64 200] :: Arr v1258 1 c1320 :: hs) := H
                  obtain ⟨q1340, hq1340, hB1336⟩ := bnd hB1336
                  refine ne (E_call fn52 rfl (c_52 H  r1322 hq1340)) rfl rfl ?_
                  rintro _ wd1346 ⟨c1342, x1343, x1344, rfl, rfl, r1345, H⟩
                  try dsimp only at hB1336
                  replace H : Hp C wd1346 ρ (Box b1257 [v1258, .int .i64 200] :: Arr v1258 1 c1342 :: hs) := H
                  refine WL_nil ?_
                  refine x_block ?_
                  refine x_then ?_
                  refine CW.sub (E' := [(3, .int .i64 x1131), (6, .pointer (some ⟨b1257, 0, none⟩)), (14, v1), (15, .int .i64 (x2.length : Int)), (16, .int .i64 x1130), (26, .agg c1248.toArray), (27, .int .i64 x1319)]) ⟨rfl, rfl, rfl, rfl, rfl, rfl, rfl, trivial⟩ ?_
                  refine R_nd ?_
                  refine nq (v := .int .i64 (w64 (x1319 + 1))) (Q_add rfl rfl) rfl rfl ?_
                  refine nq (v := .int .i64 (w64 (x1319 + 1))) (Q_move rfl) rfl rfl ?_
                  refine WL_nil ?_
                  replace H := H.front 1 rfl
                  replace H : Hp C wd1346 ρ (Arr v1258 1 c1342 :: Box b1257 [v1258, .int .i64 200] :: hs) := H
                  replace H := H.front 1 rfl
                  replace H : Hp C wd1346 ρ (Box b1257 [v1258, .int .i64 200] :: Arr v1258 1 c1342 :: hs) := H
                  obtain rfl := Option.some.inj hB1336
                  refine x_A fun a hf => ⟨_, rfl, c1342, w64 (x1319 + 1), x1343, rfl, r1345, hf.sub ⟨rfl, rfl, rfl, rfl, rfl, rfl, rfl, trivial⟩, H⟩
                · replace hB1336 := itF hb hB1336
                  refine C_exit ?_
                  refine x_then_exit ?_
                  refine x_then_exit ?_
                  refine x_block_exit ?_
                  replace H := H.front 1 rfl
                  replace H : Hp C wd1338 ρ (Arr v1258 1 c1320 :: Box b1257 [v1258, .int .i64 200] :: hs) := H
                  replace H := H.front 1 rfl
                  replace H : Hp C wd1338 ρ (Box b1257 [v1258, .int .i64 200] :: Arr v1258 1 c1320 :: hs) := H
                  obtain rfl := Option.some.inj hB1336
                  obtain rfl := hO1337 _ rfl
                  refine x_A fun a hf => ⟨c1320, x1321, rfl, r1322, hf.sub ⟨rfl, rfl, rfl, rfl, rfl, trivial⟩, H⟩
            · rintro a wd1347 ⟨c1303, x1304, rfl, r1305, hf, H⟩
              try dsimp only at hB1242
              refine XX.at hf ?_
              refine x_then ?_
              refine CW.sub (E' := [(3, .int .i64 x1131), (6, .pointer (some ⟨b1257, 0, none⟩)), (14, v1), (15, .int .i64 (x2.length : Int)), (16, .int .i64 x1130)]) ⟨rfl, rfl, rfl, rfl, rfl, trivial⟩ ?_
              refine R_nd ?_
              refine nq (v := .int .i64 x1131) (Q_move rfl) rfl rfl ?_
              refine nq (v := .pointer (some ⟨b1257, 0, none⟩)) (Q_move rfl) rfl rfl ?_
              replace H := H.front 1 rfl
              replace H : Hp C wd1347 ρ (Arr v1258 1 c1303 :: Box b1257 [v1258, .int .i64 200] :: hs) := H
              replace H := H.front 1 rfl
              replace H : Hp C wd1347 ρ (Box b1257 [v1258, .int .i64 200] :: Arr v1258 1 c1303 :: hs) := H
              obtain ⟨q1348, hq1348, hB1242⟩ := bnd hB1242
              refine ne (E_call fn53 rfl (c_53 H  r1305 hq1348)) rfl rfl ?_
              rintro _ wd1351 ⟨x1350, rfl, rfl, H⟩
              try dsimp only at hB1242
              replace H : Hp C wd1351 ρ (Box b1257 [v1258, .int .i64 200] :: Arr v1258 1 c1303 :: hs) := H
              refine nq (v := .int .i64 (w64 (x1131 + x1350))) (Q_add rfl rfl) rfl rfl ?_
              refine nq (v := .int .i64 (w64 (x1131 + x1350))) (Q_assign rfl) rfl rfl ?_
              refine WL_nil ?_
              refine x_block ?_
              refine x_then ?_
              refine CW.sub (E' := [(3, .int .i64 (w64 (x1131 + x1350))), (14, v1), (15, .int .i64 (x2.length : Int)), (16, .int .i64 x1130)]) ⟨rfl, rfl, rfl, rfl, trivial⟩ ?_
              refine R_nd ?_
              refine nq (v := .int .i64 (w64 (x1130 + 1))) (Q_add rfl rfl) rfl rfl ?_
              refine nq (v := .int .i64 (w64 (x1130 + 1))) (Q_move rfl) rfl rfl ?_
              refine WL_nil ?_
              replace H := H.drop 0 rfl
              replace H : Hp C wd1351 ρ (Arr v1258 1 c1303 :: hs) := H
              replace H := H.drop 0 rfl
              replace H : Hp C wd1351 ρ (hs) := H
              obtain rfl := Option.some.inj hB1242
              refine x_A fun a hf => ⟨_, rfl, w64 (x1130 + 1), w64 (x1131 + x1350), rfl, hf.sub ⟨rfl, rfl, rfl, rfl, trivial⟩, H⟩
        · replace hB1242 := itF hb hB1242
          refine C_exit ?_
          refine x_then_exit ?_
          refine x_then_exit ?_
          refine x_block_exit ?_
          obtain rfl := Option.some.inj hB1242
          obtain rfl := hO1243 _ rfl
          refine x_A fun a hf => ⟨x1131, rfl, hf.sub ⟨rfl, trivial⟩, H⟩
    · rintro a wd1352 ⟨x1019, rfl, hf, H⟩
      try dsimp only at hF
      refine XX.at hf ?_
      refine x_then ?_
      refine CW.sub (E' := [(3, .int .i64 x1019)]) ⟨rfl, trivial⟩ ?_
      refine C_seq ?_
      refine R_nd ?_
      refine nq (v := .int .i64 x1019) (Q_move rfl) rfl rfl ?_
      refine nq (v := .int .i64 x1019) (Q_assign rfl) rfl rfl ?_
      refine WL_nil ?_
      refine x_then ?_
      refine CW.sub (E' := [(2, .int .i64 x1019)]) ⟨rfl, trivial⟩ ?_
      refine C_ret ?_
      obtain rfl := Option.some.inj hF
      exact fn_ret (l := [.tmp 2]) (vs := [.int .i64 x1019]) rfl rfl rfl ⟨x1019, rfl, rfl, H⟩
theorem c_88 {N : Nat} {C : Cx} {w : World} {ρ : View} {hs : List Hl} {x1 : Int} (H : Hp C w ρ (hs)) {r : Unit} (hF : F_cmp_isNaN_int N x1 = some r) :
    Calls Tryd.prog 88 [.int .i64 x1].toArray w (Rets (fun v w' => (() = r ∧ .bool (x1 != x1) = v ∧ Hp C w' ρ (hs)))) := by
  unfold F_cmp_isNaN_int at hF
  have h0 : Tryd.f88.body = some _ := rfl
  refine fn_calls' Tryd.func88 h0 (n := 6) rfl (by simp) ?_
  refine C_seq ?_
  refine R_nd ?_
  refine nq (v := .bool false) (Q_assign rfl) rfl rfl ?_
  refine WL_nil ?_
  refine x_then ?_
  refine CW.sub (E' := [(0, .int .i64 x1)]) ⟨rfl, trivial⟩ ?_
  refine C_seq ?_
  refine R_nd ?_
  refine nq (v := .int .i64 x1) (Q_move rfl) rfl rfl ?_
  refine nq (v := .int .i64 x1) (Q_move rfl) rfl rfl ?_
  refine nq (v := .bool (x1 != x1)) (Q_neq rfl rfl) rfl rfl ?_
  refine nq (v := .bool (x1 != x1)) (Q_assign rfl) rfl rfl ?_
  refine WL_nil ?_
  refine x_then ?_
  refine CW.sub (E' := [(2, .bool (x1 != x1))]) ⟨rfl, trivial⟩ ?_
  refine C_ret ?_
  obtain rfl := Option.some.inj hF
  exact fn_ret (l := [.tmp 2]) (vs := [.bool (x1 != x1)]) rfl rfl rfl ⟨rfl, rfl, H⟩
theorem c_79 {N : Nat} {C : Cx} {w : World} {ρ : View} {hs : List Hl} {x1 : Int} {x2 : Int} (H : Hp C w ρ (hs)) {r : Bool} (hF : F_cmp_Less_int N x1 x2 = some r) :
    Calls Tryd.prog 79 [.int .i64 x1, .int .i64 x2].toArray w (Rets (fun v w' => (∃ (x18 : Bool), x18 = r ∧ .bool x18 = v ∧ Hp C w' ρ (hs)))) := by
  unfold F_cmp_Less_int at hF
  have h0 : Tryd.f79.body = some _ := rfl
  refine fn_calls' Tryd.func79 h0 (n := 17) rfl (by simp) ?_
  refine C_seq ?_
  refine R_nd ?_
  refine nq (v := .bool false) (Q_assign rfl) rfl rfl ?_
  refine WL_nil ?_
  refine x_then ?_
  refine CW.sub (E' := [(0, .int .i64 x1), (1, .int .i64 x2)]) ⟨rfl, rfl, trivial⟩ ?_
  obtain ⟨o26, ho26, hF⟩ := bnd hF
  refine C_cut (fun a w' => ∃ (x25 : Bool), x25 = o26 ∧ Fr 17 a [(4, .bool x25)] ∧ Hp C w' ρ (hs)) ?_ ?_
  · refine R_nd ?_
    refine nq (v := .int .i64 x1) (Q_move rfl) rfl rfl ?_
    obtain ⟨q27, hq27, ho26⟩ := bnd ho26
    refine ne (E_call fn88 rfl (c_88 H   hq27)) rfl rfl ?_
    rintro _ wd29 ⟨rfl, rfl, H⟩
    try dsimp only at ho26
    replace H : Hp C wd29 ρ (hs) := H
    refine nq (v := .bool (x1 != x1)) (Q_move rfl) rfl rfl ?_
    rcases Bool.eq_false_or_eq_true (x1 != x1) with hb | hb
    · rw [hb]
      replace ho26 := itT hb ho26
      refine gq (v := .int .i64 x2) (Q_move rfl) rfl rfl rfl ?_
      obtain ⟨q30, hq30, ho26⟩ := bnd ho26
      refine ge (E_call fn88 rfl (c_88 H   hq30)) rfl rfl rfl ?_
      rintro _ wd32 ⟨rfl, rfl, H⟩
      try dsimp only at ho26
      replace H : Hp C wd32 ρ (hs) := H
      refine gq (v := .bool (!(x2 != x2))) (Q_not rfl) rfl rfl rfl ?_
      refine nq (v := .bool (!(x2 != x2))) (Q_pickT rfl rfl) rfl rfl ?_
      refine nq (v := .bool (!(x2 != x2))) (Q_move rfl) rfl rfl ?_
      rcases Bool.eq_false_or_eq_true (!(x2 != x2)) with hb | hb
      · rw [hb]
        replace ho26 := itT hb ho26
        refine gs rfl rfl rfl rfl ?_
        refine gs rfl rfl rfl rfl ?_
        refine gs rfl rfl rfl rfl ?_
        refine nq (v := .bool true) (Q_pickT rfl rfl) rfl rfl ?_
        refine nq (v := .bool true) (Q_assign rfl) rfl rfl ?_
        refine WL_nil ?_
        obtain rfl := Option.some.inj ho26
        refine x_A fun a hf => ⟨true, rfl, hf.sub ⟨rfl, trivial⟩, H⟩
      · rw [hb]
        replace ho26 := itF hb ho26
        refine gq (v := .int .i64 x1) (Q_move rfl) rfl rfl rfl ?_
        refine gq (v := .int .i64 x2) (Q_move rfl) rfl rfl rfl ?_
        refine gq (v := .bool (decide (x1 < x2))) (Q_lss rfl rfl) rfl rfl rfl ?_
        refine nq (v := .bool (decide (x1 < x2))) (Q_pickF rfl rfl) rfl rfl ?_
        refine nq (v := .bool (decide (x1 < x2))) (Q_assign rfl) rfl rfl ?_
        refine WL_nil ?_
        obtain rfl := Option.some.inj ho26
        refine x_A fun a hf => ⟨decide (x1 < x2), rfl, hf.sub ⟨rfl, trivial⟩, H⟩
    · rw [hb]
      replace ho26 := itF hb ho26
      refine gs rfl rfl rfl rfl ?_
      refine gs rfl rfl rfl rfl ?_
      refine gs rfl rfl rfl rfl ?_
      refine nq (v := .bool false) (Q_pickF rfl rfl) rfl rfl ?_
      refine nq (v := .bool false) (Q_move rfl) rfl rfl ?_
      refine gq (v := .int .i64 x1) (Q_move rfl) rfl rfl rfl ?_
      refine gq (v := .int .i64 x2) (Q_move rfl) rfl rfl rfl ?_
      refine gq (v := .bool (decide (x1 < x2))) (Q_lss rfl rfl) rfl rfl rfl ?_
      refine nq (v := .bool (decide (x1 < x2))) (Q_pickF rfl rfl) rfl rfl ?_
      refine nq (v := .bool (decide (x1 < x2))) (Q_assign rfl) rfl rfl ?_
      refine WL_nil ?_
      obtain rfl := Option.some.inj ho26
      refine x_A fun a hf => ⟨decide (x1 < x2), rfl, hf.sub ⟨rfl, trivial⟩, H⟩
  · rintro a wd33 ⟨x25, rfl, hf, H⟩
    try dsimp only at hF
    refine CW.at hf ?_
    refine C_ret ?_
    obtain rfl := Option.some.inj hF
    exact fn_ret (l := [.tmp 4]) (vs := [.bool x25]) rfl rfl rfl ⟨x25, rfl, rfl, H⟩
theorem c_54 {N : Nat} {C : Cx} {w : World} {ρ : View} {hs : List Hl} {v1 : Value} {x2 : (List Int)} (H : Hp C w ρ (hs)) (r3 : RdSl ρ (eI .i64) v1 x2) {r : Bool} (hF : F_slices_IsSorted_int_int N x2 = some r) :
    Calls Tryd.prog 54 [v1].toArray w (Rets (fun v w' => (∃ (x90 : Bool), x90 = r ∧ .bool x90 = v ∧ Hp C w' ρ (hs)))) := by
  unfold F_slices_IsSorted_int_int at hF
  have h0 : Tryd.f54.body = some _ := rfl
  refine fn_calls' Tryd.func54 h0 (n := 21) rfl (by simp) ?_
  refine C_seq ?_
  refine R_nd ?_
  refine nq (v := .bool false) (Q_assign rfl) rfl rfl ?_
  refine WL_nil ?_
  refine x_then ?_
  refine CW.sub (E' := [(0, v1)]) ⟨rfl, trivial⟩ ?_
  refine C_seq ?_
  refine C_seq ?_
  refine R_nd ?_
  refine nq (v := v1) (Q_move rfl) rfl rfl ?_
  refine nq (v := .int .i64 (x2.length : Int)) (Q_len Tryd.underlying23 rfl r3) rfl rfl ?_
  refine nq (v := .int .i64 (w64 ((x2.length : Int) - 1))) (Q_sub rfl rfl) rfl rfl ?_
  refine nq (v := .int .i64 (w64 ((x2.length : Int) - 1))) (Q_assign rfl) rfl rfl ?_
  refine WL_nil ?_
  refine x_then ?_
  refine CW.sub (E' := [(0, v1), (3, .int .i64 (w64 ((x2.length : Int) - 1)))]) ⟨rfl, rfl, trivial⟩ ?_
  obtain ⟨o152, ho152, hF⟩ := bnd hF
  refine C_cutQ (fun a w' => .inl () = o152 ∧ Fr 21 a [] ∧ Hp C w' ρ (hs)) ?_ ?_
  · refine C_block ?_
    refine C_iter (f := fun s => F_slices_IsSorted_int_int_l0 N x2 s) ho152 (fun s a w' => ∃ (x172 : Int), x172 = s ∧ Fr 21 a [(0, v1), (3, .int .i64 x172)] ∧ Hp C w' ρ (hs)) ?_ ?_
    · exact fun a hf => ⟨w64 ((x2.length : Int) - 1), rfl, hf.sub ⟨rfl, rfl, trivial⟩, H⟩
    · rintro s o192 a wd195 ⟨x172, rfl, hf, H⟩ hB193 hO194
      replace hB193 : F_slices_IsSorted_int_int_l0 N x2 x172 = some o192 := hB193
      unfold F_slices_IsSorted_int_int_l0 at hB193
      refine CW.at hf ?_
      refine C_seq ?_
      refine C_seq ?_
      refine R_nd ?_
      refine nq (v := .int .i64 x172) (Q_move rfl) rfl rfl ?_
      refine nq (v := .bool (decide (x172 > 0))) (Q_gtr rfl rfl) rfl rfl ?_
      refine WL_nil ?_
      refine x_then ?_
      refine CW.sub (E' := [(0, v1), (3, .int .i64 x172), (8, .bool (decide (x172 > 0)))]) ⟨rfl, rfl, rfl, trivial⟩ ?_
      refine C_cond rfl (fun hb => ?_) (fun hb => ?_)
      · replace hB193 := itT hb hB193
        refine C_skip ?_
        refine x_then ?_
        refine CW.sub (E' := [(0, v1), (3, .int .i64 x172)]) ⟨rfl, rfl, trivial⟩ ?_
        refine C_seq ?_
        refine C_block ?_
        refine C_seq ?_
        refine R_dr (.take 0 (.take 1 (.take 2 (.take 3 (.take 4 (.take 5 (.take 6 (.take 7 (.take 8 (.one 9 .done)))))))))) (fun w' => Ok w' ρ []) (by kernel_rfl) (by kernel_rfl) (by kernel_rfl) (H.drew.okS (by simp)) ?_
        replace H := H.drew
        refine dq (v := v1) rfl (fun w' hw => Q_move rfl) rfl rfl ?_
        refine dq (v := .int .i64 x172) rfl (fun w' hw => Q_move rfl) rfl rfl ?_
        obtain ⟨x196, hx196, hB193⟩ := bnd hB193
        obtain ⟨b197, o198, c199, hc200, ha201, hi202⟩ := idxR r3 hx196
        refine dq (v := .pointer (some ⟨b197, o198, none⟩)) rfl (fun w' hw => Q_idx hi202 Tryd.underlying23 ty3 rfl rfl) rfl rfl ?_
        refine dq (v := .int .i64 x196) rfl (fun w' hw => Q_ld (show cellsAt _ _ _ [.int .i64 x196] from (show _ = [_] from hc200) ▸ (ha201.up hw.view)) ty3 rfl (fun _ => rfl) rfl rfl) rfl rfl ?_
        refine dq (v := v1) rfl (fun w' hw => Q_move rfl) rfl rfl ?_
        refine dq (v := .int .i64 x172) rfl (fun w' hw => Q_move rfl) rfl rfl ?_
        refine dq (v := .int .i64 (w64 (x172 - 1))) rfl (fun w' hw => Q_sub rfl rfl) rfl rfl ?_
        obtain ⟨x203, hx203, hB193⟩ := bnd hB193
        obtain ⟨b204, o205, c206, hc207, ha208, hi209⟩ := idxR r3 hx203
        refine dq (v := .pointer (some ⟨b204, o205, none⟩)) rfl (fun w' hw => Q_idx hi209 Tryd.underlying23 ty3 rfl rfl) rfl rfl ?_
        refine dq (v := .int .i64 x203) rfl (fun w' hw => Q_ld (show cellsAt _ _ _ [.int .i64 x203] from (show _ = [_] from hc207) ▸ (ha208.up hw.view)) ty3 rfl (fun _ => rfl) rfl rfl) rfl rfl ?_
        obtain ⟨q210, hq210, hB193⟩ := bnd hB193
        refine d1 (de rfl (E_call fn79 rfl (c_79 H   hq210)) rfl rfl ?_)
        rintro _ wd213 ⟨x212, rfl, rfl, H⟩
        try dsimp only at hB193
        replace H : Hp C wd213 ρ (hs) := H
        refine ⟨H.okS (by simp), ?_⟩
        refine DL_nil ?_
        refine x_then ?_
        refine CW.sub (E' := [(0, v1), (3, .int .i64 x172), (20, .bool x212)]) ⟨rfl, rfl, rfl, trivial⟩ ?_
        refine C_cond rfl (fun hb => ?_) (fun hb => ?_)
        · replace hB193 := itT hb hB193
          refine C_seq ?_
          refine R_nd ?_
          refine nq (v := .bool false) (Q_assign rfl) rfl rfl ?_
          refine WL_nil ?_
          refine x_then ?_
          refine CW.sub (E' := [(2, .bool false)]) ⟨rfl, trivial⟩ ?_
          refine C_ret ?_
          refine x_block_ret ?_
          refine x_then_ret ?_
          refine x_then_ret ?_
          refine x_block_ret ?_
          refine x_then_ret ?_
          refine x_then_ret ?_
          obtain rfl := Option.some.inj hB193
          obtain rfl := hO194 _ rfl
          obtain rfl := Option.some.inj (show some _ = some _ from hF)
          exact fn_ret (l := [.tmp 2]) (vs := [.bool false]) rfl rfl rfl ⟨false, rfl, rfl, H⟩
        · replace hB193 := itF hb hB193
          refine C_skip ?_
          refine x_block ?_
          refine x_then ?_
          refine CW.sub (E' := [(0, v1), (3, .int .i64 x172)]) ⟨rfl, rfl, trivial⟩ ?_
          refine R_nd ?_
          refine nq (v := .int .i64 x172) (Q_move rfl) rfl rfl ?_
          refine nq (v := .int .i64 (w64 (x172 - 1))) (Q_sub rfl rfl) rfl rfl ?_
          refine nq (v := .int .i64 (w64 (x172 - 1))) (Q_assign rfl) rfl rfl ?_
          refine WL_nil ?_
          obtain rfl := Option.some.inj hB193
          refine x_A fun a hf => ⟨_, rfl, w64 (x172 - 1), rfl, hf.sub ⟨rfl, rfl, trivial⟩, H⟩
      · replace hB193 := itF hb hB193
        refine C_exit ?_
        refine x_then_exit ?_
        refine x_then_exit ?_
        refine x_block_exit ?_
        obtain rfl := Option.some.inj hB193
        obtain rfl := hO194 _ rfl
        refine x_A fun a hf => ⟨rfl, hf.sub trivial, H⟩
  · rintro a wd214 ⟨rfl, hf, H⟩
    try dsimp only at hF
    refine XX.at hf ?_
    refine x_then ?_
    refine CW.sub (E' := []) trivial ?_
    refine C_seq ?_
    refine R_nd ?_
    refine nq (v := .bool true) (Q_assign rfl) rfl rfl ?_
    refine WL_nil ?_
    refine x_then ?_
    refine CW.sub (E' := [(2, .bool true)]) ⟨rfl, trivial⟩ ?_
    refine C_ret ?_
    obtain rfl := Option.some.inj hF
    exact fn_ret (l := [.tmp 2]) (vs := [.bool true]) rfl rfl rfl ⟨true, rfl, rfl, H⟩
theorem c_20 {N : Nat} {C : Cx} {w : World} {ρ : View} {hs : List Hl} {v1 : Value} {v4 : Value} {v7 : Value} {x2 : (List (List Int))} {x5 : (List Int)} {x8 : (List Int)} (H : Hp C w ρ (hs)) {ge0 : Value} (gl0 : GErr ρ 0 ge0) (r3 : RdSl ρ (eA 256 (eI .i64)) v1 x2) (r6 : RdSl ρ (eI .i64) v4 x5) (r9 : RdSl ρ (eI .i64) v7 x8) {r : Bool} (hF : F_canon_IsCanon N x2 x5 x8 = some r) :
    Calls Tryd.prog 20 [.agg #[v1, v4, v7]].toArray w (Rets (fun v w' => (∃ (x30 : Bool), x30 = r ∧ .bool x30 = v ∧ Hp C w' ρ (hs)))) := by
  unfold F_canon_IsCanon at hF
  have h0 : Tryd.f20.body = some _ := rfl
  refine fn_calls' Tryd.func20 h0 (n := 21) rfl (by simp) ?_
  refine C_seq ?_
  refine R_nd ?_
  refine ne (E_box H (vs := [v1, v4, v7]) rfl rfl) rfl rfl ?_
  rintro _ wd32 ⟨b31, rfl, H⟩
  replace H : Hp C wd32 ρ (Box b31 [v1, v4, v7] :: hs) := H
  refine nq (v := .bool false) (Q_assign rfl) rfl rfl ?_
  refine WL_nil ?_
  refine x_then ?_
  refine CW.sub (E' := [(1, .pointer (some ⟨b31, 0, none⟩))]) ⟨rfl, trivial⟩ ?_
  refine C_seq ?_
  refine R_nd ?_
  refine nq (v := .agg #[v1, v4, v7]) (Q_ldB (k := 0) (cs := [v1, v4, v7]) H.ok rfl ty25 rfl rfl rfl (fun h => nomatch h) rfl) rfl rfl ?_
  obtain ⟨q33, hq33, hF⟩ := bnd hF
  refine ne (E_call fn18 rfl (c_18 H gl0 r3 r6 r9 hq33)) rfl rfl ?_
  rintro _ wd39 ⟨v35, c36, x37, rfl, rfl, r38, H⟩
  try dsimp only at hF
  replace H : Hp C wd39 ρ (Arr v35 1 c36 :: Box b31 [v1, v4, v7] :: hs) := H
  refine nq (v := v35) (Q_assign rfl) rfl rfl ?_
  refine WL_nil ?_
  refine x_then ?_
  refine CW.sub (E' := [(1, .pointer (some ⟨b31, 0, none⟩)), (3, v35)]) ⟨rfl, rfl, trivial⟩ ?_
  obtain ⟨o45, ho45, hF⟩ := bnd hF
  refine C_cut (fun a w' => ∃ (x44 : Bool), x44 = o45 ∧ Fr 21 a [(2, .bool x44)] ∧ Hp C w' ρ (hs)) ?_ ?_
  · refine R_nd ?_
    refine nq (v := v35) (Q_move rfl) rfl rfl ?_
    refine nq (v := .int .i64 (x37.length : Int)) (Q_lenA (k := 0) H.ok rfl r38 (by decide) Tryd.underlying23 rfl) rfl rfl ?_
    refine nq (v := .bool (decide ((x37.length : Int) > 0))) (Q_gtr rfl rfl) rfl rfl ?_
    refine nq (v := .bool (decide ((x37.length : Int) > 0))) (Q_move rfl) rfl rfl ?_
    rcases Bool.eq_false_or_eq_true (decide ((x37.length : Int) > 0)) with hb | hb
    · rw [hb]
      replace ho45 := itT hb ho45
      refine gq (v := v35) (Q_move rfl) rfl rfl rfl ?_
      refine gq (v := .int .i64 (x37.length : Int)) (Q_lenA (k := 0) H.ok rfl r38 (by decide) Tryd.underlying23 rfl) rfl rfl rfl ?_
      refine gq (v := .pointer (some ⟨b31, 0, none⟩)) (Q_fld Tryd.underlying25 rfl ty22 (by decide) rfl rfl) rfl rfl rfl ?_
      refine gq (v := v1) (Q_ldB (k := 1) (cs := [v1]) H.ok rfl ty22 rfl rfl rfl (fun _ => rfl) rfl) rfl rfl rfl ?_
      refine gq (v := .int .i64 (x2.length : Int)) (Q_len Tryd.underlying22 rfl r3) rfl rfl rfl ?_
      refine gq (v := .bool ((x37.length : Int) == (x2.length : Int))) (Q_eql rfl rfl) rfl rfl rfl ?_
      refine nq (v := .bool ((x37.length : Int) == (x2.length : Int))) (Q_pickT rfl rfl) rfl rfl ?_
      refine nq (v := .bool ((x37.length : Int) == (x2.length : Int))) (Q_move rfl) rfl rfl ?_
      rcases Bool.eq_false_or_eq_true ((x37.length : Int) == (x2.length : Int)) with hb | hb
      · rw [hb]
        replace ho45 := itT hb ho45
        refine gq (v := v35) (Q_move rfl) rfl rfl rfl ?_
        obtain ⟨q46, hq46, ho45⟩ := bnd ho45
        obtain ⟨C', ρ', hl47, HA, hL, hback⟩ := Hp.lend (A := []) (L := [Arr v35 1 c36]) (F := Box b31 [v1, v4, v7] :: hs) H
        refine ge (E_call fn54 rfl (c_54 HA  (arr_rd (by decide) hl47 (hL (Arr v35 1 c36) (by simp)) r38) hq46)) rfl rfl rfl ?_
        rintro _ wd49 ⟨x48, rfl, rfl, H⟩
        try dsimp only at ho45
        replace H := hback H
        replace H : Hp C wd49 ρ (Arr v35 1 c36 :: Box b31 [v1, v4, v7] :: hs) := H
        refine nq (v := .bool x48) (Q_pickT rfl rfl) rfl rfl ?_
        refine nq (v := .bool x48) (Q_assign rfl) rfl rfl ?_
        refine WL_nil ?_
        replace H := H.drop 0 rfl
        replace H : Hp C wd49 ρ (Box b31 [v1, v4, v7] :: hs) := H
        replace H := H.drop 0 rfl
        replace H : Hp C wd49 ρ (hs) := H
        obtain rfl := Option.some.inj ho45
        refine x_A fun a hf => ⟨x48, rfl, hf.sub ⟨rfl, trivial⟩, H⟩
      · rw [hb]
        replace ho45 := itF hb ho45
        refine gs rfl rfl rfl rfl ?_
        refine gs rfl rfl rfl rfl ?_
        refine nq (v := .bool false) (Q_pickF rfl rfl) rfl rfl ?_
        refine nq (v := .bool false) (Q_assign rfl) rfl rfl ?_
        refine WL_nil ?_
        replace H := H.drop 0 rfl
        replace H : Hp C wd39 ρ (Box b31 [v1, v4, v7] :: hs) := H
        replace H := H.drop 0 rfl
        replace H : Hp C wd39 ρ (hs) := H
        obtain rfl := Option.some.inj ho45
        refine x_A fun a hf => ⟨false, rfl, hf.sub ⟨rfl, trivial⟩, H⟩
    · rw [hb]
      replace ho45 := itF hb ho45
      refine gs rfl rfl rfl rfl ?_
      refine gs rfl rfl rfl rfl ?_
      refine gs rfl rfl rfl rfl ?_
      refine gs rfl rfl rfl rfl ?_
      refine gs rfl rfl rfl rfl ?_
      refine gs rfl rfl rfl rfl ?_
      refine nq (v := .bool false) (Q_pickF rfl rfl) rfl rfl ?_
      refine nq (v := .bool false) (Q_move rfl) rfl rfl ?_
      refine gs rfl rfl rfl rfl ?_
      refine gs rfl rfl rfl rfl ?_
      refine nq (v := .bool false) (Q_pickF rfl rfl) rfl rfl ?_
      refine nq (v := .bool false) (Q_assign rfl) rfl rfl ?_
      refine WL_nil ?_
      replace H := H.drop 0 rfl
      replace H : Hp C wd39 ρ (Box b31 [v1, v4, v7] :: hs) := H
      replace H := H.drop 0 rfl
      replace H : Hp C wd39 ρ (hs) := H
      obtain rfl := Option.some.inj ho45
      refine x_A fun a hf => ⟨false, rfl, hf.sub ⟨rfl, trivial⟩, H⟩
  · rintro a wd50 ⟨x44, rfl, hf, H⟩
    try dsimp only at hF
    refine CW.at hf ?_
    refine C_ret ?_
    obtain rfl := Option.some.inj hF
    exact fn_ret (l := [.tmp 2]) (vs := [.bool x44]) rfl rfl rfl ⟨x44, rfl, rfl, H⟩
theorem c_56 {N : Nat} {C : Cx} {w : World} {ρ : View} {hs : List Hl} {v1 : Value} {x2 : (List Int)} {x4 : Int} (H : Hp C w ρ (hs)) (r3 : RdSl ρ (eI .i64) v1 x2) {r : Bool} (hF : F_doffernum_In N x2 x4 = some r) :
    Calls Tryd.prog 56 [v1, .int .i64 x4].toArray w (Rets (fun v w' => (∃ (x63 : Bool), x63 = r ∧ .bool x63 = v ∧ Hp C w' ρ (hs)))) := by
  unfold F_doffernum_In at hF
  have h0 : Tryd.f56.body = some _ := rfl
  refine fn_calls' Tryd.func56 h0 (n := 17) rfl (by simp) ?_
  refine C_seq ?_
  refine R_nd ?_
  refine nq (v := .bool false) (Q_assign rfl) rfl rfl ?_
  refine WL_nil ?_
  refine x_then ?_
  refine CW.sub (E' := [(0, v1), (1, .int .i64 x4)]) ⟨rfl, rfl, trivial⟩ ?_
  refine C_seq ?_
  refine C_seq ?_
  refine R_nd ?_
  refine nq (v := v1) (Q_move rfl) rfl rfl ?_
  refine nq (v := .int .i64 (x2.length : Int)) (Q_len Tryd.underlying23 rfl r3) rfl rfl ?_
  refine nq (v := .int .i64 0) (Q_move rfl) rfl rfl ?_
  refine WL_nil ?_
  refine x_then ?_
  refine CW.sub (E' := [(1, .int .i64 x4), (7, v1), (8, .int .i64 (x2.length : Int)), (9, .int .i64 0)]) ⟨rfl, rfl, rfl, rfl, trivial⟩ ?_
  obtain ⟨o92, ho92, hF⟩ := bnd hF
  refine C_cutQ (fun a w' => .inl () = o92 ∧ Fr 17 a [] ∧ Hp C w' ρ (hs)) ?_ ?_
  · refine C_block ?_
    refine C_iter (f := fun s => F_doffernum_In_l0 N x2 x4 s) ho92 (fun s a w' => ∃ (x101 : Int), x101 = s ∧ Fr 17 a [(1, .int .i64 x4), (7, v1), (8, .int .i64 (x2.length : Int)), (9, .int .i64 x101)] ∧ Hp C w' ρ (hs)) ?_ ?_
    · exact fun a hf => ⟨0, rfl, hf.sub ⟨rfl, rfl, rfl, rfl, trivial⟩, H⟩
    · rintro s o110 a wd113 ⟨x101, rfl, hf, H⟩ hB111 hO112
      replace hB111 : F_doffernum_In_l0 N x2 x4 x101 = some o110 := hB111
      unfold F_doffernum_In_l0 at hB111
      refine CW.at hf ?_
      refine C_seq ?_
      refine R_nd ?_
      refine nq (v := .bool (decide (x101 < (x2.length : Int)))) (Q_lss rfl rfl) rfl rfl ?_
      refine WL_nil ?_
      refine x_then ?_
      refine CW.sub (E' := [(1, .int .i64 x4), (7, v1), (8, .int .i64 (x2.length : Int)), (9, .int .i64 x101), (10, .bool (decide (x101 < (x2.length : Int))))]) ⟨rfl, rfl, rfl, rfl, rfl, trivial⟩ ?_
      refine C_seq ?_
      refine C_cond rfl (fun hb => ?_) (fun hb => ?_)
      · replace hB111 := itT hb hB111
        refine C_skip ?_
        refine x_then ?_
        refine CW.sub (E' := [(1, .int .i64 x4), (7, v1), (8, .int .i64 (x2.length : Int)), (9, .int .i64 x101)]) ⟨rfl, rfl, rfl, rfl, trivial⟩ ?_
        refine C_seq ?_
        refine C_block ?_
        refine C_seq ?_
        refine R_nd ?_
        obtain ⟨x114, hx114, hB111⟩ := bnd hB111
        obtain ⟨b115, o116, c117, hc118, ha119, hi120⟩ := idxR r3 hx114
        refine nq (v := .pointer (some ⟨b115, o116, none⟩)) (Q_idx hi120 Tryd.underlying23 ty3 rfl rfl) rfl rfl ?_
        refine nq (v := .int .i64 x114) (Q_ld (show cellsAt _ _ _ [.int .i64 x114] from (show _ = [_] from hc118) ▸ (ha119.up H.ok.view)) ty3 rfl (fun _ => rfl) rfl rfl) rfl rfl ?_
        refine nq (v := .int .i64 x114) (Q_assign rfl) rfl rfl ?_
        refine WL_nil ?_
        refine x_then ?_
        refine CW.sub (E' := [(1, .int .i64 x4), (6, .int .i64 x114), (7, v1), (8, .int .i64 (x2.length : Int)), (9, .int .i64 x101)]) ⟨rfl, rfl, rfl, rfl, rfl, trivial⟩ ?_
        refine C_seq ?_
        refine R_nd ?_
        refine nq (v := .int .i64 x114) (Q_move rfl) rfl rfl ?_
        refine nq (v := .int .i64 x4) (Q_move rfl) rfl rfl ?_
        refine nq (v := .bool (x114 == x4)) (Q_eql rfl rfl) rfl rfl ?_
        refine WL_nil ?_
        refine x_then ?_
        refine CW.sub (E' := [(1, .int .i64 x4), (7, v1), (8, .int .i64 (x2.length : Int)), (9, .int .i64 x101), (15, .bool (x114 == x4))]) ⟨rfl, rfl, rfl, rfl, rfl, trivial⟩ ?_
        refine C_cond rfl (fun hb => ?_) (fun hb => ?_)
        · replace hB111 := itT hb hB111
          refine C_seq ?_
          refine R_nd ?_
          refine nq (v := .bool true) (Q_assign rfl) rfl rfl ?_
          refine WL_nil ?_
          refine x_then ?_
          refine CW.sub (E' := [(4, .bool true)]) ⟨rfl, trivial⟩ ?_
          refine C_ret ?_
          refine x_block_ret ?_
          refine x_then_ret ?_
          refine x_then_ret ?_
          refine x_block_ret ?_
          refine x_then_ret ?_
          refine x_then_ret ?_
          obtain rfl := Option.some.inj hB111
          obtain rfl := hO112 _ rfl
          obtain rfl := Option.some.inj (show some _ = some _ from hF)
          exact fn_ret (l := [.tmp 4]) (vs := [.bool true]) rfl rfl rfl ⟨true, rfl, rfl, H⟩
        · replace hB111 := itF hb hB111
          refine C_skip ?_
          refine x_block ?_
          refine x_then ?_
          refine CW.sub (E' := [(1, .int .i64 x4), (7, v1), (8, .int .i64 (x2.length : Int)), (9, .int .i64 x101)]) ⟨rfl, rfl, rfl, rfl, trivial⟩ ?_
          refine R_nd ?_
          refine nq (v := .int .i64 (w64 (x101 + 1))) (Q_add rfl rfl) rfl rfl ?_
          refine nq (v := .int .i64 (w64 (x101 + 1))) (Q_move rfl) rfl rfl ?_
          refine WL_nil ?_
          obtain rfl := Option.some.inj hB111
          refine x_A fun a hf => ⟨_, rfl, w64 (x101 + 1), rfl, hf.sub ⟨rfl, rfl, rfl, rfl, trivial⟩, H⟩
      · replace hB111 := itF hb hB111
        refine C_exit ?_
        refine x_then_exit ?_
        refine x_then_exit ?_
        refine x_block_exit ?_
        obtain rfl := Option.some.inj hB111
        obtain rfl := hO112 _ rfl
        refine x_A fun a hf => ⟨rfl, hf.sub trivial, H⟩
  · rintro a wd121 ⟨rfl, hf, H⟩
    try dsimp only at hF
    refine XX.at hf ?_
    refine x_then ?_
    refine CW.sub (E' := []) trivial ?_
    refine C_seq ?_
    refine R_nd ?_
    refine nq (v := .bool false) (Q_assign rfl) rfl rfl ?_
    refine WL_nil ?_
    refine x_then ?_
    refine CW.sub (E' := [(4, .bool false)]) ⟨rfl, trivial⟩ ?_
    refine C_ret ?_
    obtain rfl := Option.some.inj hF
    exact fn_ret (l := [.tmp 4]) (vs := [.bool false]) rfl rfl rfl ⟨false, rfl, rfl, H⟩
theorem c_23 {N : Nat} {C : Cx} {w : World} {ρ : View} {hs : List Hl} {v1 : Value} {v4 : Value} {v7 : Value} {x2 : (List (List Int))} {x5 : (List Int)} {x8 : (List Int)} (H : Hp C w ρ (hs)) (r3 : RdSl ρ (eA 256 (eI .i64)) v1 x2) (r6 : RdSl ρ (eI .i64) v4 x5) (r9 : RdSl ρ (eI .i64) v7 x8) {r : (List Int)} (hF : F_dofferref20_Order N x2 x5 x8 = some r) :
    Calls Tryd.prog 23 [.agg #[v1, v4, v7]].toArray w (Rets (fun v w' => (∃ (v4256 : Value) (c4257 : (List Value)) (x4258 : (List Int)), x4258 = r ∧ v4256 = v ∧ rdL (eI .i64) ρ x4258 c4257 ∧ Hp C w' ρ (Arr v4256 1 c4257 :: hs)))) := by
  unfold F_dofferref20_Order at hF
  have h0 : Tryd.f23.body = some _ := rfl
  refine fn_calls' Tryd.func23 h0 (n := 55) rfl (by simp) ?_
  refine C_seq ?_
  refine R_nd ?_
  refine ne (E_box H (vs := [v1, v4, v7]) rfl rfl) rfl rfl ?_
  rintro _ wd4261 ⟨b4260, rfl, H⟩
  replace H : Hp C wd4261 ρ (Box b4260 [v1, v4, v7] :: hs) := H
  refine nq (v := .slice none 0 0) (Q_assign rfl) rfl rfl ?_
  refine WL_nil ?_
  refine x_then ?_
  refine CW.sub (E' := [(1, .pointer (some ⟨b4260, 0, none⟩))]) ⟨rfl, trivial⟩ ?_
  refine C_seq ?_
  refine R_nd ?_
  refine ne (E_bslice (xs := [.const (.int .i64 0)]) (vs := [.int .i64 0]) H Tryd.underlying23 ty3 (by decide) (cs := [.int .i64 0]) rfl (sz_cons rfl sz_nil) rfl (by simp) (by simp) rfl rfl) rfl rfl ?_
  rintro _ wd4263 ⟨b4262, rfl, H⟩
  replace H : Hp C wd4263 ρ (Arr (.slice (some ⟨b4262, 0, none⟩) 1 1) 1 ([.int .i64 0]) :: Box b4260 [v1, v4, v7] :: hs) := H
  refine nq (v := (.slice (some ⟨b4262, 0, none⟩) 1 1)) (Q_assign rfl) rfl rfl ?_
  refine WL_nil ?_
  refine x_then ?_
  refine CW.sub (E' := [(1, .pointer (some ⟨b4260, 0, none⟩)), (3, (.slice (some ⟨b4262, 0, none⟩) 1 1))]) ⟨rfl, rfl, trivial⟩ ?_
  refine C_seq ?_
  refine C_seq ?_
  refine R_nd ?_
  refine nq (v := .pointer (some ⟨b4260, 2, none⟩)) (Q_fld Tryd.underlying29 rfl ty23 (by decide) rfl rfl) rfl rfl ?_
  refine nq (v := v7) (Q_ldB (k := 1) (cs := [v7]) H.ok rfl ty23 rfl rfl rfl (fun _ => rfl) rfl) rfl rfl ?_
  refine nq (v := .int .i64 (x8.length : Int)) (Q_len Tryd.underlying23 rfl r9) rfl rfl ?_
  refine nq (v := .int .i64 0) (Q_move rfl) rfl rfl ?_
  refine WL_nil ?_
  refine x_then ?_
  refine CW.sub (E' := [(1, .pointer (some ⟨b4260, 0, none⟩)), (3, (.slice (some ⟨b4262, 0, none⟩) 1 1)), (11, v7), (12, .int .i64 (x8.length : Int)), (13, .int .i64 0)]) ⟨rfl, rfl, rfl, rfl, rfl, trivial⟩ ?_
  obtain ⟨o4503, ho4503, hF⟩ := bnd hF
  refine C_cutQ (fun a w' => ∃ (v4499 : Value) (c4500 : (List Value)) (x4501 : (List Int)), x4501 = o4503 ∧ rdL (eI .i64) ρ x4501 c4500 ∧ Fr 55 a [(1, .pointer (some ⟨b4260, 0, none⟩)), (3, v4499)] ∧ Hp C w' ρ (Box b4260 [v1, v4, v7] :: Arr v4499 1 c4500 :: hs)) ?_ ?_
  · refine C_block ?_
    replace H := H.front 1 rfl
    replace H : Hp C wd4263 ρ (Box b4260 [v1, v4, v7] :: Arr (.slice (some ⟨b4262, 0, none⟩) 1 1) 1 ([.int .i64 0]) :: hs) := H
    refine C_iter (f := fun s => F_dofferref20_Order_l0 N x8 s.1 s.2) ho4503 (fun s a w' => ∃ (v4582 : Value) (c4583 : (List Value)) (x4581 : Int) (x4584 : (List Int)), (x4581, x4584) = s ∧ rdL (eI .i64) ρ x4584 c4583 ∧ Fr 55 a [(1, .pointer (some ⟨b4260, 0, none⟩)), (3, v4582), (11, v7), (12, .int .i64 (x8.length : Int)), (13, .int .i64 x4581)] ∧ Hp C w' ρ (Box b4260 [v1, v4, v7] :: Arr v4582 1 c4583 :: hs)) ?_ ?_
    · exact fun a hf => ⟨(.slice (some ⟨b4262, 0, none⟩) 1 1), [.int .i64 0], 0, [0], rfl, (show rdL (eI .i64) ρ ([0]) ([.int .i64 0]) from ⟨([.int .i64 0]), _, rfl, rfl, rdL.nil⟩), hf.sub ⟨rfl, rfl, rfl, rfl, rfl, trivial⟩, H⟩
    · rintro s o4663 a wd4666 ⟨v4582, c4583, x4581, x4584, rfl, r4585, hf, H⟩ hB4664 hO4665
      replace hB4664 : F_dofferref20_Order_l0 N x8 x4581 x4584 = some o4663 := hB4664
      unfold F_dofferref20_Order_l0 at hB4664
      refine CW.at hf ?_
      refine C_seq ?_
      refine R_nd ?_
      refine nq (v := .bool (decide (x4581 < (x8.length : Int)))) (Q_lss rfl rfl) rfl rfl ?_
      refine WL_nil ?_
      refine x_then ?_
      refine CW.sub (E' := [(1, .pointer (some ⟨b4260, 0, none⟩)), (3, v4582), (11, v7), (12, .int .i64 (x8.length : Int)), (13, .int .i64 x4581), (14, .bool (decide (x4581 < (x8.length : Int))))]) ⟨rfl, rfl, rfl, rfl, rfl, rfl, trivial⟩ ?_
      refine C_seq ?_
      refine C_cond rfl (fun hb => ?_) (fun hb => ?_)
      · replace hB4664 := itT hb hB4664
        refine C_skip ?_
        refine x_then ?_
        refine CW.sub (E' := [(1, .pointer (some ⟨b4260, 0, none⟩)), (3, v4582), (11, v7), (12, .int .i64 (x8.length : Int)), (13, .int .i64 x4581)]) ⟨rfl, rfl, rfl, rfl, rfl, trivial⟩ ?_
        obtain ⟨o4704, ho4704, hB4664⟩ := bnd hB4664
        refine C_cut (fun a w' => ∃ (v4700 : Value) (c4701 : (List Value)) (x4702 : (List Int)), x4702 = o4704 ∧ rdL (eI .i64) ρ x4702 c4701 ∧ Fr 55 a [(1, .pointer (some ⟨b4260, 0, none⟩)), (3, v4700), (11, v7), (12, .int .i64 (x8.length : Int)), (13, .int .i64 x4581)] ∧ Hp C w' ρ (Box b4260 [v1, v4, v7] :: Arr v4700 1 c4701 :: hs)) ?_ ?_
        · refine C_block ?_
          refine C_seq ?_
          refine R_nd ?_
          obtain ⟨x4705, hx4705, ho4704⟩ := bnd ho4704
          obtain ⟨b4706, o4707, c4708, hc4709, ha4710, hi4711⟩ := idxR r9 hx4705
          refine nq (v := .pointer (some ⟨b4706, o4707, none⟩)) (Q_idx hi4711 Tryd.underlying23 ty3 rfl rfl) rfl rfl ?_
          refine nq (v := .int .i64 x4705) (Q_ld (show cellsAt _ _ _ [.int .i64 x4705] from (show _ = [_] from hc4709) ▸ (ha4710.up H.ok.view)) ty3 rfl (fun _ => rfl) rfl rfl) rfl rfl ?_
          refine nq (v := .int .i64 x4705) (Q_assign rfl) rfl rfl ?_
          refine WL_nil ?_
          refine x_then ?_
          refine CW.sub (E' := [(1, .pointer (some ⟨b4260, 0, none⟩)), (3, v4582), (5, .int .i64 x4705), (11, v7), (12, .int .i64 (x8.length : Int)), (13, .int .i64 x4581)]) ⟨rfl, rfl, rfl, rfl, rfl, rfl, trivial⟩ ?_
          refine C_seq ?_
          refine R_nd ?_
          refine nq (v := v4582) (Q_move rfl) rfl rfl ?_
          refine nq (v := .int .i64 x4705) (Q_move rfl) rfl rfl ?_
          replace H := H.front 1 rfl
          replace H : Hp C wd4666 ρ (Arr v4582 1 c4583 :: Box b4260 [v1, v4, v7] :: hs) := H
          obtain ⟨q4712, hq4712, ho4704⟩ := bnd ho4704
          obtain ⟨C', ρ', hl4713, HA, hL, hback⟩ := Hp.lend (A := []) (L := [Arr v4582 1 c4583]) (F := Box b4260 [v1, v4, v7] :: hs) H
          refine ne (E_call fn56 rfl (c_56 HA  (arr_rd (by decide) hl4713 (hL (Arr v4582 1 c4583) (by simp)) r4585) hq4712)) rfl rfl ?_
          rintro _ wd4715 ⟨x4714, rfl, rfl, H⟩
          try dsimp only at ho4704
          replace H := hback H
          replace H : Hp C wd4715 ρ (Arr v4582 1 c4583 :: Box b4260 [v1, v4, v7] :: hs) := H
          refine nq (v := .bool (!x4714)) (Q_not rfl) rfl rfl ?_
          refine WL_nil ?_
          refine x_then ?_
          refine CW.sub (E' := [(1, .pointer (some ⟨b4260, 0, none⟩)), (3, v4582), (5, .int .i64 x4705), (11, v7), (12, .int .i64 (x8.length : Int)), (13, .int .i64 x4581), (20, .bool (!x4714))]) ⟨rfl, rfl, rfl, rfl, rfl, rfl, rfl, trivial⟩ ?_
          obtain ⟨o4728, ho4728, ho4704⟩ := bnd ho4704
          refine C_cutQ (fun a w' => ∃ (v4724 : Value) (c4725 : (List Value)) (x4726 : (List Int)), x4726 = o4728 ∧ rdL (eI .i64) ρ x4726 c4725 ∧ Fr 55 a [(1, .pointer (some ⟨b4260, 0, none⟩)), (3, v4724), (11, v7), (12, .int .i64 (x8.length : Int)), (13, .int .i64 x4581)] ∧ Hp C w' ρ (Box b4260 [v1, v4, v7] :: Arr v4724 1 c4725 :: hs)) ?_ ?_
          · refine C_cond rfl (fun hb => ?_) (fun hb => ?_)
            · replace ho4728 := itT hb ho4728
              refine R_nd ?_
              refine nq (v := v4582) (Q_move rfl) rfl rfl ?_
              refine nq (v := .int .i64 x4705) (Q_move rfl) rfl rfl ?_
              refine ne (E_bslice (xs := [.tmp 22]) (vs := [.int .i64 x4705]) H Tryd.underlying23 ty3 (by decide) (cs := [.int .i64 x4705]) rfl (sz_cons rfl sz_nil) rfl (by simp) (by simp) rfl rfl) rfl rfl ?_
              rintro _ wd4730 ⟨b4729, rfl, H⟩
              replace H : Hp C wd4730 ρ (Arr (.slice (some ⟨b4729, 0, none⟩) 1 1) 1 ([.int .i64 x4705]) :: Arr v4582 1 c4583 :: Box b4260 [v1, v4, v7] :: hs) := H
              obtain ⟨x4731, hx4731, ho4728⟩ := bnd ho4728
              obtain ⟨ha4732a, ha4732b⟩ := app_some hx4731
              have r4734 : rdL (eI .i64) ρ x4731 (c4583 ++ ([.int .i64 x4705])) := ha4732b ▸ rdL.app r4585 (show rdL (eI .i64) ρ ([x4705]) ([.int .i64 x4705]) from ⟨([.int .i64 x4705]), _, rfl, rfl, rdL.nil⟩)
              refine ne (E_append (k := 1) H rfl Tryd.underlying23 ty3 rfl (by decide) (by decide) rfl rfl (Src.ofArr (k := 0) H.ok rfl) (rdL.one (show rdL (eI .i64) ρ ([x4705]) ([.int .i64 x4705]) from ⟨([.int .i64 x4705]), _, rfl, rfl, rdL.nil⟩)) (app_fit r4585 (show rdL (eI .i64) ρ ([x4705]) ([.int .i64 x4705]) from ⟨([.int .i64 x4705]), _, rfl, rfl, rdL.nil⟩) ha4732a)) rfl rfl ?_
              rintro v4733 wd4736 ⟨H, hc4735⟩
              replace H : Hp C wd4736 ρ (Arr (.slice (some ⟨b4729, 0, none⟩) 1 1) 1 ([.int .i64 x4705]) :: Arr v4733 1 (c4583 ++ ([.int .i64 x4705])) :: Box b4260 [v1, v4, v7] :: hs) := H
              refine nq (v := v4733) (Q_assign rfl) rfl rfl ?_
              refine WL_nil ?_
              replace H := H.front 1 rfl
              replace H : Hp C wd4736 ρ (Arr v4733 1 (c4583 ++ ([.int .i64 x4705])) :: Arr (.slice (some ⟨b4729, 0, none⟩) 1 1) 1 ([.int .i64 x4705]) :: Box b4260 [v1, v4, v7] :: hs) := H
              replace H := H.front 2 rfl
              replace H : Hp C wd4736 ρ (Box b4260 [v1, v4, v7] :: Arr v4733 1 (c4583 ++ ([.int .i64 x4705])) :: Arr (.slice (some ⟨b4729, 0, none⟩) 1 1) 1 ([.int .i64 x4705]) :: hs) := H
              replace H := H.drop 2 rfl
              replace H : Hp C wd4736 ρ (Box b4260 [v1, v4, v7] :: Arr v4733 1 (c4583 ++ ([.int .i64 x4705])) :: hs) := H
              obtain rfl := Option.some.inj ho4728
              refine x_A fun a hf => ⟨v4733, (c4583 ++ ([.int .i64 x4705])), x4731, rfl, r4734, hf.sub ⟨rfl, rfl, rfl, rfl, rfl, trivial⟩, H⟩
            · replace ho4728 := itF hb ho4728
              refine C_skip ?_
              replace H := H.front 1 rfl
              replace H : Hp C wd4715 ρ (Box b4260 [v1, v4, v7] :: Arr v4582 1 c4583 :: hs) := H
              obtain rfl := Option.some.inj ho4728
              refine x_A fun a hf => ⟨v4582, c4583, x4584, rfl, r4585, hf.sub ⟨rfl, rfl, rfl, rfl, rfl, trivial⟩, H⟩
          · rintro a wd4737 ⟨v4724, c4725, x4726, rfl, r4727, hf, H⟩
            try dsimp only at ho4704
            refine XX.at hf ?_
            refine x_block ?_
            replace H := H.front 1 rfl
            replace H : Hp C wd4737 ρ (Arr v4724 1 c4725 :: Box b4260 [v1, v4, v7] :: hs) := H
            replace H := H.front 1 rfl
            replace H : Hp C wd4737 ρ (Box b4260 [v1, v4, v7] :: Arr v4724 1 c4725 :: hs) := H
            obtain rfl := Option.some.inj ho4704
            refine x_A fun a hf => ⟨v4724, c4725, x4726, rfl, r4727, hf.sub ⟨rfl, rfl, rfl, rfl, rfl, trivial⟩, H⟩
        · rintro a wd4738 ⟨v4700, c4701, x4702, rfl, r4703, hf, H⟩
          try dsimp only at hB4664
          refine CW.at hf ?_
          refine R_nd ?_
          refine nq (v := .int .i64 (w64 (x4581 + 1))) (Q_add rfl rfl) rfl rfl ?_
          refine nq (v := .int .i64 (w64 (x4581 + 1))) (Q_move rfl) rfl rfl ?_
          refine WL_nil ?_
          replace H := H.front 1 rfl
          replace H : Hp C wd4738 ρ (Arr v4700 1 c4701 :: Box b4260 [v1, v4, v7] :: hs) := H
          replace H := H.front 1 rfl
          replace H : Hp C wd4738 ρ (Box b4260 [v1, v4, v7] :: Arr v4700 1 c4701 :: hs) := H
          obtain rfl := Option.some.inj hB4664
          refine x_A fun a hf => ⟨_, rfl, v4700, c4701, w64 (x4581 + 1), x4702, rfl, r4703, hf.sub ⟨rfl, rfl, rfl, rfl, rfl, trivial⟩, H⟩
      · replace hB4664 := itF hb hB4664
        refine C_exit ?_
        refine x_then_exit ?_
        refine x_then_exit ?_
        refine x_block_exit ?_
        replace H := H.front 1 rfl
        replace H : Hp C wd4666 ρ (Arr v4582 1 c4583 :: Box b4260 [v1, v4, v7] :: hs) := H
        replace H := H.front 1 rfl
        replace H : Hp C wd4666 ρ (Box b4260 [v1, v4, v7] :: Arr v4582 1 c4583 :: hs) := H
        obtain rfl := Option.some.inj hB4664
        obtain rfl := hO4665 _ rfl
        refine x_A fun a hf => ⟨v4582, c4583, x4584, rfl, r4585, hf.sub ⟨rfl, rfl, trivial⟩, H⟩
  · rintro a wd4739 ⟨v4499, c4500, x4501, rfl, r4502, hf, H⟩
    try dsimp only at hF
    refine XX.at hf ?_
    refine x_then ?_
    refine CW.sub (E' := [(1, .pointer (some ⟨b4260, 0, none⟩)), (3, v4499)]) ⟨rfl, rfl, trivial⟩ ?_
    refine C_seq ?_
    refine C_seq ?_
    refine R_nd ?_
    refine nq (v := .int .i64 1) (Q_assign rfl) rfl rfl ?_
    refine WL_nil ?_
    refine x_then ?_
    refine CW.sub (E' := [(1, .pointer (some ⟨b4260, 0, none⟩)), (3, v4499), (6, .int .i64 1)]) ⟨rfl, rfl, rfl, trivial⟩ ?_
    obtain ⟨o6623, ho6623, hF⟩ := bnd hF
    refine C_cutQ (fun a w' => ∃ (v6619 : Value) (c6620 : (List Value)) (x6621 : (List Int)), x6621 = o6623 ∧ rdL (eI .i64) ρ x6621 c6620 ∧ Fr 55 a [(3, v6619)] ∧ Hp C w' ρ (Arr v6619 1 c6620 :: hs)) ?_ ?_
    · refine C_block ?_
      replace H := H.front 1 rfl
      replace H : Hp C wd4739 ρ (Arr v4499 1 c4500 :: Box b4260 [v1, v4, v7] :: hs) := H
      replace H := H.front 1 rfl
      replace H : Hp C wd4739 ρ (Box b4260 [v1, v4, v7] :: Arr v4499 1 c4500 :: hs) := H
      refine C_iter (f := fun s => F_dofferref20_Order_l1 N x2 s.1 s.2) ho6623 (fun s a w' => ∃ (v7249 : Value) (c7250 : (List Value)) (x7251 : (List Int)) (x7253 : Int), (x7251, x7253) = s ∧ rdL (eI .i64) ρ x7251 c7250 ∧ Fr 55 a [(1, .pointer (some ⟨b4260, 0, none⟩)), (3, v7249), (6, .int .i64 x7253)] ∧ Hp C w' ρ (Box b4260 [v1, v4, v7] :: Arr v7249 1 c7250 :: hs)) ?_ ?_
      · exact fun a hf => ⟨v4499, c4500, x4501, 1, rfl, r4502, hf.sub ⟨rfl, rfl, rfl, trivial⟩, H⟩
      · rintro s o7879 a wd7882 ⟨v7249, c7250, x7251, x7253, rfl, r7252, hf, H⟩ hB7880 hO7881
        replace hB7880 : F_dofferref20_Order_l1 N x2 x7251 x7253 = some o7879 := hB7880
        unfold F_dofferref20_Order_l1 at hB7880
        refine CW.at hf ?_
        refine C_seq ?_
        refine C_seq ?_
        refine R_nd ?_
        refine nq (v := .int .i64 x7253) (Q_move rfl) rfl rfl ?_
        refine nq (v := v7249) (Q_move rfl) rfl rfl ?_
        refine nq (v := .int .i64 (x7251.length : Int)) (Q_lenA (k := 1) H.ok rfl r7252 (by decide) Tryd.underlying23 rfl) rfl rfl ?_
        refine nq (v := .bool (decide (x7253 < (x7251.length : Int)))) (Q_lss rfl rfl) rfl rfl ?_
        refine WL_nil ?_
        refine x_then ?_
        refine CW.sub (E' := [(1, .pointer (some ⟨b4260, 0, none⟩)), (3, v7249), (6, .int .i64 x7253), (29, .bool (decide (x7253 < (x7251.length : Int))))]) ⟨rfl, rfl, rfl, rfl, trivial⟩ ?_
        refine C_cond rfl (fun hb => ?_) (fun hb => ?_)
        · replace hB7880 := itT hb hB7880
          refine C_skip ?_
          refine x_then ?_
          refine CW.sub (E' := [(1, .pointer (some ⟨b4260, 0, none⟩)), (3, v7249), (6, .int .i64 x7253)]) ⟨rfl, rfl, rfl, trivial⟩ ?_
          refine C_seq ?_
          refine C_block ?_
          refine C_seq ?_
          refine R_nd ?_
          refine nq (v := .int .i64 0) (Q_assign rfl) rfl rfl ?_
          refine WL_nil ?_
          refine x_then ?_
          refine CW.sub (E' := [(1, .pointer (some ⟨b4260, 0, none⟩)), (3, v7249), (6, .int .i64 x7253), (7, .int .i64 0)]) ⟨rfl, rfl, rfl, rfl, trivial⟩ ?_
          obtain ⟨o8194, ho8194, hB7880⟩ := bnd hB7880
          refine C_cutQ (fun a w' => ∃ (v8190 : Value) (c8191 : (List Value)) (x8192 : (List Int)), x8192 = o8194 ∧ rdL (eI .i64) ρ x8192 c8191 ∧ Fr 55 a [(1, .pointer (some ⟨b4260, 0, none⟩)), (3, v8190), (6, .int .i64 x7253)] ∧ Hp C w' ρ (Box b4260 [v1, v4, v7] :: Arr v8190 1 c8191 :: hs)) ?_ ?_
          · refine C_block ?_
            replace H := H.front 1 rfl
            replace H : Hp C wd7882 ρ (Arr v7249 1 c7250 :: Box b4260 [v1, v4, v7] :: hs) := H
            replace H := H.front 1 rfl
            replace H : Hp C wd7882 ρ (Box b4260 [v1, v4, v7] :: Arr v7249 1 c7250 :: hs) := H
            refine C_iter (f := fun s => F_dofferref20_Order_l2 N x2 x7253 s.1 s.2) ho8194 (fun s a w' => ∃ (v8296 : Value) (c8297 : (List Value)) (x8298 : (List Int)) (x8300 : Int), (x8298, x8300) = s ∧ rdL (eI .i64) ρ x8298 c8297 ∧ Fr 55 a [(1, .pointer (some ⟨b4260, 0, none⟩)), (3, v8296), (6, .int .i64 x7253), (7, .int .i64 x8300)] ∧ Hp C w' ρ (Box b4260 [v1, v4, v7] :: Arr v8296 1 c8297 :: hs)) ?_ ?_
            · exact fun a hf => ⟨v7249, c7250, x7251, 0, rfl, r7252, hf.sub ⟨rfl, rfl, rfl, rfl, trivial⟩, H⟩
            · rintro s o8402 a wd8405 ⟨v8296, c8297, x8298, x8300, rfl, r8299, hf, H⟩ hB8403 hO8404
              replace hB8403 : F_dofferref20_Order_l2 N x2 x7253 x8298 x8300 = some o8402 := hB8403
              unfold F_dofferref20_Order_l2 at hB8403
              refine CW.at hf ?_
              refine C_seq ?_
              refine C_seq ?_
              refine R_nd ?_
              refine nq (v := .int .i64 x8300) (Q_move rfl) rfl rfl ?_
              refine nq (v := .bool (decide (x8300 < 256))) (Q_lss rfl rfl) rfl rfl ?_
              refine WL_nil ?_
              refine x_then ?_
              refine CW.sub (E' := [(1, .pointer (some ⟨b4260, 0, none⟩)), (3, v8296), (6, .int .i64 x7253), (7, .int .i64 x8300), (33, .bool (decide (x8300 < 256)))]) ⟨rfl, rfl, rfl, rfl, rfl, trivial⟩ ?_
              refine C_cond rfl (fun hb => ?_) (fun hb => ?_)
              · replace hB8403 := itT hb hB8403
                refine C_skip ?_
                refine x_then ?_
                refine CW.sub (E' := [(1, .pointer (some ⟨b4260, 0, none⟩)), (3, v8296), (6, .int .i64 x7253), (7, .int .i64 x8300)]) ⟨rfl, rfl, rfl, rfl, trivial⟩ ?_
                obtain ⟨o8455, ho8455, hB8403⟩ := bnd hB8403
                refine C_cut (fun a w' => ∃ (v8451 : Value) (c8452 : (List Value)) (x8453 : (List Int)), x8453 = o8455 ∧ rdL (eI .i64) ρ x8453 c8452 ∧ Fr 55 a [(1, .pointer (some ⟨b4260, 0, none⟩)), (3, v8451), (6, .int .i64 x7253), (7, .int .i64 x8300)] ∧ Hp C w' ρ (Box b4260 [v1, v4, v7] :: Arr v8451 1 c8452 :: hs)) ?_ ?_
                · refine C_block ?_
                  refine C_seq ?_
                  refine R_dr (.take 0 (.take 1 (.take 2 (.take 3 (.take 4 (.take 5 (.take 6 (.take 7 (.take 8 (.take 9 (.take 10 .done))))))))))) (fun w' => Ok w' ρ [Box b4260 [v1, v4, v7], Arr v8296 1 c8297]) (by kernel_rfl) (by kernel_rfl) (by kernel_rfl) (H.drew.okS (by simp)) ?_
                  replace H := H.drew
                  refine dq (v := .pointer (some ⟨b4260, 0, none⟩)) rfl (fun w' hw => Q_fld Tryd.underlying29 rfl ty27 (by decide) rfl rfl) rfl rfl ?_
                  refine dq (v := v1) rfl (fun w' hw => Q_ldB (k := 0) (cs := [v1]) hw rfl ty27 rfl rfl rfl (fun _ => rfl) rfl) rfl rfl ?_
                  refine dq (v := v8296) rfl (fun w' hw => Q_move rfl) rfl rfl ?_
                  refine dq (v := .int .i64 x7253) rfl (fun w' hw => Q_move rfl) rfl rfl ?_
                  obtain ⟨x8456, hx8456, ho8455⟩ := bnd ho8455
                  obtain ⟨b8457, o8458, hi8462, hc8460, ha8461⟩ := arr_at (hs := [Arr v8296 1 c8297]) (k := 0) (by decide) (H.okS (by simp)) rfl r8299 hx8456
                  refine dq (v := .pointer (some ⟨b8457, o8458, none⟩)) rfl (fun w' hw => Q_idx hi8462 Tryd.underlying23 ty3 rfl rfl) rfl rfl ?_
                  refine dq (v := .int .i64 x8456) rfl (fun w' hw => Q_ld (show cellsAt _ _ _ [.int .i64 x8456] from (show _ = [_] from hc8460) ▸ (ha8461 _ (Ok.subS (by simp) hw))) ty3 rfl (fun _ => rfl) rfl rfl) rfl rfl ?_
                  refine dq (v := .int .i64 x8300) rfl (fun w' hw => Q_move rfl) rfl rfl ?_
                  obtain ⟨x8463, hx8463, ho8455⟩ := bnd ho8455
                  obtain ⟨b8464, o8465, c8466, hc8467, ha8468, hi8469⟩ := idxR r3 hx8463
                  refine dq (v := .pointer (some ⟨b8464, o8465, none⟩)) rfl (fun w' hw => Q_idx hi8469 Tryd.underlying27 ty57 rfl rfl) rfl rfl ?_
                  obtain ⟨x8470, hx8470, ho8455⟩ := bnd ho8455
                  have hn8471 := idx_lt hc8467.1 hx8470
                  refine dq (v := .pointer (some ⟨b8464, o8465 + x8300.toNat * 1, none⟩)) rfl (fun w' hw => Q_idxA hn8471.1 hn8471.2 Tryd.underlying57 ty3 rfl rfl) rfl rfl ?_
                  obtain ⟨c8472, hc8473, ha8474, _⟩ := arrR hc8467 ha8468 hx8470
                  refine dq (v := .int .i64 x8470) rfl (fun w' hw => Q_ld (show cellsAt _ _ _ [.int .i64 x8470] from (show _ = [_] from hc8473) ▸ (ha8474.up hw.view)) ty3 rfl (fun _ => rfl) rfl rfl) rfl rfl ?_
                  refine dq (v := .int .i64 x8470) rfl (fun w' hw => Q_assign rfl) rfl rfl ?_
                  refine DL_nil ?_
                  refine x_then ?_
                  refine CW.sub (E' := [(1, .pointer (some ⟨b4260, 0, none⟩)), (3, v8296), (6, .int .i64 x7253), (7, .int .i64 x8300), (8, .int .i64 x8470)]) ⟨rfl, rfl, rfl, rfl, rfl, trivial⟩ ?_
                  refine C_seq ?_
                  refine R_nd ?_
                  refine nq (v := v8296) (Q_move rfl) rfl rfl ?_
                  refine nq (v := .int .i64 x8470) (Q_move rfl) rfl rfl ?_
                  replace H := H.front 1 rfl
                  replace H : Hp C wd8405.drew ρ (Arr v8296 1 c8297 :: Box b4260 [v1, v4, v7] :: hs) := H
                  obtain ⟨q8475, hq8475, ho8455⟩ := bnd ho8455
                  obtain ⟨C', ρ', hl8476, HA, hL, hback⟩ := Hp.lend (A := []) (L := [Arr v8296 1 c8297]) (F := Box b4260 [v1, v4, v7] :: hs) H
                  refine ne (E_call fn56 rfl (c_56 HA  (arr_rd (by decide) hl8476 (hL (Arr v8296 1 c8297) (by simp)) r8299) hq8475)) rfl rfl ?_
                  rintro _ wd8478 ⟨x8477, rfl, rfl, H⟩
                  try dsimp only at ho8455
                  replace H := hback H
                  replace H : Hp C wd8478 ρ (Arr v8296 1 c8297 :: Box b4260 [v1, v4, v7] :: hs) := H
                  refine nq (v := .bool (!x8477)) (Q_not rfl) rfl rfl ?_
                  refine WL_nil ?_
                  refine x_then ?_
                  refine CW.sub (E' := [(1, .pointer (some ⟨b4260, 0, none⟩)), (3, v8296), (6, .int .i64 x7253), (7, .int .i64 x8300), (8, .int .i64 x8470), (49, .bool (!x8477))]) ⟨rfl, rfl, rfl, rfl, rfl, rfl, trivial⟩ ?_
                  obtain ⟨o8491, ho8491, ho8455⟩ := bnd ho8455
                  refine C_cutQ (fun a w' => ∃ (v8487 : Value) (c8488 : (List Value)) (x8489 : (List Int)), x8489 = o8491 ∧ rdL (eI .i64) ρ x8489 c8488 ∧ Fr 55 a [(1, .pointer (some ⟨b4260, 0, none⟩)), (3, v8487), (6, .int .i64 x7253), (7, .int .i64 x8300)] ∧ Hp C w' ρ (Box b4260 [v1, v4, v7] :: Arr v8487 1 c8488 :: hs)) ?_ ?_
                  · refine C_cond rfl (fun hb => ?_) (fun hb => ?_)
                    · replace ho8491 := itT hb ho8491
                      refine R_nd ?_
                      refine nq (v := v8296) (Q_move rfl) rfl rfl ?_
                      refine nq (v := .int .i64 x8470) (Q_move rfl) rfl rfl ?_
                      refine ne (E_bslice (xs := [.tmp 51]) (vs := [.int .i64 x8470]) H Tryd.underlying23 ty3 (by decide) (cs := [.int .i64 x8470]) rfl (sz_cons rfl sz_nil) rfl (by simp) (by simp) rfl rfl) rfl rfl ?_
                      rintro _ wd8493 ⟨b8492, rfl, H⟩
                      replace H : Hp C wd8493 ρ (Arr (.slice (some ⟨b8492, 0, none⟩) 1 1) 1 ([.int .i64 x8470]) :: Arr v8296 1 c8297 :: Box b4260 [v1, v4, v7] :: hs) := H
                      obtain ⟨x8494, hx8494, ho8491⟩ := bnd ho8491
                      obtain ⟨ha8495a, ha8495b⟩ := app_some hx8494
                      have r8497 : rdL (eI .i64) ρ x8494 (c8297 ++ ([.int .i64 x8470])) := ha8495b ▸ rdL.app r8299 (show rdL (eI .i64) ρ ([x8470]) ([.int .i64 x8470]) from ⟨([.int .i64 x8470]), _, rfl, rfl, rdL.nil⟩)
                      refine ne (E_append (k := 1) H rfl Tryd.underlying23 ty3 rfl (by decide) (by decide) rfl rfl (Src.ofArr (k := 0) H.ok rfl) (rdL.one (show rdL (eI .i64) ρ ([x8470]) ([.int .i64 x8470]) from ⟨([.int .i64 x8470]), _, rfl, rfl, rdL.nil⟩)) (app_fit r8299 (show rdL (eI .i64) ρ ([x8470]) ([.int .i64 x8470]) from ⟨([.int .i64 x8470]), _, rfl, rfl, rdL.nil⟩) ha8495a)) rfl rfl ?_
                      rintro v8496 wd8499 ⟨H, hc8498⟩
                      replace H : Hp C wd8499 ρ (Arr (.slice (some ⟨b8492, 0, none⟩) 1 1) 1 ([.int .i64 x8470]) :: Arr v8496 1 (c8297 ++ ([.int .i64 x8470])) :: Box b4260 [v1, v4, v7] :: hs) := H
                      refine nq (v := v8496) (Q_assign rfl) rfl rfl ?_
                      refine WL_nil ?_
                      replace H := H.front 1 rfl
                      replace H : Hp C wd8499 ρ (Arr v8496 1 (c8297 ++ ([.int .i64 x8470])) :: Arr (.slice (some ⟨b8492, 0, none⟩) 1 1) 1 ([.int .i64 x8470]) :: Box b4260 [v1, v4, v7] :: hs) := H
                      replace H := H.front 2 rfl
                      replace H : Hp C wd8499 ρ (Box b4260 [v1, v4, v7] :: Arr v8496 1 (c8297 ++ ([.int .i64 x8470])) :: Arr (.slice (some ⟨b8492, 0, none⟩) 1 1) 1 ([.int .i64 x8470]) :: hs) := H
                      replace H := H.drop 2 rfl
                      replace H : Hp C wd8499 ρ (Box b4260 [v1, v4, v7] :: Arr v8496 1 (c8297 ++ ([.int .i64 x8470])) :: hs) := H
                      obtain rfl := Option.some.inj ho8491
                      refine x_A fun a hf => ⟨v8496, (c8297 ++ ([.int .i64 x8470])), x8494, rfl, r8497, hf.sub ⟨rfl, rfl, rfl, rfl, trivial⟩, H⟩
                    · replace ho8491 := itF hb ho8491
                      refine C_skip ?_
                      replace H := H.front 1 rfl
                      replace H : Hp C wd8478 ρ (Box b4260 [v1, v4, v7] :: Arr v8296 1 c8297 :: hs) := H
                      obtain rfl := Option.some.inj ho8491
                      refine x_A fun a hf => ⟨v8296, c8297, x8298, rfl, r8299, hf.sub ⟨rfl, rfl, rfl, rfl, trivial⟩, H⟩
                  · rintro a wd8500 ⟨v8487, c8488, x8489, rfl, r8490, hf, H⟩
                    try dsimp only at ho8455
                    refine XX.at hf ?_
                    refine x_block ?_
                    replace H := H.front 1 rfl
                    replace H : Hp C wd8500 ρ (Arr v8487 1 c8488 :: Box b4260 [v1, v4, v7] :: hs) := H
                    replace H := H.front 1 rfl
                    replace H : Hp C wd8500 ρ (Box b4260 [v1, v4, v7] :: Arr v8487 1 c8488 :: hs) := H
                    obtain rfl := Option.some.inj ho8455
                    refine x_A fun a hf => ⟨v8487, c8488, x8489, rfl, r8490, hf.sub ⟨rfl, rfl, rfl, rfl, trivial⟩, H⟩
                · rintro a wd8501 ⟨v8451, c8452, x8453, rfl, r8454, hf, H⟩
                  try dsimp only at hB8403
                  refine CW.at hf ?_
                  refine R_nd ?_
                  refine nq (v := .int .i64 x8300) (Q_move rfl) rfl rfl ?_
                  refine nq (v := .int .i64 (w64 (x8300 + 1))) (Q_add rfl rfl) rfl rfl ?_
                  refine nq (v := .int .i64 (w64 (x8300 + 1))) (Q_assign rfl) rfl rfl ?_
                  refine WL_nil ?_
                  replace H := H.front 1 rfl
                  replace H : Hp C wd8501 ρ (Arr v8451 1 c8452 :: Box b4260 [v1, v4, v7] :: hs) := H
                  replace H := H.front 1 rfl
                  replace H : Hp C wd8501 ρ (Box b4260 [v1, v4, v7] :: Arr v8451 1 c8452 :: hs) := H
                  obtain rfl := Option.some.inj hB8403
                  refine x_A fun a hf => ⟨_, rfl, v8451, c8452, x8453, w64 (x8300 + 1), rfl, r8454, hf.sub ⟨rfl, rfl, rfl, rfl, trivial⟩, H⟩
              · replace hB8403 := itF hb hB8403
                refine C_exit ?_
                refine x_then_exit ?_
                refine x_then_exit ?_
                refine x_block_exit ?_
                replace H := H.front 1 rfl
                replace H : Hp C wd8405 ρ (Arr v8296 1 c8297 :: Box b4260 [v1, v4, v7] :: hs) := H
                replace H := H.front 1 rfl
                replace H : Hp C wd8405 ρ (Box b4260 [v1, v4, v7] :: Arr v8296 1 c8297 :: hs) := H
                obtain rfl := Option.some.inj hB8403
                obtain rfl := hO8404 _ rfl
                refine x_A fun a hf => ⟨v8296, c8297, x8298, rfl, r8299, hf.sub ⟨rfl, rfl, rfl, trivial⟩, H⟩
          · rintro a wd8502 ⟨v8190, c8191, x8192, rfl, r8193, hf, H⟩
            try dsimp only at hB7880
            refine XX.at hf ?_
            refine x_block ?_
            refine x_then ?_
            refine CW.sub (E' := [(1, .pointer (some ⟨b4260, 0, none⟩)), (3, v8190), (6, .int .i64 x7253)]) ⟨rfl, rfl, rfl, trivial⟩ ?_
            refine R_nd ?_
            refine nq (v := .int .i64 x7253) (Q_move rfl) rfl rfl ?_
            refine nq (v := .int .i64 (w64 (x7253 + 1))) (Q_add rfl rfl) rfl rfl ?_
            refine nq (v := .int .i64 (w64 (x7253 + 1))) (Q_assign rfl) rfl rfl ?_
            refine WL_nil ?_
            replace H := H.front 1 rfl
            replace H : Hp C wd8502 ρ (Arr v8190 1 c8191 :: Box b4260 [v1, v4, v7] :: hs) := H
            replace H := H.front 1 rfl
            replace H : Hp C wd8502 ρ (Box b4260 [v1, v4, v7] :: Arr v8190 1 c8191 :: hs) := H
            obtain rfl := Option.some.inj hB7880
            refine x_A fun a hf => ⟨_, rfl, v8190, c8191, x8192, w64 (x7253 + 1), rfl, r8193, hf.sub ⟨rfl, rfl, rfl, trivial⟩, H⟩
        · replace hB7880 := itF hb hB7880
          refine C_exit ?_
          refine x_then_exit ?_
          refine x_then_exit ?_
          refine x_block_exit ?_
          replace H := H.front 1 rfl
          replace H : Hp C wd7882 ρ (Arr v7249 1 c7250 :: Box b4260 [v1, v4, v7] :: hs) := H
          replace H := H.drop 1 rfl
          replace H : Hp C wd7882 ρ (Arr v7249 1 c7250 :: hs) := H
          obtain rfl := Option.some.inj hB7880
          obtain rfl := hO7881 _ rfl
          refine x_A fun a hf => ⟨v7249, c7250, x7251, rfl, r7252, hf.sub ⟨rfl, trivial⟩, H⟩
    · rintro a wd8503 ⟨v6619, c6620, x6621, rfl, r6622, hf, H⟩
      try dsimp only at hF
      refine XX.at hf ?_
      refine x_then ?_
      refine CW.sub (E' := [(3, v6619)]) ⟨rfl, trivial⟩ ?_
      refine C_seq ?_
      refine R_nd ?_
      refine nq (v := v6619) (Q_move rfl) rfl rfl ?_
      refine nq (v := v6619) (Q_assign rfl) rfl rfl ?_
      refine WL_nil ?_
      refine x_then ?_
      refine CW.sub (E' := [(2, v6619)]) ⟨rfl, trivial⟩ ?_
      refine C_ret ?_
      obtain rfl := Option.some.inj hF
      exact fn_ret (l := [.tmp 2]) (vs := [v6619]) rfl rfl rfl ⟨v6619, c6620, x6621, rfl, rfl, r6622, H⟩
theorem c_55 {N : Nat} {C : Cx} {w : World} {ρ : View} {hs : List Hl} {v1 : Value} {x2 : (List Int)} {x4 : Int} (H : Hp C w ρ (hs)) (r3 : RdSl ρ (eI .i64) v1 x2) {r : Int} (hF : F_dofferref20_place N x2 x4 = some r) :
    Calls Tryd.prog 55 [v1, .int .i64 x4].toArray w (Rets (fun v w' => (∃ (x63 : Int), x63 = r ∧ .int .i64 x63 = v ∧ Hp C w' ρ (hs)))) := by
  unfold F_dofferref20_place at hF
  have h0 : Tryd.f55.body = some _ := rfl
  refine fn_calls' Tryd.func55 h0 (n := 19) rfl (by simp) ?_
  refine C_seq ?_
  refine R_nd ?_
  refine nq (v := .int .i64 0) (Q_assign rfl) rfl rfl ?_
  refine WL_nil ?_
  refine x_then ?_
  refine CW.sub (E' := [(0, v1), (1, .int .i64 x4)]) ⟨rfl, rfl, trivial⟩ ?_
  refine C_seq ?_
  refine C_seq ?_
  refine R_nd ?_
  refine nq (v := v1) (Q_move rfl) rfl rfl ?_
  refine nq (v := .int .i64 (x2.length : Int)) (Q_len Tryd.underlying23 rfl r3) rfl rfl ?_
  refine nq (v := .int .i64 0) (Q_move rfl) rfl rfl ?_
  refine WL_nil ?_
  refine x_then ?_
  refine CW.sub (E' := [(1, .int .i64 x4), (7, v1), (8, .int .i64 (x2.length : Int)), (9, .int .i64 0)]) ⟨rfl, rfl, rfl, rfl, trivial⟩ ?_
  obtain ⟨o92, ho92, hF⟩ := bnd hF
  refine C_cutQ (fun a w' => .inl () = o92 ∧ Fr 19 a [] ∧ Hp C w' ρ (hs)) ?_ ?_
  · refine C_block ?_
    refine C_iter (f := fun s => F_dofferref20_place_l0 N x2 x4 s) ho92 (fun s a w' => ∃ (x101 : Int), x101 = s ∧ Fr 19 a [(1, .int .i64 x4), (7, v1), (8, .int .i64 (x2.length : Int)), (9, .int .i64 x101)] ∧ Hp C w' ρ (hs)) ?_ ?_
    · exact fun a hf => ⟨0, rfl, hf.sub ⟨rfl, rfl, rfl, rfl, trivial⟩, H⟩
    · rintro s o110 a wd113 ⟨x101, rfl, hf, H⟩ hB111 hO112
      replace hB111 : F_dofferref20_place_l0 N x2 x4 x101 = some o110 := hB111
      unfold F_dofferref20_place_l0 at hB111
      refine CW.at hf ?_
      refine C_seq ?_
      refine R_nd ?_
      refine nq (v := .bool (decide (x101 < (x2.length : Int)))) (Q_lss rfl rfl) rfl rfl ?_
      refine WL_nil ?_
      refine x_then ?_
      refine CW.sub (E' := [(1, .int .i64 x4), (7, v1), (8, .int .i64 (x2.length : Int)), (9, .int .i64 x101), (10, .bool (decide (x101 < (x2.length : Int))))]) ⟨rfl, rfl, rfl, rfl, rfl, trivial⟩ ?_
      refine C_seq ?_
      refine C_cond rfl (fun hb => ?_) (fun hb => ?_)
      · replace hB111 := itT hb hB111
        refine C_skip ?_
        refine x_then ?_
        refine CW.sub (E' := [(1, .int .i64 x4), (7, v1), (8, .int .i64 (x2.length : Int)), (9, .int .i64 x101)]) ⟨rfl, rfl, rfl, rfl, trivial⟩ ?_
        refine C_seq ?_
        refine C_block ?_
        refine C_seq ?_
        refine R_nd ?_
        refine nq (v := .int .i64 x101) (Q_move rfl) rfl rfl ?_
        obtain ⟨x114, hx114, hB111⟩ := bnd hB111
        obtain ⟨b115, o116, c117, hc118, ha119, hi120⟩ := idxR r3 hx114
        refine nq (v := .pointer (some ⟨b115, o116, none⟩)) (Q_idx hi120 Tryd.underlying23 ty3 rfl rfl) rfl rfl ?_
        refine nq (v := .int .i64 x114) (Q_ld (show cellsAt _ _ _ [.int .i64 x114] from (show _ = [_] from hc118) ▸ (ha119.up H.ok.view)) ty3 rfl (fun _ => rfl) rfl rfl) rfl rfl ?_
        refine nq (v := .int .i64 x101) (Q_assign rfl) rfl rfl ?_
        refine nq (v := .int .i64 x114) (Q_assign rfl) rfl rfl ?_
        refine WL_nil ?_
        refine x_then ?_
        refine CW.sub (E' := [(1, .int .i64 x4), (5, .int .i64 x101), (6, .int .i64 x114), (7, v1), (8, .int .i64 (x2.length : Int)), (9, .int .i64 x101)]) ⟨rfl, rfl, rfl, rfl, rfl, rfl, trivial⟩ ?_
        refine C_seq ?_
        refine R_nd ?_
        refine nq (v := .int .i64 x114) (Q_move rfl) rfl rfl ?_
        refine nq (v := .int .i64 x4) (Q_move rfl) rfl rfl ?_
        refine nq (v := .bool (x114 == x4)) (Q_eql rfl rfl) rfl rfl ?_
        refine WL_nil ?_
        refine x_then ?_
        refine CW.sub (E' := [(1, .int .i64 x4), (5, .int .i64 x101), (7, v1), (8, .int .i64 (x2.length : Int)), (9, .int .i64 x101), (16, .bool (x114 == x4))]) ⟨rfl, rfl, rfl, rfl, rfl, rfl, trivial⟩ ?_
        refine C_cond rfl (fun hb => ?_) (fun hb => ?_)
        · replace hB111 := itT hb hB111
          refine C_seq ?_
          refine R_nd ?_
          refine nq (v := .int .i64 x101) (Q_move rfl) rfl rfl ?_
          refine nq (v := .int .i64 x101) (Q_assign rfl) rfl rfl ?_
          refine WL_nil ?_
          refine x_then ?_
          refine CW.sub (E' := [(4, .int .i64 x101)]) ⟨rfl, trivial⟩ ?_
          refine C_ret ?_
          refine x_block_ret ?_
          refine x_then_ret ?_
          refine x_then_ret ?_
          refine x_block_ret ?_
          refine x_then_ret ?_
          refine x_then_ret ?_
          obtain rfl := Option.some.inj hB111
          obtain rfl := hO112 _ rfl
          obtain rfl := Option.some.inj (show some _ = some _ from hF)
          exact fn_ret (l := [.tmp 4]) (vs := [.int .i64 x101]) rfl rfl rfl ⟨x101, rfl, rfl, H⟩
        · replace hB111 := itF hb hB111
          refine C_skip ?_
          refine x_block ?_
          refine x_then ?_
          refine CW.sub (E' := [(1, .int .i64 x4), (7, v1), (8, .int .i64 (x2.length : Int)), (9, .int .i64 x101)]) ⟨rfl, rfl, rfl, rfl, trivial⟩ ?_
          refine R_nd ?_
          refine nq (v := .int .i64 (w64 (x101 + 1))) (Q_add rfl rfl) rfl rfl ?_
          refine nq (v := .int .i64 (w64 (x101 + 1))) (Q_move rfl) rfl rfl ?_
          refine WL_nil ?_
          obtain rfl := Option.some.inj hB111
          refine x_A fun a hf => ⟨_, rfl, w64 (x101 + 1), rfl, hf.sub ⟨rfl, rfl, rfl, rfl, trivial⟩, H⟩
      · replace hB111 := itF hb hB111
        refine C_exit ?_
        refine x_then_exit ?_
        refine x_then_exit ?_
        refine x_block_exit ?_
        obtain rfl := Option.some.inj hB111
        obtain rfl := hO112 _ rfl
        refine x_A fun a hf => ⟨rfl, hf.sub trivial, H⟩
  · rintro a wd121 ⟨rfl, hf, H⟩
    try dsimp only at hF
    refine XX.at hf ?_
    refine x_then ?_
    refine CW.sub (E' := []) trivial ?_
    refine C_seq ?_
    refine R_nd ?_
    refine nq (v := .int .i64 0) (Q_assign rfl) rfl rfl ?_
    refine WL_nil ?_
    refine x_then ?_
    refine CW.sub (E' := [(4, .int .i64 0)]) ⟨rfl, trivial⟩ ?_
    refine C_ret ?_
    obtain rfl := Option.some.inj hF
    exact fn_ret (l := [.tmp 4]) (vs := [.int .i64 0]) rfl rfl rfl ⟨0, rfl, rfl, H⟩
theorem c_21 {N : Nat} {C : Cx} {w : World} {ρ : View} {hs : List Hl} {v1 : Value} {v4 : Value} {v7 : Value} {x2 : (List (List Int))} {x5 : (List Int)} {x8 : (List Int)} (H : Hp C w ρ (hs)) (r3 : RdSl ρ (eA 256 (eI .i64)) v1 x2) (r6 : RdSl ρ (eI .i64) v4 x5) (r9 : RdSl ρ (eI .i64) v7 x8) {r : ((List (List Int)) × (List Int) × (List Int))} (hF : F_dofferref20_Canon N x2 x5 x8 = some r) :
    Calls Tryd.prog 21 [.agg #[v1, v4, v7]].toArray w (Rets (fun v w' => (∃ (v2184 : Value) (c2185 : (List Value)) (v2188 : Value) (c2189 : (List Value)) (v2192 : Value) (c2193 : (List Value)) (x2186 : (List (List Int))) (x2190 : (List Int)) (x2194 : (List Int)), (x2186, x2190, x2194) = r ∧ .agg #[v2184, v2188, v2192] = v ∧ rdL (eA 256 (eI .i64)) ρ x2186 c2185 ∧ rdL (eI .i64) ρ x2190 c2189 ∧ rdL (eI .i64) ρ x2194 c2193 ∧ Hp C w' ρ (Arr v2184 256 c2185 :: Arr v2188 1 c2189 :: Arr v2192 1 c2193 :: hs)))) := by
  unfold F_dofferref20_Canon at hF
  have h0 : Tryd.f21.body = some _ := rfl
  refine fn_calls' Tryd.func21 h0 (n := 70) rfl (by simp) ?_
  refine C_seq ?_
  refine R_nd ?_
  refine ne (E_box H (vs := [v1, v4, v7]) rfl rfl) rfl rfl ?_
  rintro _ wd2197 ⟨b2196, rfl, H⟩
  replace H : Hp C wd2197 ρ (Box b2196 [v1, v4, v7] :: hs) := H
  refine ne (E_alloc H ty29 (zs := [.slice none 0 0, .slice none 0 0, .slice none 0 0]) rfl) rfl rfl ?_
  rintro _ wd2199 ⟨b2198, rfl, H⟩
  replace H : Hp C wd2199 ρ (Box b2198 [.slice none 0 0, .slice none 0 0, .slice none 0 0] :: Box b2196 [v1, v4, v7] :: hs) := H
  refine WL_nil ?_
  refine x_then ?_
  refine CW.sub (E' := [(1, .pointer (some ⟨b2196, 0, none⟩)), (2, .pointer (some ⟨b2198, 0, none⟩))]) ⟨rfl, rfl, trivial⟩ ?_
  refine C_seq ?_
  refine R_nd ?_
  refine nq (v := .agg #[v1, v4, v7]) (Q_ldB (k := 1) (cs := [v1, v4, v7]) H.ok rfl ty29 rfl rfl rfl (fun h => nomatch h) rfl) rfl rfl ?_
  obtain ⟨q2200, hq2200, hF⟩ := bnd hF
  refine ne (E_call fn23 rfl (c_23 H  r3 r6 r9 hq2200)) rfl rfl ?_
  rintro _ wd2206 ⟨v2202, c2203, x2204, rfl, rfl, r2205, H⟩
  try dsimp only at hF
  replace H : Hp C wd2206 ρ (Arr v2202 1 c2203 :: Box b2198 [.slice none 0 0, .slice none 0 0, .slice none 0 0] :: Box b2196 [v1, v4, v7] :: hs) := H
  refine nq (v := v2202) (Q_assign rfl) rfl rfl ?_
  refine WL_nil ?_
  refine x_then ?_
  refine CW.sub (E' := [(1, .pointer (some ⟨b2196, 0, none⟩)), (2, .pointer (some ⟨b2198, 0, none⟩)), (3, v2202)]) ⟨rfl, rfl, rfl, trivial⟩ ?_
  refine C_seq ?_
  refine R_nd ?_
  refine nq (v := .agg #[.slice none 0 0, .slice none 0 0, .slice none 0 0]) (Q_buildS st29.choose_spec (ps := []) rfl trivial rfl) rfl rfl ?_
  refine ne (E_alloc H ty29 (zs := [.slice none 0 0, .slice none 0 0, .slice none 0 0]) rfl) rfl rfl ?_
  rintro _ wd2208 ⟨b2207, rfl, H⟩
  replace H : Hp C wd2208 ρ (Box b2207 [.slice none 0 0, .slice none 0 0, .slice none 0 0] :: Arr v2202 1 c2203 :: Box b2198 [.slice none 0 0, .slice none 0 0, .slice none 0 0] :: Box b2196 [v1, v4, v7] :: hs) := H
  refine ne (E_stB (k := 0) (cs := [.slice none 0 0, .slice none 0 0, .slice none 0 0]) (vs' := [.slice none 0 0, .slice none 0 0, .slice none 0 0]) H rfl ty29 rfl rfl rfl rfl (one_cons rfl (one_cons rfl (one_cons rfl one_nil))) (by simp) rfl) rfl rfl ?_
  rintro _ wd2209 H
  replace H : Hp C wd2209 ρ (Box b2207 [.slice none 0 0, .slice none 0 0, .slice none 0 0] :: Arr v2202 1 c2203 :: Box b2198 [.slice none 0 0, .slice none 0 0, .slice none 0 0] :: Box b2196 [v1, v4, v7] :: hs) := H
  refine WL_nil ?_
  refine x_then ?_
  refine CW.sub (E' := [(1, .pointer (some ⟨b2196, 0, none⟩)), (2, .pointer (some ⟨b2198, 0, none⟩)), (3, v2202), (4, .pointer (some ⟨b2207, 0, none⟩))]) ⟨rfl, rfl, rfl, rfl, trivial⟩ ?_
  refine C_seq ?_
  refine C_seq ?_
  refine R_nd ?_
  refine nq (v := v2202) (Q_move rfl) rfl rfl ?_
  refine nq (v := .int .i64 (x2204.length : Int)) (Q_lenA (k := 1) H.ok rfl r2205 (by decide) Tryd.underlying23 rfl) rfl rfl ?_
  refine nq (v := .int .i64 0) (Q_move rfl) rfl rfl ?_
  refine WL_nil ?_
  refine x_then ?_
  refine CW.sub (E' := [(1, .pointer (some ⟨b2196, 0, none⟩)), (2, .pointer (some ⟨b2198, 0, none⟩)), (3, v2202), (4, .pointer (some ⟨b2207, 0, none⟩)), (14, v2202), (15, .int .i64 (x2204.length : Int)), (16, .int .i64 0)]) ⟨rfl, rfl, rfl, rfl, rfl, rfl, rfl, trivial⟩ ?_
  obtain ⟨o3020, ho3020, hF⟩ := bnd hF
  refine C_cutQ (fun a w' => ∃ (v3012 : Value) (c3013 : (List Value)) (v3016 : Value) (c3017 : (List Value)) (x3014 : (List (List Int))) (x3018 : (List Int)), (x3014, x3018) = o3020 ∧ rdL (eA 256 (eI .i64)) ρ x3014 c3013 ∧ rdL (eI .i64) ρ x3018 c3017 ∧ Fr 70 a [(1, .pointer (some ⟨b2196, 0, none⟩)), (2, .pointer (some ⟨b2198, 0, none⟩)), (3, v2202), (4, .pointer (some ⟨b2207, 0, none⟩))] ∧ Hp C w' ρ (Box b2196 [v1, v4, v7] :: Box b2198 [.slice none 0 0, .slice none 0 0, .slice none 0 0] :: Arr v2202 1 c2203 :: Box b2207 [v3012, v3016, .slice none 0 0] :: Arr v3012 256 c3013 :: Arr v3016 1 c3017 :: hs)) ?_ ?_
  · refine C_block ?_
    have H := H.nilArr 256
    replace H : Hp C wd2209 ρ (Arr (.slice none 0 0) 256 ([]) :: Box b2207 [.slice none 0 0, .slice none 0 0, .slice none 0 0] :: Arr v2202 1 c2203 :: Box b2198 [.slice none 0 0, .slice none 0 0, .slice none 0 0] :: Box b2196 [v1, v4, v7] :: hs) := H
    have H := H.nilArr 1
    replace H : Hp C wd2209 ρ (Arr (.slice none 0 0) 1 ([]) :: Arr (.slice none 0 0) 256 ([]) :: Box b2207 [.slice none 0 0, .slice none 0 0, .slice none 0 0] :: Arr v2202 1 c2203 :: Box b2198 [.slice none 0 0, .slice none 0 0, .slice none 0 0] :: Box b2196 [v1, v4, v7] :: hs) := H
    replace H := H.front 1 rfl
    replace H : Hp C wd2209 ρ (Arr (.slice none 0 0) 256 ([]) :: Arr (.slice none 0 0) 1 ([]) :: Box b2207 [.slice none 0 0, .slice none 0 0, .slice none 0 0] :: Arr v2202 1 c2203 :: Box b2198 [.slice none 0 0, .slice none 0 0, .slice none 0 0] :: Box b2196 [v1, v4, v7] :: hs) := H
    replace H := H.front 2 rfl
    replace H : Hp C wd2209 ρ (Box b2207 [.slice none 0 0, .slice none 0 0, .slice none 0 0] :: Arr (.slice none 0 0) 256 ([]) :: Arr (.slice none 0 0) 1 ([]) :: Arr v2202 1 c2203 :: Box b2198 [.slice none 0 0, .slice none 0 0, .slice none 0 0] :: Box b2196 [v1, v4, v7] :: hs) := H
    replace H := H.front 4 rfl
    replace H : Hp C wd2209 ρ (Box b2198 [.slice none 0 0, .slice none 0 0, .slice none 0 0] :: Box b2207 [.slice none 0 0, .slice none 0 0, .slice none 0 0] :: Arr (.slice none 0 0) 256 ([]) :: Arr (.slice none 0 0) 1 ([]) :: Arr v2202 1 c2203 :: Box b2196 [v1, v4, v7] :: hs) := H
    replace H := H.front 4 rfl
    replace H : Hp C wd2209 ρ (Arr v2202 1 c2203 :: Box b2198 [.slice none 0 0, .slice none 0 0, .slice none 0 0] :: Box b2207 [.slice none 0 0, .slice none 0 0, .slice none 0 0] :: Arr (.slice none 0 0) 256 ([]) :: Arr (.slice none 0 0) 1 ([]) :: Box b2196 [v1, v4, v7] :: hs) := H
    replace H := H.front 5 rfl
    replace H : Hp C wd2209 ρ (Box b2196 [v1, v4, v7] :: Arr v2202 1 c2203 :: Box b2198 [.slice none 0 0, .slice none 0 0, .slice none 0 0] :: Box b2207 [.slice none 0 0, .slice none 0 0, .slice none 0 0] :: Arr (.slice none 0 0) 256 ([]) :: Arr (.slice none 0 0) 1 ([]) :: hs) := H
    refine C_iter (f := fun s => F_dofferref20_Canon_l0 N x2 x5 x2204 s.1 s.2.1 s.2.2) ho3020 (fun s a w' => ∃ (v3288 : Value) (c3289 : (List Value)) (v3292 : Value) (c3293 : (List Value)) (x3287 : Int) (x3290 : (List (List Int))) (x3294 : (List Int)), (x3287, x3290, x3294) = s ∧ rdL (eA 256 (eI .i64)) ρ x3290 c3289 ∧ rdL (eI .i64) ρ x3294 c3293 ∧ Fr 70 a [(1, .pointer (some ⟨b2196, 0, none⟩)), (2, .pointer (some ⟨b2198, 0, none⟩)), (3, v2202), (4, .pointer (some ⟨b2207, 0, none⟩)), (14, v2202), (15, .int .i64 (x2204.length : Int)), (16, .int .i64 x3287)] ∧ Hp C w' ρ (Box b2196 [v1, v4, v7] :: Arr v2202 1 c2203 :: Box b2198 [.slice none 0 0, .slice none 0 0, .slice none 0 0] :: Box b2207 [v3288, v3292, .slice none 0 0] :: Arr v3288 256 c3289 :: Arr v3292 1 c3293 :: hs)) ?_ ?_
    · exact fun a hf => ⟨(.slice none 0 0), [], (.slice none 0 0), [], 0, [], [], rfl, rdL.nil, rdL.nil, hf.sub ⟨rfl, rfl, rfl, rfl, rfl, rfl, rfl, trivial⟩, H⟩
    · rintro s o3562 a wd3565 ⟨v3288, c3289, v3292, c3293, x3287, x3290, x3294, rfl, r3291, r3295, hf, H⟩ hB3563 hO3564
      replace hB3563 : F_dofferref20_Canon_l0 N x2 x5 x2204 x3287 x3290 x3294 = some o3562 := hB3563
      unfold F_dofferref20_Canon_l0 at hB3563
      refine CW.at hf ?_
      refine C_seq ?_
      refine R_nd ?_
      refine nq (v := .bool (decide (x3287 < (x2204.length : Int)))) (Q_lss rfl rfl) rfl rfl ?_
      refine WL_nil ?_
      refine x_then ?_
      refine CW.sub (E' := [(1, .pointer (some ⟨b2196, 0, none⟩)), (2, .pointer (some ⟨b2198, 0, none⟩)), (3, v2202), (4, .pointer (some ⟨b2207, 0, none⟩)), (14, v2202), (15, .int .i64 (x2204.length : Int)), (16, .int .i64 x3287), (17, .bool (decide (x3287 < (x2204.length : Int))))]) ⟨rfl, rfl, rfl, rfl, rfl, rfl, rfl, rfl, trivial⟩ ?_
      refine C_seq ?_
      refine C_cond rfl (fun hb => ?_) (fun hb => ?_)
      · replace hB3563 := itT hb hB3563
        refine C_skip ?_
        refine x_then ?_
        refine CW.sub (E' := [(1, .pointer (some ⟨b2196, 0, none⟩)), (2, .pointer (some ⟨b2198, 0, none⟩)), (3, v2202), (4, .pointer (some ⟨b2207, 0, none⟩)), (14, v2202), (15, .int .i64 (x2204.length : Int)), (16, .int .i64 x3287)]) ⟨rfl, rfl, rfl, rfl, rfl, rfl, rfl, trivial⟩ ?_
        refine C_seq ?_
        refine C_block ?_
        refine C_seq ?_
        refine R_nd ?_
        obtain ⟨x3566, hx3566, hB3563⟩ := bnd hB3563
        obtain ⟨b3567, o3568, hi3572, hc3570, ha3571⟩ := arr_at (hs := [Arr v2202 1 c2203]) (k := 0) (by decide) (H.okS (by simp)) rfl r2205 hx3566
        refine nq (v := .pointer (some ⟨b3567, o3568, none⟩)) (Q_idx hi3572 Tryd.underlying23 ty3 rfl rfl) rfl rfl ?_
        refine nq (v := .int .i64 x3566) (Q_ld (show cellsAt _ _ _ [.int .i64 x3566] from (show _ = [_] from hc3570) ▸ (ha3571 _ (Ok.subS (by simp) H.ok))) ty3 rfl (fun _ => rfl) rfl rfl) rfl rfl ?_
        refine nq (v := .int .i64 x3566) (Q_assign rfl) rfl rfl ?_
        refine WL_nil ?_
        refine x_then ?_
        refine CW.sub (E' := [(1, .pointer (some ⟨b2196, 0, none⟩)), (2, .pointer (some ⟨b2198, 0, none⟩)), (3, v2202), (4, .pointer (some ⟨b2207, 0, none⟩)), (6, .int .i64 x3566), (14, v2202), (15, .int .i64 (x2204.length : Int)), (16, .int .i64 x3287)]) ⟨rfl, rfl, rfl, rfl, rfl, rfl, rfl, rfl, trivial⟩ ?_
        refine C_seq ?_
        refine R_nd ?_
        refine nq (v := .agg (repC 256 [.int .i64 0]).toArray) (Q_build0 (zs := (repC 256 [.int .i64 0])) ty57 Tryd.underlying57 ty3 rfl) rfl rfl ?_
        refine ne (E_allocA (N := 256) (n := 1) (zs := (repC 256 [.int .i64 0])) H ty57 rfl (by simp [repC_length])) rfl rfl ?_
        rintro _ wd3574 ⟨b3573, rfl, H⟩
        replace H : Hp C wd3574 ρ (Arr (.slice (some ⟨b3573, 0, none⟩) 256 256) 1 (repC 256 [.int .i64 0]) :: Box b2196 [v1, v4, v7] :: Arr v2202 1 c2203 :: Box b2198 [.slice none 0 0, .slice none 0 0, .slice none 0 0] :: Box b2207 [v3288, v3292, .slice none 0 0] :: Arr v3288 256 c3289 :: Arr v3292 1 c3293 :: hs) := H
        refine ne (E_stW (k := 0) H rfl ty57 rfl rfl (rdL.one (rdL_rep (e:=(eI .i64)) (ρ:=ρ) (rfl) 256)) (arr_clen (rdL_rep (e:=(eI .i64)) (ρ:=ρ) (rfl) 256) List.length_replicate) (arr_clen (rdL_rep (e:=(eI .i64)) (ρ:=ρ) (rfl) 256) List.length_replicate)) rfl rfl ?_
        rintro _ wd3575 H
        replace H : Hp C wd3575 ρ (Arr (.slice (some ⟨b3573, 0, none⟩) 256 256) 1 (repC 256 [.int .i64 0]) :: Box b2196 [v1, v4, v7] :: Arr v2202 1 c2203 :: Box b2198 [.slice none 0 0, .slice none 0 0, .slice none 0 0] :: Box b2207 [v3288, v3292, .slice none 0 0] :: Arr v3288 256 c3289 :: Arr v3292 1 c3293 :: hs) := H
        refine WL_nil ?_
        refine x_then ?_
        refine CW.sub (E' := [(1, .pointer (some ⟨b2196, 0, none⟩)), (2, .pointer (some ⟨b2198, 0, none⟩)), (3, v2202), (4, .pointer (some ⟨b2207, 0, none⟩)), (6, .int .i64 x3566), (7, .pointer (some ⟨b3573, 0, none⟩)), (14, v2202), (15, .int .i64 (x2204.length : Int)), (16, .int .i64 x3287)]) ⟨rfl, rfl, rfl, rfl, rfl, rfl, rfl, rfl, rfl, trivial⟩ ?_
        refine C_seq ?_
        refine C_seq ?_
        refine R_nd ?_
        refine nq (v := .int .i64 0) (Q_assign rfl) rfl rfl ?_
        refine WL_nil ?_
        refine x_then ?_
        refine CW.sub (E' := [(1, .pointer (some ⟨b2196, 0, none⟩)), (2, .pointer (some ⟨b2198, 0, none⟩)), (3, v2202), (4, .pointer (some ⟨b2207, 0, none⟩)), (6, .int .i64 x3566), (7, .pointer (some ⟨b3573, 0, none⟩)), (8, .int .i64 0), (14, v2202), (15, .int .i64 (x2204.length : Int)), (16, .int .i64 x3287)]) ⟨rfl, rfl, rfl, rfl, rfl, rfl, rfl, rfl, rfl, rfl, trivial⟩ ?_
        obtain ⟨o3668, ho3668, hB3563⟩ := bnd hB3563
        refine C_cutQ (fun a w' => ∃ (c3664 : (List Value)) (x3665 : (List Int)), x3665 = o3668 ∧ rdL (eI .i64) ρ x3665 c3664 ∧ x3665.length = 256 ∧ Fr 70 a [(1, .pointer (some ⟨b2196, 0, none⟩)), (2, .pointer (some ⟨b2198, 0, none⟩)), (3, v2202), (4, .pointer (some ⟨b2207, 0, none⟩)), (6, .int .i64 x3566), (7, .pointer (some ⟨b3573, 0, none⟩)), (14, v2202), (15, .int .i64 (x2204.length : Int)), (16, .int .i64 x3287)] ∧ Hp C w' ρ (Box b2196 [v1, v4, v7] :: Arr v2202 1 c2203 :: Box b2198 [.slice none 0 0, .slice none 0 0, .slice none 0 0] :: Box b2207 [v3288, v3292, .slice none 0 0] :: Arr v3288 256 c3289 :: Arr v3292 1 c3293 :: Arr (.slice (some ⟨b3573, 0, none⟩) 256 256) 1 c3664 :: hs)) ?_ ?_
        · refine C_block ?_
          replace H := H.front 6 rfl
          replace H : Hp C wd3575 ρ (Arr v3292 1 c3293 :: Arr (.slice (some ⟨b3573, 0, none⟩) 256 256) 1 (repC 256 [.int .i64 0]) :: Box b2196 [v1, v4, v7] :: Arr v2202 1 c2203 :: Box b2198 [.slice none 0 0, .slice none 0 0, .slice none 0 0] :: Box b2207 [v3288, v3292, .slice none 0 0] :: Arr v3288 256 c3289 :: hs) := H
          replace H := H.front 6 rfl
          replace H : Hp C wd3575 ρ (Arr v3288 256 c3289 :: Arr v3292 1 c3293 :: Arr (.slice (some ⟨b3573, 0, none⟩) 256 256) 1 (repC 256 [.int .i64 0]) :: Box b2196 [v1, v4, v7] :: Arr v2202 1 c2203 :: Box b2198 [.slice none 0 0, .slice none 0 0, .slice none 0 0] :: Box b2207 [v3288, v3292, .slice none 0 0] :: hs) := H
          replace H := H.front 6 rfl
          replace H : Hp C wd3575 ρ (Box b2207 [v3288, v3292, .slice none 0 0] :: Arr v3288 256 c3289 :: Arr v3292 1 c3293 :: Arr (.slice (some ⟨b3573, 0, none⟩) 256 256) 1 (repC 256 [.int .i64 0]) :: Box b2196 [v1, v4, v7] :: Arr v2202 1 c2203 :: Box b2198 [.slice none 0 0, .slice none 0 0, .slice none 0 0] :: hs) := H
          replace H := H.front 6 rfl
          replace H : Hp C wd3575 ρ (Box b2198 [.slice none 0 0, .slice none 0 0, .slice none 0 0] :: Box b2207 [v3288, v3292, .slice none 0 0] :: Arr v3288 256 c3289 :: Arr v3292 1 c3293 :: Arr (.slice (some ⟨b3573, 0, none⟩) 256 256) 1 (repC 256 [.int .i64 0]) :: Box b2196 [v1, v4, v7] :: Arr v2202 1 c2203 :: hs) := H
          replace H := H.front 6 rfl
          replace H : Hp C wd3575 ρ (Arr v2202 1 c2203 :: Box b2198 [.slice none 0 0, .slice none 0 0, .slice none 0 0] :: Box b2207 [v3288, v3292, .slice none 0 0] :: Arr v3288 256 c3289 :: Arr v3292 1 c3293 :: Arr (.slice (some ⟨b3573, 0, none⟩) 256 256) 1 (repC 256 [.int .i64 0]) :: Box b2196 [v1, v4, v7] :: hs) := H
          replace H := H.front 6 rfl
          replace H : Hp C wd3575 ρ (Box b2196 [v1, v4, v7] :: Arr v2202 1 c2203 :: Box b2198 [.slice none 0 0, .slice none 0 0, .slice none 0 0] :: Box b2207 [v3288, v3292, .slice none 0 0] :: Arr v3288 256 c3289 :: Arr v3292 1 c3293 :: Arr (.slice (some ⟨b3573, 0, none⟩) 256 256) 1 (repC 256 [.int .i64 0]) :: hs) := H
          refine C_iter (f := fun s => F_dofferref20_Canon_l1 N x2 x2204 x3566 s.1 s.2) ho3668 (fun s a w' => ∃ (c3697 : (List Value)) (x3698 : (List Int)) (x3701 : Int), (x3698, x3701) = s ∧ rdL (eI .i64) ρ x3698 c3697 ∧ x3698.length = 256 ∧ Fr 70 a [(1, .pointer (some ⟨b2196, 0, none⟩)), (2, .pointer (some ⟨b2198, 0, none⟩)), (3, v2202), (4, .pointer (some ⟨b2207, 0, none⟩)), (6, .int .i64 x3566), (7, .pointer (some ⟨b3573, 0, none⟩)), (8, .int .i64 x3701), (14, v2202), (15, .int .i64 (x2204.length : Int)), (16, .int .i64 x3287)] ∧ Hp C w' ρ (Box b2196 [v1, v4, v7] :: Arr v2202 1 c2203 :: Box b2198 [.slice none 0 0, .slice none 0 0, .slice none 0 0] :: Box b2207 [v3288, v3292, .slice none 0 0] :: Arr v3288 256 c3289 :: Arr v3292 1 c3293 :: Arr (.slice (some ⟨b3573, 0, none⟩) 256 256) 1 c3697 :: hs)) ?_ ?_
          · exact fun a hf => ⟨(repC 256 [.int .i64 0]), (List.replicate 256 0), 0, rfl, (rdL_rep (e:=(eI .i64)) (ρ:=ρ) (rfl) 256), List.length_replicate, hf.sub ⟨rfl, rfl, rfl, rfl, rfl, rfl, rfl, rfl, rfl, rfl, trivial⟩, H⟩
          · rintro s o3730 a wd3733 ⟨c3697, x3698, x3701, rfl, r3699, lp3700, hf, H⟩ hB3731 hO3732
            replace hB3731 : F_dofferref20_Canon_l1 N x2 x2204 x3566 x3698 x3701 = some o3730 := hB3731
            unfold F_dofferref20_Canon_l1 at hB3731
            refine CW.at hf ?_
            refine C_seq ?_
            refine C_seq ?_
            refine R_nd ?_
            refine nq (v := .int .i64 x3701) (Q_move rfl) rfl rfl ?_
            refine nq (v := .bool (decide (x3701 < 256))) (Q_lss rfl rfl) rfl rfl ?_
            refine WL_nil ?_
            refine x_then ?_
            refine CW.sub (E' := [(1, .pointer (some ⟨b2196, 0, none⟩)), (2, .pointer (some ⟨b2198, 0, none⟩)), (3, v2202), (4, .pointer (some ⟨b2207, 0, none⟩)), (6, .int .i64 x3566), (7, .pointer (some ⟨b3573, 0, none⟩)), (8, .int .i64 x3701), (14, v2202), (15, .int .i64 (x2204.length : Int)), (16, .int .i64 x3287), (22, .bool (decide (x3701 < 256)))]) ⟨rfl, rfl, rfl, rfl, rfl, rfl, rfl, rfl, rfl, rfl, rfl, trivial⟩ ?_
            refine C_cond rfl (fun hb => ?_) (fun hb => ?_)
            · replace hB3731 := itT hb hB3731
              refine C_skip ?_
              refine x_then ?_
              refine CW.sub (E' := [(1, .pointer (some ⟨b2196, 0, none⟩)), (2, .pointer (some ⟨b2198, 0, none⟩)), (3, v2202), (4, .pointer (some ⟨b2207, 0, none⟩)), (6, .int .i64 x3566), (7, .pointer (some ⟨b3573, 0, none⟩)), (8, .int .i64 x3701), (14, v2202), (15, .int .i64 (x2204.length : Int)), (16, .int .i64 x3287)]) ⟨rfl, rfl, rfl, rfl, rfl, rfl, rfl, rfl, rfl, rfl, trivial⟩ ?_
              refine C_seq ?_
              refine C_block ?_
              refine R_nd ?_
              refine nq (v := .int .i64 x3701) (Q_move rfl) rfl rfl ?_
              refine nq (v := v2202) (Q_move rfl) rfl rfl ?_
              refine nq (v := .pointer (some ⟨b2196, 0, none⟩)) (Q_fld Tryd.underlying29 rfl ty27 (by decide) rfl rfl) rfl rfl ?_
              refine nq (v := v1) (Q_ldB (k := 0) (cs := [v1]) H.ok rfl ty27 rfl rfl rfl (fun _ => rfl) rfl) rfl rfl ?_
              refine nq (v := .int .i64 x3566) (Q_move rfl) rfl rfl ?_
              refine nq (v := .int .i64 x3701) (Q_move rfl) rfl rfl ?_
              obtain ⟨x3734, hx3734, hB3731⟩ := bnd hB3731
              obtain ⟨b3735, o3736, c3737, hc3738, ha3739, hi3740⟩ := idxR r3 hx3734
              refine nq (v := .pointer (some ⟨b3735, o3736, none⟩)) (Q_idx hi3740 Tryd.underlying27 ty57 rfl rfl) rfl rfl ?_
              obtain ⟨x3741, hx3741, hB3731⟩ := bnd hB3731
              have hn3742 := idx_lt hc3738.1 hx3741
              refine nq (v := .pointer (some ⟨b3735, o3736 + x3701.toNat * 1, none⟩)) (Q_idxA hn3742.1 hn3742.2 Tryd.underlying57 ty3 rfl rfl) rfl rfl ?_
              obtain ⟨c3743, hc3744, ha3745, _⟩ := arrR hc3738 ha3739 hx3741
              refine nq (v := .int .i64 x3741) (Q_ld (show cellsAt _ _ _ [.int .i64 x3741] from (show _ = [_] from hc3744) ▸ (ha3745.up H.ok.view)) ty3 rfl (fun _ => rfl) rfl rfl) rfl rfl ?_
              replace H := H.front 1 rfl
              replace H : Hp C wd3733 ρ (Arr v2202 1 c2203 :: Box b2196 [v1, v4, v7] :: Box b2198 [.slice none 0 0, .slice none 0 0, .slice none 0 0] :: Box b2207 [v3288, v3292, .slice none 0 0] :: Arr v3288 256 c3289 :: Arr v3292 1 c3293 :: Arr (.slice (some ⟨b3573, 0, none⟩) 256 256) 1 c3697 :: hs) := H
              obtain ⟨q3746, hq3746, hB3731⟩ := bnd hB3731
              obtain ⟨C', ρ', hl3747, HA, hL, hback⟩ := Hp.lend (A := []) (L := [Arr v2202 1 c2203]) (F := Box b2196 [v1, v4, v7] :: Box b2198 [.slice none 0 0, .slice none 0 0, .slice none 0 0] :: Box b2207 [v3288, v3292, .slice none 0 0] :: Arr v3288 256 c3289 :: Arr v3292 1 c3293 :: Arr (.slice (some ⟨b3573, 0, none⟩) 256 256) 1 c3697 :: hs) H
              refine ne (E_call fn55 rfl (c_55 HA  (arr_rd (by decide) hl3747 (hL (Arr v2202 1 c2203) (by simp)) r2205) hq3746)) rfl rfl ?_
              rintro _ wd3749 ⟨x3748, rfl, rfl, H⟩
              try dsimp only at hB3731
              replace H := hback H
              replace H : Hp C wd3749 ρ (Arr v2202 1 c2203 :: Box b2196 [v1, v4, v7] :: Box b2198 [.slice none 0 0, .slice none 0 0, .slice none 0 0] :: Box b2207 [v3288, v3292, .slice none 0 0] :: Arr v3288 256 c3289 :: Arr v3292 1 c3293 :: Arr (.slice (some ⟨b3573, 0, none⟩) 256 256) 1 c3697 :: hs) := H
              obtain ⟨x3750, hx3750, hB3731⟩ := bnd hB3731
              have hn3752 := idx_lt (N := 256) (lp3700) hx3750
              have hi3751 : IdxOk (.slice (some ⟨b3573, 0, none⟩) 256 256) x3701 1 b3573 (0 + x3701.toNat * 1) := ⟨0, 256, 256, rfl, hn3752.1, hn3752.2, rfl⟩
              refine nq (v := .pointer (some ⟨b3573, 0 + x3701.toNat * 1, none⟩)) (Q_idxA hn3752.1 hn3752.2 Tryd.underlying57 ty3 rfl rfl) rfl rfl ?_
              obtain ⟨x3753, hx3753, hB3731⟩ := bnd hB3731
              obtain ⟨hs3754a, hs3754b, hs3754c⟩ := setI_some hx3753
              have r3755 : rdL (eI .i64) ρ x3753 (setC c3697 (x3701.toNat * 1 + 0) [.int .i64 x3748]) := hs3754c ▸ rdL.set r3699 hs3754b (rfl)
              refine ne (E_stA (k := 6) (j := 0) (c := [.int .i64 x3748]) H rfl ty3 hi3751 rfl rfl rfl rfl (one_cons rfl one_nil) (by decide)) rfl rfl ?_
              rintro _ wd3756 H
              replace H : Hp C wd3756 ρ (Arr v2202 1 c2203 :: Box b2196 [v1, v4, v7] :: Box b2198 [.slice none 0 0, .slice none 0 0, .slice none 0 0] :: Box b2207 [v3288, v3292, .slice none 0 0] :: Arr v3288 256 c3289 :: Arr v3292 1 c3293 :: Arr (.slice (some ⟨b3573, 0, none⟩) 256 256) 1 (setC c3697 (x3701.toNat * 1 + 0) [.int .i64 x3748]) :: hs) := H
              refine WL_nil ?_
              refine x_block ?_
              refine x_then ?_
              refine CW.sub (E' := [(1, .pointer (some ⟨b2196, 0, none⟩)), (2, .pointer (some ⟨b2198, 0, none⟩)), (3, v2202), (4, .pointer (some ⟨b2207, 0, none⟩)), (6, .int .i64 x3566), (7, .pointer (some ⟨b3573, 0, none⟩)), (8, .int .i64 x3701), (14, v2202), (15, .int .i64 (x2204.length : Int)), (16, .int .i64 x3287)]) ⟨rfl, rfl, rfl, rfl, rfl, rfl, rfl, rfl, rfl, rfl, trivial⟩ ?_
              refine R_nd ?_
              refine nq (v := .int .i64 x3701) (Q_move rfl) rfl rfl ?_
              refine nq (v := .int .i64 (w64 (x3701 + 1))) (Q_add rfl rfl) rfl rfl ?_
              refine nq (v := .int .i64 (w64 (x3701 + 1))) (Q_assign rfl) rfl rfl ?_
              refine WL_nil ?_
              replace H := H.front 6 rfl
              replace H : Hp C wd3756 ρ (Arr (.slice (some ⟨b3573, 0, none⟩) 256 256) 1 (setC c3697 (x3701.toNat * 1 + 0) [.int .i64 x3748]) :: Arr v2202 1 c2203 :: Box b2196 [v1, v4, v7] :: Box b2198 [.slice none 0 0, .slice none 0 0, .slice none 0 0] :: Box b2207 [v3288, v3292, .slice none 0 0] :: Arr v3288 256 c3289 :: Arr v3292 1 c3293 :: hs) := H
              replace H := H.front 6 rfl
              replace H : Hp C wd3756 ρ (Arr v3292 1 c3293 :: Arr (.slice (some ⟨b3573, 0, none⟩) 256 256) 1 (setC c3697 (x3701.toNat * 1 + 0) [.int .i64 x3748]) :: Arr v2202 1 c2203 :: Box b2196 [v1, v4, v7] :: Box b2198 [.slice none 0 0, .slice none 0 0, .slice none 0 0] :: Box b2207 [v3288, v3292, .slice none 0 0] :: Arr v3288 256 c3289 :: hs) := H
              replace H := H.front 6 rfl
              replace H : Hp C wd3756 ρ (Arr v3288 256 c3289 :: Arr v3292 1 c3293 :: Arr (.slice (some ⟨b3573, 0, none⟩) 256 256) 1 (setC c3697 (x3701.toNat * 1 + 0) [.int .i64 x3748]) :: Arr v2202 1 c2203 :: Box b2196 [v1, v4, v7] :: Box b2198 [.slice none 0 0, .slice none 0 0, .slice none 0 0] :: Box b2207 [v3288, v3292, .slice none 0 0] :: hs) := H
              replace H := H.front 6 rfl
              replace H : Hp C wd3756 ρ (Box b2207 [v3288, v3292, .slice none 0 0] :: Arr v3288 256 c3289 :: Arr v3292 1 c3293 :: Arr (.slice (some ⟨b3573, 0, none⟩) 256 256) 1 (setC c3697 (x3701.toNat * 1 + 0) [.int .i64 x3748]) :: Arr v2202 1 c2203 :: Box b2196 [v1, v4, v7] :: Box b2198 [.slice none 0 0, .slice none 0 0, .slice none 0 0] :: hs) := H
              replace H := H.front 6 rfl
              replace H : Hp C wd3756 ρ (Box b2198 [.slice none 0 0, .slice none 0 0, .slice none 0 0] :: Box b2207 [v3288, v3292, .slice none 0 0] :: Arr v3288 256 c3289 :: Arr v3292 1 c3293 :: Arr (.slice (some ⟨b3573, 0, none⟩) 256 256) 1 (setC c3697 (x3701.toNat * 1 + 0) [.int .i64 x3748]) :: Arr v2202 1 c2203 :: Box b2196 [v1, v4, v7] :: hs) := H
              replace H := H.front 5 rfl
              replace H : Hp C wd3756 ρ (Arr v2202 1 c2203 :: Box b2198 [.slice none 0 0, .slice none 0 0, .slice none 0 0] :: Box b2207 [v3288, v3292, .slice none 0 0] :: Arr v3288 256 c3289 :: Arr v3292 1 c3293 :: Arr (.slice (some ⟨b3573, 0, none⟩) 256 256) 1 (setC c3697 (x3701.toNat * 1 + 0) [.int .i64 x3748]) :: Box b2196 [v1, v4, v7] :: hs) := H
              replace H := H.front 6 rfl
              replace H : Hp C wd3756 ρ (Box b2196 [v1, v4, v7] :: Arr v2202 1 c2203 :: Box b2198 [.slice none 0 0, .slice none 0 0, .slice none 0 0] :: Box b2207 [v3288, v3292, .slice none 0 0] :: Arr v3288 256 c3289 :: Arr v3292 1 c3293 :: Arr (.slice (some ⟨b3573, 0, none⟩) 256 256) 1 (setC c3697 (x3701.toNat * 1 + 0) [.int .i64 x3748]) :: hs) := H
              obtain rfl := Option.some.inj hB3731
              refine x_A fun a hf => ⟨_, rfl, (setC c3697 (x3701.toNat * 1 + 0) [.int .i64 x3748]), x3753, w64 (x3701 + 1), rfl, r3755, (setI_len hx3753 lp3700), hf.sub ⟨rfl, rfl, rfl, rfl, rfl, rfl, rfl, rfl, rfl, rfl, trivial⟩, H⟩
            · replace hB3731 := itF hb hB3731
              refine C_exit ?_
              refine x_then_exit ?_
              refine x_then_exit ?_
              refine x_block_exit ?_
              replace H := H.front 6 rfl
              replace H : Hp C wd3733 ρ (Arr (.slice (some ⟨b3573, 0, none⟩) 256 256) 1 c3697 :: Box b2196 [v1, v4, v7] :: Arr v2202 1 c2203 :: Box b2198 [.slice none 0 0, .slice none 0 0, .slice none 0 0] :: Box b2207 [v3288, v3292, .slice none 0 0] :: Arr v3288 256 c3289 :: Arr v3292 1 c3293 :: hs) := H
              replace H := H.front 6 rfl
              replace H : Hp C wd3733 ρ (Arr v3292 1 c3293 :: Arr (.slice (some ⟨b3573, 0, none⟩) 256 256) 1 c3697 :: Box b2196 [v1, v4, v7] :: Arr v2202 1 c2203 :: Box b2198 [.slice none 0 0, .slice none 0 0, .slice none 0 0] :: Box b2207 [v3288, v3292, .slice none 0 0] :: Arr v3288 256 c3289 :: hs) := H
              replace H := H.front 6 rfl
              replace H : Hp C wd3733 ρ (Arr v3288 256 c3289 :: Arr v3292 1 c3293 :: Arr (.slice (some ⟨b3573, 0, none⟩) 256 256) 1 c3697 :: Box b2196 [v1, v4, v7] :: Arr v2202 1 c2203 :: Box b2198 [.slice none 0 0, .slice none 0 0, .slice none 0 0] :: Box b2207 [v3288, v3292, .slice none 0 0] :: hs) := H
              replace H := H.front 6 rfl
              replace H : Hp C wd3733 ρ (Box b2207 [v3288, v3292, .slice none 0 0] :: Arr v3288 256 c3289 :: Arr v3292 1 c3293 :: Arr (.slice (some ⟨b3573, 0, none⟩) 256 256) 1 c3697 :: Box b2196 [v1, v4, v7] :: Arr v2202 1 c2203 :: Box b2198 [.slice none 0 0, .slice none 0 0, .slice none 0 0] :: hs) := H
              replace H := H.front 6 rfl
              replace H : Hp C wd3733 ρ (Box b2198 [.slice none 0 0, .slice none 0 0, .slice none 0 0] :: Box b2207 [v3288, v3292, .slice none 0 0] :: Arr v3288 256 c3289 :: Arr v3292 1 c3293 :: Arr (.slice (some ⟨b3573, 0, none⟩) 256 256) 1 c3697 :: Box b2196 [v1, v4, v7] :: Arr v2202 1 c2203 :: hs) := H
              replace H := H.front 6 rfl
              replace H : Hp C wd3733 ρ (Arr v2202 1 c2203 :: Box b2198 [.slice none 0 0, .slice none 0 0, .slice none 0 0] :: Box b2207 [v3288, v3292, .slice none 0 0] :: Arr v3288 256 c3289 :: Arr v3292 1 c3293 :: Arr (.slice (some ⟨b3573, 0, none⟩) 256 256) 1 c3697 :: Box b2196 [v1, v4, v7] :: hs) := H
              replace H := H.front 6 rfl
              replace H : Hp C wd3733 ρ (Box b2196 [v1, v4, v7] :: Arr v2202 1 c2203 :: Box b2198 [.slice none 0 0, .slice none 0 0, .slice none 0 0] :: Box b2207 [v3288, v3292, .slice none 0 0] :: Arr v3288 256 c3289 :: Arr v3292 1 c3293 :: Arr (.slice (some ⟨b3573, 0, none⟩) 256 256) 1 c3697 :: hs) := H
              obtain rfl := Option.some.inj hB3731
              obtain rfl := hO3732 _ rfl
              refine x_A fun a hf => ⟨c3697, x3698, rfl, r3699, lp3700, hf.sub ⟨rfl, rfl, rfl, rfl, rfl, rfl, rfl, rfl, rfl, trivial⟩, H⟩
        · rintro a wd3757 ⟨c3664, x3665, rfl, r3666, lp3667, hf, H⟩
          try dsimp only at hB3563
          refine XX.at hf ?_
          refine x_then ?_
          refine CW.sub (E' := [(1, .pointer (some ⟨b2196, 0, none⟩)), (2, .pointer (some ⟨b2198, 0, none⟩)), (3, v2202), (4, .pointer (some ⟨b2207, 0, none⟩)), (6, .int .i64 x3566), (7, .pointer (some ⟨b3573, 0, none⟩)), (14, v2202), (15, .int .i64 (x2204.length : Int)), (16, .int .i64 x3287)]) ⟨rfl, rfl, rfl, rfl, rfl, rfl, rfl, rfl, rfl, trivial⟩ ?_
          refine C_seq ?_
          refine R_nd ?_
          refine nq (v := .pointer (some ⟨b2207, 0, none⟩)) (Q_fld Tryd.underlying29 rfl ty27 (by decide) rfl rfl) rfl rfl ?_
          refine nq (v := v3288) (Q_ldB (k := 3) (cs := [v3288]) H.ok rfl ty27 rfl rfl rfl (fun _ => rfl) rfl) rfl rfl ?_
          refine nq (v := .agg c3664.toArray) (Q_ldW (k := 6) H.ok rfl ty57 rfl (arr_clen r3666 lp3667)) rfl rfl ?_
          refine ne (E_bslice (xs := [.tmp 38]) (vs := [.agg c3664.toArray]) H Tryd.underlying27 ty57 (by decide) (cs := c3664) rfl (sz_cons (arr_clen r3666 lp3667) sz_nil) (by simp [Value.cells]) (by simp) (by simp) rfl rfl) rfl rfl ?_
          rintro _ wd3759 ⟨b3758, rfl, H⟩
          replace H : Hp C wd3759 ρ (Arr (.slice (some ⟨b3758, 0, none⟩) 1 1) 256 c3664 :: Box b2196 [v1, v4, v7] :: Arr v2202 1 c2203 :: Box b2198 [.slice none 0 0, .slice none 0 0, .slice none 0 0] :: Box b2207 [v3288, v3292, .slice none 0 0] :: Arr v3288 256 c3289 :: Arr v3292 1 c3293 :: Arr (.slice (some ⟨b3573, 0, none⟩) 256 256) 1 c3664 :: hs) := H
          obtain ⟨x3760, hx3760, hB3563⟩ := bnd hB3563
          obtain ⟨ha3761a, ha3761b⟩ := app_some hx3760
          have r3763 : rdL (eA 256 (eI .i64)) ρ x3760 (c3289 ++ c3664) := ha3761b ▸ rdL.app r3291 (show rdL (eA 256 (eI .i64)) ρ ([x3665]) c3664 from rdL.single ⟨lp3667, r3666⟩)
          refine ne (E_append (k := 5) H rfl Tryd.underlying27 ty57 rfl (by decide) (by decide) rfl rfl (Src.ofArr (k := 0) H.ok rfl) (rdL.one (show rdL (eA 256 (eI .i64)) ρ ([x3665]) c3664 from rdL.single ⟨lp3667, r3666⟩)) (app_fit r3291 (show rdL (eA 256 (eI .i64)) ρ ([x3665]) c3664 from rdL.single ⟨lp3667, r3666⟩) ha3761a)) rfl rfl ?_
          rintro v3762 wd3765 ⟨H, hc3764⟩
          replace H : Hp C wd3765 ρ (Arr (.slice (some ⟨b3758, 0, none⟩) 1 1) 256 c3664 :: Box b2196 [v1, v4, v7] :: Arr v2202 1 c2203 :: Box b2198 [.slice none 0 0, .slice none 0 0, .slice none 0 0] :: Box b2207 [v3288, v3292, .slice none 0 0] :: Arr v3762 256 (c3289 ++ c3664) :: Arr v3292 1 c3293 :: Arr (.slice (some ⟨b3573, 0, none⟩) 256 256) 1 c3664 :: hs) := H
          refine nq (v := .pointer (some ⟨b2207, 0, none⟩)) (Q_fld Tryd.underlying29 rfl ty27 (by decide) rfl rfl) rfl rfl ?_
          refine ne (E_stB (k := 4) (cs := [v3762]) (vs' := [v3762, v3292, .slice none 0 0]) H rfl ty27 rfl rfl (arr_cells (H.ok.get (k := 5) rfl)).1 rfl (one_cons (arr_cells (H.ok.get (k := 5) rfl)).2 one_nil) (by simp) rfl) rfl rfl ?_
          rintro _ wd3766 H
          replace H : Hp C wd3766 ρ (Arr (.slice (some ⟨b3758, 0, none⟩) 1 1) 256 c3664 :: Box b2196 [v1, v4, v7] :: Arr v2202 1 c2203 :: Box b2198 [.slice none 0 0, .slice none 0 0, .slice none 0 0] :: Box b2207 [v3762, v3292, .slice none 0 0] :: Arr v3762 256 (c3289 ++ c3664) :: Arr v3292 1 c3293 :: Arr (.slice (some ⟨b3573, 0, none⟩) 256 256) 1 c3664 :: hs) := H
          refine WL_nil ?_
          refine x_then ?_
          refine CW.sub (E' := [(1, .pointer (some ⟨b2196, 0, none⟩)), (2, .pointer (some ⟨b2198, 0, none⟩)), (3, v2202), (4, .pointer (some ⟨b2207, 0, none⟩)), (6, .int .i64 x3566), (14, v2202), (15, .int .i64 (x2204.length : Int)), (16, .int .i64 x3287)]) ⟨rfl, rfl, rfl, rfl, rfl, rfl, rfl, rfl, trivial⟩ ?_
          obtain ⟨o3796, ho3796, hB3563⟩ := bnd hB3563
          refine C_cutQ (fun a w' => ∃ (v3792 : Value) (c3793 : (List Value)) (x3794 : (List Int)), x3794 = o3796 ∧ rdL (eI .i64) ρ x3794 c3793 ∧ Fr 70 a [(1, .pointer (some ⟨b2196, 0, none⟩)), (2, .pointer (some ⟨b2198, 0, none⟩)), (3, v2202), (4, .pointer (some ⟨b2207, 0, none⟩)), (14, v2202), (15, .int .i64 (x2204.length : Int)), (16, .int .i64 x3287)] ∧ Hp C w' ρ (Box b2196 [v1, v4, v7] :: Arr v2202 1 c2203 :: Box b2198 [.slice none 0 0, .slice none 0 0, .slice none 0 0] :: Box b2207 [v3762, v3792, .slice none 0 0] :: Arr v3762 256 (c3289 ++ c3664) :: Arr v3792 1 c3793 :: hs)) ?_ ?_
          · refine R_dr (.take 0 (.take 2 (.take 3 (.take 4 (.take 5 (.take 6 (.two 1 7 (.one 7 (.one 8 (.take 9 (.one 10 .done)))) (.one 1 (.one 8 (.take 9 (.one 10 .done))))))))))) (fun w' => Ok w' ρ [Arr (.slice (some ⟨b3758, 0, none⟩) 1 1) 256 c3664, Box b2196 [v1, v4, v7], Arr v2202 1 c2203, Box b2198 [.slice none 0 0, .slice none 0 0, .slice none 0 0], Arr v3762 256 (c3289 ++ c3664), Arr (.slice (some ⟨b3573, 0, none⟩) 256 256) 1 c3664]) (by kernel_rfl) (by kernel_rfl) (by kernel_rfl) (H.drew.okS (by simp)) ?_
            replace H := H.drew
            refine dq (v := .pointer (some ⟨b2207, 1, none⟩)) rfl (fun w' hw => Q_fld Tryd.underlying29 rfl ty23 (by decide) rfl rfl) rfl rfl ?_
            refine dq (v := .pointer (some ⟨b2196, 1, none⟩)) rfl (fun w' hw => Q_fld Tryd.underlying29 rfl ty23 (by decide) rfl rfl) rfl rfl ?_
            refine dq (v := v4) rfl (fun w' hw => Q_ldB (k := 1) (cs := [v4]) hw rfl ty23 rfl rfl rfl (fun _ => rfl) rfl) rfl rfl ?_
            refine dq (v := .int .i64 x3566) rfl (fun w' hw => Q_move rfl) rfl rfl ?_
            obtain ⟨x3797, hx3797, ho3796⟩ := bnd ho3796
            obtain ⟨b3798, o3799, c3800, hc3801, ha3802, hi3803⟩ := idxR r6 hx3797
            refine dq (v := .pointer (some ⟨b3798, o3799, none⟩)) rfl (fun w' hw => Q_idx hi3803 Tryd.underlying23 ty3 rfl rfl) rfl rfl ?_
            refine dq (v := .int .i64 x3797) rfl (fun w' hw => Q_ld (show cellsAt _ _ _ [.int .i64 x3797] from (show _ = [_] from hc3801) ▸ (ha3802.up hw.view)) ty3 rfl (fun _ => rfl) rfl rfl) rfl rfl ?_
            refine d2 ?_ ?_
            · refine de rfl (Eff.quiet (v := v3292) (Q_ldB (k := 4) (cs := [v3292]) H.ok rfl ty23 rfl rfl rfl (fun _ => rfl) rfl)) rfl rfl ?_
              rintro _ _ ⟨rfl, rfl⟩
              refine ⟨H.okS (by simp), ?_⟩
              refine d1 (de rfl (E_bslice (xs := [.tmp 48]) (vs := [.int .i64 x3797]) H Tryd.underlying23 ty3 (by decide) (cs := [.int .i64 x3797]) rfl (sz_cons rfl sz_nil) rfl (by simp) (by simp) rfl rfl) rfl rfl ?_)
              rintro _ wd3805 ⟨b3804, rfl, H⟩
              replace H : Hp C wd3805 ρ (Arr (.slice (some ⟨b3804, 0, none⟩) 1 1) 1 ([.int .i64 x3797]) :: Arr (.slice (some ⟨b3758, 0, none⟩) 1 1) 256 c3664 :: Box b2196 [v1, v4, v7] :: Arr v2202 1 c2203 :: Box b2198 [.slice none 0 0, .slice none 0 0, .slice none 0 0] :: Box b2207 [v3762, v3292, .slice none 0 0] :: Arr v3762 256 (c3289 ++ c3664) :: Arr v3292 1 c3293 :: Arr (.slice (some ⟨b3573, 0, none⟩) 256 256) 1 c3664 :: hs) := H
              refine ⟨H.okS (by simp), ?_⟩
              obtain ⟨x3806, hx3806, ho3796⟩ := bnd ho3796
              obtain ⟨ha3807a, ha3807b⟩ := app_some hx3806
              have r3809 : rdL (eI .i64) ρ x3806 (c3293 ++ ([.int .i64 x3797])) := ha3807b ▸ rdL.app r3295 (show rdL (eI .i64) ρ ([x3797]) ([.int .i64 x3797]) from ⟨([.int .i64 x3797]), _, rfl, rfl, rdL.nil⟩)
              refine d1 (de rfl (E_append (k := 7) H rfl Tryd.underlying23 ty3 rfl (by decide) (by decide) rfl rfl (Src.ofArr (k := 0) H.ok rfl) (rdL.one (show rdL (eI .i64) ρ ([x3797]) ([.int .i64 x3797]) from ⟨([.int .i64 x3797]), _, rfl, rfl, rdL.nil⟩)) (app_fit r3295 (show rdL (eI .i64) ρ ([x3797]) ([.int .i64 x3797]) from ⟨([.int .i64 x3797]), _, rfl, rfl, rdL.nil⟩) ha3807a)) rfl rfl ?_)
              rintro v3808 wd3811 ⟨H, hc3810⟩
              replace H : Hp C wd3811 ρ (Arr (.slice (some ⟨b3804, 0, none⟩) 1 1) 1 ([.int .i64 x3797]) :: Arr (.slice (some ⟨b3758, 0, none⟩) 1 1) 256 c3664 :: Box b2196 [v1, v4, v7] :: Arr v2202 1 c2203 :: Box b2198 [.slice none 0 0, .slice none 0 0, .slice none 0 0] :: Box b2207 [v3762, v3292, .slice none 0 0] :: Arr v3762 256 (c3289 ++ c3664) :: Arr v3808 1 (c3293 ++ ([.int .i64 x3797])) :: Arr (.slice (some ⟨b3573, 0, none⟩) 256 256) 1 c3664 :: hs) := H
              refine ⟨H.okS (by simp), ?_⟩
              refine dq (v := .pointer (some ⟨b2207, 1, none⟩)) rfl (fun w' hw => Q_fld Tryd.underlying29 rfl ty23 (by decide) rfl rfl) rfl rfl ?_
              refine d1 (de rfl (E_stB (k := 5) (cs := [v3808]) (vs' := [v3762, v3808, .slice none 0 0]) H rfl ty23 rfl rfl (arr_cells (H.ok.get (k := 7) rfl)).1 rfl (one_cons (arr_cells (H.ok.get (k := 7) rfl)).2 one_nil) (by simp) rfl) rfl rfl ?_)
              rintro _ wd3812 H
              replace H : Hp C wd3812 ρ (Arr (.slice (some ⟨b3804, 0, none⟩) 1 1) 1 ([.int .i64 x3797]) :: Arr (.slice (some ⟨b3758, 0, none⟩) 1 1) 256 c3664 :: Box b2196 [v1, v4, v7] :: Arr v2202 1 c2203 :: Box b2198 [.slice none 0 0, .slice none 0 0, .slice none 0 0] :: Box b2207 [v3762, v3808, .slice none 0 0] :: Arr v3762 256 (c3289 ++ c3664) :: Arr v3808 1 (c3293 ++ ([.int .i64 x3797])) :: Arr (.slice (some ⟨b3573, 0, none⟩) 256 256) 1 c3664 :: hs) := H
              refine ⟨H.okS (by simp), ?_⟩
              refine DL_nil ?_
              replace H := H.front 7 rfl
              replace H : Hp C wd3812 ρ (Arr v3808 1 (c3293 ++ ([.int .i64 x3797])) :: Arr (.slice (some ⟨b3804, 0, none⟩) 1 1) 1 ([.int .i64 x3797]) :: Arr (.slice (some ⟨b3758, 0, none⟩) 1 1) 256 c3664 :: Box b2196 [v1, v4, v7] :: Arr v2202 1 c2203 :: Box b2198 [.slice none 0 0, .slice none 0 0, .slice none 0 0] :: Box b2207 [v3762, v3808, .slice none 0 0] :: Arr v3762 256 (c3289 ++ c3664) :: Arr (.slice (some ⟨b3573, 0, none⟩) 256 256) 1 c3664 :: hs) := H
              replace H := H.front 7 rfl
              replace H : Hp C wd3812 ρ (Arr v3762 256 (c3289 ++ c3664) :: Arr v3808 1 (c3293 ++ ([.int .i64 x3797])) :: Arr (.slice (some ⟨b3804, 0, none⟩) 1 1) 1 ([.int .i64 x3797]) :: Arr (.slice (some ⟨b3758, 0, none⟩) 1 1) 256 c3664 :: Box b2196 [v1, v4, v7] :: Arr v2202 1 c2203 :: Box b2198 [.slice none 0 0, .slice none 0 0, .slice none 0 0] :: Box b2207 [v3762, v3808, .slice none 0 0] :: Arr (.slice (some ⟨b3573, 0, none⟩) 256 256) 1 c3664 :: hs) := H
              replace H := H.front 7 rfl
              replace H : Hp C wd3812 ρ (Box b2207 [v3762, v3808, .slice none 0 0] :: Arr v3762 256 (c3289 ++ c3664) :: Arr v3808 1 (c3293 ++ ([.int .i64 x3797])) :: Arr (.slice (some ⟨b3804, 0, none⟩) 1 1) 1 ([.int .i64 x3797]) :: Arr (.slice (some ⟨b3758, 0, none⟩) 1 1) 256 c3664 :: Box b2196 [v1, v4, v7] :: Arr v2202 1 c2203 :: Box b2198 [.slice none 0 0, .slice none 0 0, .slice none 0 0] :: Arr (.slice (some ⟨b3573, 0, none⟩) 256 256) 1 c3664 :: hs) := H
              replace H := H.front 7 rfl
              replace H : Hp C wd3812 ρ (Box b2198 [.slice none 0 0, .slice none 0 0, .slice none 0 0] :: Box b2207 [v3762, v3808, .slice none 0 0] :: Arr v3762 256 (c3289 ++ c3664) :: Arr v3808 1 (c3293 ++ ([.int .i64 x3797])) :: Arr (.slice (some ⟨b3804, 0, none⟩) 1 1) 1 ([.int .i64 x3797]) :: Arr (.slice (some ⟨b3758, 0, none⟩) 1 1) 256 c3664 :: Box b2196 [v1, v4, v7] :: Arr v2202 1 c2203 :: Arr (.slice (some ⟨b3573, 0, none⟩) 256 256) 1 c3664 :: hs) := H
              replace H := H.front 7 rfl
              replace H : Hp C wd3812 ρ (Arr v2202 1 c2203 :: Box b2198 [.slice none 0 0, .slice none 0 0, .slice none 0 0] :: Box b2207 [v3762, v3808, .slice none 0 0] :: Arr v3762 256 (c3289 ++ c3664) :: Arr v3808 1 (c3293 ++ ([.int .i64 x3797])) :: Arr (.slice (some ⟨b3804, 0, none⟩) 1 1) 1 ([.int .i64 x3797]) :: Arr (.slice (some ⟨b3758, 0, none⟩) 1 1) 256 c3664 :: Box b2196 [v1, v4, v7] :: Arr (.slice (some ⟨b3573, 0, none⟩) 256 256) 1 c3664 :: hs) := H
              replace H := H.front 7 rfl
              replace H : Hp C wd3812 ρ (Box b2196 [v1, v4, v7] :: Arr v2202 1 c2203 :: Box b2198 [.slice none 0 0, .slice none 0 0, .slice none 0 0] :: Box b2207 [v3762, v3808, .slice none 0 0] :: Arr v3762 256 (c3289 ++ c3664) :: Arr v3808 1 (c3293 ++ ([.int .i64 x3797])) :: Arr (.slice (some ⟨b3804, 0, none⟩) 1 1) 1 ([.int .i64 x3797]) :: Arr (.slice (some ⟨b3758, 0, none⟩) 1 1) 256 c3664 :: Arr (.slice (some ⟨b3573, 0, none⟩) 256 256) 1 c3664 :: hs) := H
              replace H := H.drop 6 rfl
              replace H : Hp C wd3812 ρ (Box b2196 [v1, v4, v7] :: Arr v2202 1 c2203 :: Box b2198 [.slice none 0 0, .slice none 0 0, .slice none 0 0] :: Box b2207 [v3762, v3808, .slice none 0 0] :: Arr v3762 256 (c3289 ++ c3664) :: Arr v3808 1 (c3293 ++ ([.int .i64 x3797])) :: Arr (.slice (some ⟨b3758, 0, none⟩) 1 1) 256 c3664 :: Arr (.slice (some ⟨b3573, 0, none⟩) 256 256) 1 c3664 :: hs) := H
              replace H := H.drop 6 rfl
              replace H : Hp C wd3812 ρ (Box b2196 [v1, v4, v7] :: Arr v2202 1 c2203 :: Box b2198 [.slice none 0 0, .slice none 0 0, .slice none 0 0] :: Box b2207 [v3762, v3808, .slice none 0 0] :: Arr v3762 256 (c3289 ++ c3664) :: Arr v3808 1 (c3293 ++ ([.int .i64 x3797])) :: Arr (.slice (some ⟨b3573, 0, none⟩) 256 256) 1 c3664 :: hs) := H
              replace H := H.drop 6 rfl
              replace H : Hp C wd3812 ρ (Box b2196 [v1, v4, v7] :: Arr v2202 1 c2203 :: Box b2198 [.slice none 0 0, .slice none 0 0, .slice none 0 0] :: Box b2207 [v3762, v3808, .slice none 0 0] :: Arr v3762 256 (c3289 ++ c3664) :: Arr v3808 1 (c3293 ++ ([.int .i64 x3797])) :: hs) := H
              obtain rfl := Option.some.inj ho3796
              refine x_A fun a hf => ⟨v3808, (c3293 ++ ([.int .i64 x3797])), x3806, rfl, r3809, hf.sub ⟨rfl, rfl, rfl, rfl, rfl, rfl, rfl, trivial⟩, H⟩
            · refine de rfl (E_bslice (xs := [.tmp 48]) (vs := [.int .i64 x3797]) H Tryd.underlying23 ty3 (by decide) (cs := [.int .i64 x3797]) rfl (sz_cons rfl sz_nil) rfl (by simp) (by simp) rfl rfl) rfl rfl ?_
              rintro _ wd3814 ⟨b3813, rfl, H⟩
              replace H : Hp C wd3814 ρ (Arr (.slice (some ⟨b3813, 0, none⟩) 1 1) 1 ([.int .i64 x3797]) :: Arr (.slice (some ⟨b3758, 0, none⟩) 1 1) 256 c3664 :: Box b2196 [v1, v4, v7] :: Arr v2202 1 c2203 :: Box b2198 [.slice none 0 0, .slice none 0 0, .slice none 0 0] :: Box b2207 [v3762, v3292, .slice none 0 0] :: Arr v3762 256 (c3289 ++ c3664) :: Arr v3292 1 c3293 :: Arr (.slice (some ⟨b3573, 0, none⟩) 256 256) 1 c3664 :: hs) := H
              refine ⟨H.okS (by simp), ?_⟩
              refine d1 (de rfl (Eff.quiet (v := v3292) (Q_ldB (k := 5) (cs := [v3292]) H.ok rfl ty23 rfl rfl rfl (fun _ => rfl) rfl)) rfl rfl ?_)
              rintro _ _ ⟨rfl, rfl⟩
              refine ⟨H.okS (by simp), ?_⟩
              obtain ⟨x3815, hx3815, ho3796⟩ := bnd ho3796
              obtain ⟨ha3816a, ha3816b⟩ := app_some hx3815
              have r3818 : rdL (eI .i64) ρ x3815 (c3293 ++ ([.int .i64 x3797])) := ha3816b ▸ rdL.app r3295 (show rdL (eI .i64) ρ ([x3797]) ([.int .i64 x3797]) from ⟨([.int .i64 x3797]), _, rfl, rfl, rdL.nil⟩)
              refine d1 (de rfl (E_append (k := 7) H rfl Tryd.underlying23 ty3 rfl (by decide) (by decide) rfl rfl (Src.ofArr (k := 0) H.ok rfl) (rdL.one (show rdL (eI .i64) ρ ([x3797]) ([.int .i64 x3797]) from ⟨([.int .i64 x3797]), _, rfl, rfl, rdL.nil⟩)) (app_fit r3295 (show rdL (eI .i64) ρ ([x3797]) ([.int .i64 x3797]) from ⟨([.int .i64 x3797]), _, rfl, rfl, rdL.nil⟩) ha3816a)) rfl rfl ?_)
              rintro v3817 wd3820 ⟨H, hc3819⟩
              replace H : Hp C wd3820 ρ (Arr (.slice (some ⟨b3813, 0, none⟩) 1 1) 1 ([.int .i64 x3797]) :: Arr (.slice (some ⟨b3758, 0, none⟩) 1 1) 256 c3664 :: Box b2196 [v1, v4, v7] :: Arr v2202 1 c2203 :: Box b2198 [.slice none 0 0, .slice none 0 0, .slice none 0 0] :: Box b2207 [v3762, v3292, .slice none 0 0] :: Arr v3762 256 (c3289 ++ c3664) :: Arr v3817 1 (c3293 ++ ([.int .i64 x3797])) :: Arr (.slice (some ⟨b3573, 0, none⟩) 256 256) 1 c3664 :: hs) := H
              refine ⟨H.okS (by simp), ?_⟩
              refine dq (v := .pointer (some ⟨b2207, 1, none⟩)) rfl (fun w' hw => Q_fld Tryd.underlying29 rfl ty23 (by decide) rfl rfl) rfl rfl ?_
              refine d1 (de rfl (E_stB (k := 5) (cs := [v3817]) (vs' := [v3762, v3817, .slice none 0 0]) H rfl ty23 rfl rfl (arr_cells (H.ok.get (k := 7) rfl)).1 rfl (one_cons (arr_cells (H.ok.get (k := 7) rfl)).2 one_nil) (by simp) rfl) rfl rfl ?_)
              rintro _ wd3821 H
              replace H : Hp C wd3821 ρ (Arr (.slice (some ⟨b3813, 0, none⟩) 1 1) 1 ([.int .i64 x3797]) :: Arr (.slice (some ⟨b3758, 0, none⟩) 1 1) 256 c3664 :: Box b2196 [v1, v4, v7] :: Arr v2202 1 c2203 :: Box b2198 [.slice none 0 0, .slice none 0 0, .slice none 0 0] :: Box b2207 [v3762, v3817, .slice none 0 0] :: Arr v3762 256 (c3289 ++ c3664) :: Arr v3817 1 (c3293 ++ ([.int .i64 x3797])) :: Arr (.slice (some ⟨b3573, 0, none⟩) 256 256) 1 c3664 :: hs) := H
              refine ⟨H.okS (by simp), ?_⟩
              refine DL_nil ?_
              replace H := H.front 7 rfl
              replace H : Hp C wd3821 ρ (Arr v3817 1 (c3293 ++ ([.int .i64 x3797])) :: Arr (.slice (some ⟨b3813, 0, none⟩) 1 1) 1 ([.int .i64 x3797]) :: Arr (.slice (some ⟨b3758, 0, none⟩) 1 1) 256 c3664 :: Box b2196 [v1, v4, v7] :: Arr v2202 1 c2203 :: Box b2198 [.slice none 0 0, .slice none 0 0, .slice none 0 0] :: Box b2207 [v3762, v3817, .slice none 0 0] :: Arr v3762 256 (c3289 ++ c3664) :: Arr (.slice (some ⟨b3573, 0, none⟩) 256 256) 1 c3664 :: hs) := H
              replace H := H.front 7 rfl
              replace H : Hp C wd3821 ρ (Arr v3762 256 (c3289 ++ c3664) :: Arr v3817 1 (c3293 ++ ([.int .i64 x3797])) :: Arr (.slice (some ⟨b3813, 0, none⟩) 1 1) 1 ([.int .i64 x3797]) :: Arr (.slice (some ⟨b3758, 0, none⟩) 1 1) 256 c3664 :: Box b2196 [v1, v4, v7] :: Arr v2202 1 c2203 :: Box b2198 [.slice none 0 0, .slice none 0 0, .slice none 0 0] :: Box b2207 [v3762, v3817, .slice none 0 0] :: Arr (.slice (some ⟨b3573, 0, none⟩) 256 256) 1 c3664 :: hs) := H
              replace H := H.front 7 rfl
              replace H : Hp C wd3821 ρ (Box b2207 [v3762, v3817, .slice none 0 0] :: Arr v3762 256 (c3289 ++ c3664) :: Arr v3817 1 (c3293 ++ ([.int .i64 x3797])) :: Arr (.slice (some ⟨b3813, 0, none⟩) 1 1) 1 ([.int .i64 x3797]) :: Arr (.slice (some ⟨b3758, 0, none⟩) 1 1) 256 c3664 :: Box b2196 [v1, v4, v7] :: Arr v2202 1 c2203 :: Box b2198 [.slice none 0 0, .slice none 0 0, .slice none 0 0] :: Arr (.slice (some ⟨b3573, 0, none⟩) 256 256) 1 c3664 :: hs) := H
              replace H := H.front 7 rfl
              replace H : Hp C wd3821 ρ (Box b2198 [.slice none 0 0, .slice none 0 0, .slice none 0 0] :: Box b2207 [v3762, v3817, .slice none 0 0] :: Arr v3762 256 (c3289 ++ c3664) :: Arr v3817 1 (c3293 ++ ([.int .i64 x3797])) :: Arr (.slice (some ⟨b3813, 0, none⟩) 1 1) 1 ([.int .i64 x3797]) :: Arr (.slice (some ⟨b3758, 0, none⟩) 1 1) 256 c3664 :: Box b2196 [v1, v4, v7] :: Arr v2202 1 c2203 :: Arr (.slice (some ⟨b3573, 0, none⟩) 256 256) 1 c3664 :: hs) := H
              replace H := H.front 7 rfl
              replace H : Hp C wd3821 ρ (Arr v2202 1 c2203 :: Box b2198 [.slice none 0 0, .slice none 0 0, .slice none 0 0] :: Box b2207 [v3762, v3817, .slice none 0 0] :: Arr v3762 256 (c3289 ++ c3664) :: Arr v3817 1 (c3293 ++ ([.int .i64 x3797])) :: Arr (.slice (some ⟨b3813, 0, none⟩) 1 1) 1 ([.int .i64 x3797]) :: Arr (.slice (some ⟨b3758, 0, none⟩) 1 1) 256 c3664 :: Box b2196 [v1, v4, v7] :: Arr (.slice (some ⟨b3573, 0, none⟩) 256 256) 1 c3664 :: hs) := H
              replace H := H.front 7 rfl
              replace H : Hp C wd3821 ρ (Box b2196 [v1, v4, v7] :: Arr v2202 1 c2203 :: Box b2198 [.slice none 0 0, .slice none 0 0, .slice none 0 0] :: Box b2207 [v3762, v3817, .slice none 0 0] :: Arr v3762 256 (c3289 ++ c3664) :: Arr v3817 1 (c3293 ++ ([.int .i64 x3797])) :: Arr (.slice (some ⟨b3813, 0, none⟩) 1 1) 1 ([.int .i64 x3797]) :: Arr (.slice (some ⟨b3758, 0, none⟩) 1 1) 256 c3664 :: Arr (.slice (some ⟨b3573, 0, none⟩) 256 256) 1 c3664 :: hs) := H
              replace H := H.drop 6 rfl
              replace H : Hp C wd3821 ρ (Box b2196 [v1, v4, v7] :: Arr v2202 1 c2203 :: Box b2198 [.slice none 0 0, .slice none 0 0, .slice none 0 0] :: Box b2207 [v3762, v3817, .slice none 0 0] :: Arr v3762 256 (c3289 ++ c3664) :: Arr v3817 1 (c3293 ++ ([.int .i64 x3797])) :: Arr (.slice (some ⟨b3758, 0, none⟩) 1 1) 256 c3664 :: Arr (.slice (some ⟨b3573, 0, none⟩) 256 256) 1 c3664 :: hs) := H
              replace H := H.drop 6 rfl
              replace H : Hp C wd3821 ρ (Box b2196 [v1, v4, v7] :: Arr v2202 1 c2203 :: Box b2198 [.slice none 0 0, .slice none 0 0, .slice none 0 0] :: Box b2207 [v3762, v3817, .slice none 0 0] :: Arr v3762 256 (c3289 ++ c3664) :: Arr v3817 1 (c3293 ++ ([.int .i64 x3797])) :: Arr (.slice (some ⟨b3573, 0, none⟩) 256 256) 1 c3664 :: hs) := H
              replace H := H.drop 6 rfl
              replace H : Hp C wd3821 ρ (Box b2196 [v1, v4, v7] :: Arr v2202 1 c2203 :: Box b2198 [.slice none 0 0, .slice none 0 0, .slice none 0 0] :: Box b2207 [v3762, v3817, .slice none 0 0] :: Arr v3762 256 (c3289 ++ c3664) :: Arr v3817 1 (c3293 ++ ([.int .i64 x3797])) :: hs) := H
              obtain rfl := Option.some.inj ho3796
              refine x_A fun a hf => ⟨v3817, (c3293 ++ ([.int .i64 x3797])), x3815, rfl, r3818, hf.sub ⟨rfl, rfl, rfl, rfl, rfl, rfl, rfl, trivial⟩, H⟩
          · rintro a wd3822 ⟨v3792, c3793, x3794, rfl, r3795, hf, H⟩
            try dsimp only at hB3563
            refine XX.at hf ?_
            refine x_block ?_
            refine x_then ?_
            refine CW.sub (E' := [(1, .pointer (some ⟨b2196, 0, none⟩)), (2, .pointer (some ⟨b2198, 0, none⟩)), (3, v2202), (4, .pointer (some ⟨b2207, 0, none⟩)), (14, v2202), (15, .int .i64 (x2204.length : Int)), (16, .int .i64 x3287)]) ⟨rfl, rfl, rfl, rfl, rfl, rfl, rfl, trivial⟩ ?_
            refine R_nd ?_
            refine nq (v := .int .i64 (w64 (x3287 + 1))) (Q_add rfl rfl) rfl rfl ?_
            refine nq (v := .int .i64 (w64 (x3287 + 1))) (Q_move rfl) rfl rfl ?_
            refine WL_nil ?_
            replace H := H.front 5 rfl
            replace H : Hp C wd3822 ρ (Arr v3792 1 c3793 :: Box b2196 [v1, v4, v7] :: Arr v2202 1 c2203 :: Box b2198 [.slice none 0 0, .slice none 0 0, .slice none 0 0] :: Box b2207 [v3762, v3792, .slice none 0 0] :: Arr v3762 256 (c3289 ++ c3664) :: hs) := H
            replace H := H.front 5 rfl
            replace H : Hp C wd3822 ρ (Arr v3762 256 (c3289 ++ c3664) :: Arr v3792 1 c3793 :: Box b2196 [v1, v4, v7] :: Arr v2202 1 c2203 :: Box b2198 [.slice none 0 0, .slice none 0 0, .slice none 0 0] :: Box b2207 [v3762, v3792, .slice none 0 0] :: hs) := H
            replace H := H.front 5 rfl
            replace H : Hp C wd3822 ρ (Box b2207 [v3762, v3792, .slice none 0 0] :: Arr v3762 256 (c3289 ++ c3664) :: Arr v3792 1 c3793 :: Box b2196 [v1, v4, v7] :: Arr v2202 1 c2203 :: Box b2198 [.slice none 0 0, .slice none 0 0, .slice none 0 0] :: hs) := H
            replace H := H.front 5 rfl
            replace H : Hp C wd3822 ρ (Box b2198 [.slice none 0 0, .slice none 0 0, .slice none 0 0] :: Box b2207 [v3762, v3792, .slice none 0 0] :: Arr v3762 256 (c3289 ++ c3664) :: Arr v3792 1 c3793 :: Box b2196 [v1, v4, v7] :: Arr v2202 1 c2203 :: hs) := H
            replace H := H.front 5 rfl
            replace H : Hp C wd3822 ρ (Arr v2202 1 c2203 :: Box b2198 [.slice none 0 0, .slice none 0 0, .slice none 0 0] :: Box b2207 [v3762, v3792, .slice none 0 0] :: Arr v3762 256 (c3289 ++ c3664) :: Arr v3792 1 c3793 :: Box b2196 [v1, v4, v7] :: hs) := H
            replace H := H.front 5 rfl
            replace H : Hp C wd3822 ρ (Box b2196 [v1, v4, v7] :: Arr v2202 1 c2203 :: Box b2198 [.slice none 0 0, .slice none 0 0, .slice none 0 0] :: Box b2207 [v3762, v3792, .slice none 0 0] :: Arr v3762 256 (c3289 ++ c3664) :: Arr v3792 1 c3793 :: hs) := H
            obtain rfl := Option.some.inj hB3563
            refine x_A fun a hf => ⟨_, rfl, v3762, (c3289 ++ c3664), v3792, c3793, w64 (x3287 + 1), x3760, x3794, rfl, r3763, r3795, hf.sub ⟨rfl, rfl, rfl, rfl, rfl, rfl, rfl, trivial⟩, H⟩
      · replace hB3563 := itF hb hB3563
        refine C_exit ?_
        refine x_then_exit ?_
        refine x_then_exit ?_
        refine x_block_exit ?_
        replace H := H.front 5 rfl
        replace H : Hp C wd3565 ρ (Arr v3292 1 c3293 :: Box b2196 [v1, v4, v7] :: Arr v2202 1 c2203 :: Box b2198 [.slice none 0 0, .slice none 0 0, .slice none 0 0] :: Box b2207 [v3288, v3292, .slice none 0 0] :: Arr v3288 256 c3289 :: hs) := H
        replace H := H.front 5 rfl
        replace H : Hp C wd3565 ρ (Arr v3288 256 c3289 :: Arr v3292 1 c3293 :: Box b2196 [v1, v4, v7] :: Arr v2202 1 c2203 :: Box b2198 [.slice none 0 0, .slice none 0 0, .slice none 0 0] :: Box b2207 [v3288, v3292, .slice none 0 0] :: hs) := H
        replace H := H.front 5 rfl
        replace H : Hp C wd3565 ρ (Box b2207 [v3288, v3292, .slice none 0 0] :: Arr v3288 256 c3289 :: Arr v3292 1 c3293 :: Box b2196 [v1, v4, v7] :: Arr v2202 1 c2203 :: Box b2198 [.slice none 0 0, .slice none 0 0, .slice none 0 0] :: hs) := H
        replace H := H.front 4 rfl
        replace H : Hp C wd3565 ρ (Arr v2202 1 c2203 :: Box b2207 [v3288, v3292, .slice none 0 0] :: Arr v3288 256 c3289 :: Arr v3292 1 c3293 :: Box b2196 [v1, v4, v7] :: Box b2198 [.slice none 0 0, .slice none 0 0, .slice none 0 0] :: hs) := H
        replace H := H.front 5 rfl
        replace H : Hp C wd3565 ρ (Box b2198 [.slice none 0 0, .slice none 0 0, .slice none 0 0] :: Arr v2202 1 c2203 :: Box b2207 [v3288, v3292, .slice none 0 0] :: Arr v3288 256 c3289 :: Arr v3292 1 c3293 :: Box b2196 [v1, v4, v7] :: hs) := H
        replace H := H.front 5 rfl
        replace H : Hp C wd3565 ρ (Box b2196 [v1, v4, v7] :: Box b2198 [.slice none 0 0, .slice none 0 0, .slice none 0 0] :: Arr v2202 1 c2203 :: Box b2207 [v3288, v3292, .slice none 0 0] :: Arr v3288 256 c3289 :: Arr v3292 1 c3293 :: hs) := H
        obtain rfl := Option.some.inj hB3563
        obtain rfl := hO3564 _ rfl
        refine x_A fun a hf => ⟨v3288, c3289, v3292, c3293, x3290, x3294, rfl, r3291, r3295, hf.sub ⟨rfl, rfl, rfl, rfl, trivial⟩, H⟩
  · rintro a wd3823 ⟨v3012, c3013, v3016, c3017, x3014, x3018, rfl, r3015, r3019, hf, H⟩
    try dsimp only at hF
    refine XX.at hf ?_
    refine x_then ?_
    refine CW.sub (E' := [(1, .pointer (some ⟨b2196, 0, none⟩)), (2, .pointer (some ⟨b2198, 0, none⟩)), (3, v2202), (4, .pointer (some ⟨b2207, 0, none⟩))]) ⟨rfl, rfl, rfl, rfl, trivial⟩ ?_
    refine C_seq ?_
    refine C_seq ?_
    refine R_nd ?_
    refine nq (v := .pointer (some ⟨b2196, 2, none⟩)) (Q_fld Tryd.underlying29 rfl ty23 (by decide) rfl rfl) rfl rfl ?_
    refine nq (v := v7) (Q_ldB (k := 0) (cs := [v7]) H.ok rfl ty23 rfl rfl rfl (fun _ => rfl) rfl) rfl rfl ?_
    refine nq (v := .int .i64 (x8.length : Int)) (Q_len Tryd.underlying23 rfl r9) rfl rfl ?_
    refine nq (v := .int .i64 0) (Q_move rfl) rfl rfl ?_
    refine WL_nil ?_
    refine x_then ?_
    refine CW.sub (E' := [(2, .pointer (some ⟨b2198, 0, none⟩)), (3, v2202), (4, .pointer (some ⟨b2207, 0, none⟩)), (54, v7), (55, .int .i64 (x8.length : Int)), (56, .int .i64 0)]) ⟨rfl, rfl, rfl, rfl, rfl, rfl, trivial⟩ ?_
    obtain ⟨o4096, ho4096, hF⟩ := bnd hF
    refine C_cutQ (fun a w' => ∃ (v4092 : Value) (c4093 : (List Value)) (x4094 : (List Int)), x4094 = o4096 ∧ rdL (eI .i64) ρ x4094 c4093 ∧ Fr 70 a [(2, .pointer (some ⟨b2198, 0, none⟩)), (4, .pointer (some ⟨b2207, 0, none⟩))] ∧ Hp C w' ρ (Box b2198 [.slice none 0 0, .slice none 0 0, .slice none 0 0] :: Box b2207 [v3012, v3016, v4092] :: Arr v3012 256 c3013 :: Arr v3016 1 c3017 :: Arr v4092 1 c4093 :: hs)) ?_ ?_
    · refine C_block ?_
      have H := H.nilArr 1
      replace H : Hp C wd3823 ρ (Arr (.slice none 0 0) 1 ([]) :: Box b2196 [v1, v4, v7] :: Box b2198 [.slice none 0 0, .slice none 0 0, .slice none 0 0] :: Arr v2202 1 c2203 :: Box b2207 [v3012, v3016, .slice none 0 0] :: Arr v3012 256 c3013 :: Arr v3016 1 c3017 :: hs) := H
      replace H := H.front 6 rfl
      replace H : Hp C wd3823 ρ (Arr v3016 1 c3017 :: Arr (.slice none 0 0) 1 ([]) :: Box b2196 [v1, v4, v7] :: Box b2198 [.slice none 0 0, .slice none 0 0, .slice none 0 0] :: Arr v2202 1 c2203 :: Box b2207 [v3012, v3016, .slice none 0 0] :: Arr v3012 256 c3013 :: hs) := H
      replace H := H.front 6 rfl
      replace H : Hp C wd3823 ρ (Arr v3012 256 c3013 :: Arr v3016 1 c3017 :: Arr (.slice none 0 0) 1 ([]) :: Box b2196 [v1, v4, v7] :: Box b2198 [.slice none 0 0, .slice none 0 0, .slice none 0 0] :: Arr v2202 1 c2203 :: Box b2207 [v3012, v3016, .slice none 0 0] :: hs) := H
      replace H := H.front 6 rfl
      replace H : Hp C wd3823 ρ (Box b2207 [v3012, v3016, .slice none 0 0] :: Arr v3012 256 c3013 :: Arr v3016 1 c3017 :: Arr (.slice none 0 0) 1 ([]) :: Box b2196 [v1, v4, v7] :: Box b2198 [.slice none 0 0, .slice none 0 0, .slice none 0 0] :: Arr v2202 1 c2203 :: hs) := H
      replace H := H.front 6 rfl
      replace H : Hp C wd3823 ρ (Arr v2202 1 c2203 :: Box b2207 [v3012, v3016, .slice none 0 0] :: Arr v3012 256 c3013 :: Arr v3016 1 c3017 :: Arr (.slice none 0 0) 1 ([]) :: Box b2196 [v1, v4, v7] :: Box b2198 [.slice none 0 0, .slice none 0 0, .slice none 0 0] :: hs) := H
      replace H := H.front 6 rfl
      replace H : Hp C wd3823 ρ (Box b2198 [.slice none 0 0, .slice none 0 0, .slice none 0 0] :: Arr v2202 1 c2203 :: Box b2207 [v3012, v3016, .slice none 0 0] :: Arr v3012 256 c3013 :: Arr v3016 1 c3017 :: Arr (.slice none 0 0) 1 ([]) :: Box b2196 [v1, v4, v7] :: hs) := H
      replace H := H.drop 6 rfl
      replace H : Hp C wd3823 ρ (Box b2198 [.slice none 0 0, .slice none 0 0, .slice none 0 0] :: Arr v2202 1 c2203 :: Box b2207 [v3012, v3016, .slice none 0 0] :: Arr v3012 256 c3013 :: Arr v3016 1 c3017 :: Arr (.slice none 0 0) 1 ([]) :: hs) := H
      refine C_iter (f := fun s => F_dofferref20_Canon_l2 N x8 x2204 s.1 s.2) ho4096 (fun s a w' => ∃ (v4185 : Value) (c4186 : (List Value)) (x4187 : (List Int)) (x4189 : Int), (x4187, x4189) = s ∧ rdL (eI .i64) ρ x4187 c4186 ∧ Fr 70 a [(2, .pointer (some ⟨b2198, 0, none⟩)), (3, v2202), (4, .pointer (some ⟨b2207, 0, none⟩)), (54, v7), (55, .int .i64 (x8.length : Int)), (56, .int .i64 x4189)] ∧ Hp C w' ρ (Box b2198 [.slice none 0 0, .slice none 0 0, .slice none 0 0] :: Arr v2202 1 c2203 :: Box b2207 [v3012, v3016, v4185] :: Arr v3012 256 c3013 :: Arr v3016 1 c3017 :: Arr v4185 1 c4186 :: hs)) ?_ ?_
      · exact fun a hf => ⟨(.slice none 0 0), [], [], 0, rfl, rdL.nil, hf.sub ⟨rfl, rfl, rfl, rfl, rfl, rfl, trivial⟩, H⟩
      · rintro s o4278 a wd4281 ⟨v4185, c4186, x4187, x4189, rfl, r4188, hf, H⟩ hB4279 hO4280
        replace hB4279 : F_dofferref20_Canon_l2 N x8 x2204 x4187 x4189 = some o4278 := hB4279
        unfold F_dofferref20_Canon_l2 at hB4279
        refine CW.at hf ?_
        refine C_seq ?_
        refine R_nd ?_
        refine nq (v := .bool (decide (x4189 < (x8.length : Int)))) (Q_lss rfl rfl) rfl rfl ?_
        refine WL_nil ?_
        refine x_then ?_
        refine CW.sub (E' := [(2, .pointer (some ⟨b2198, 0, none⟩)), (3, v2202), (4, .pointer (some ⟨b2207, 0, none⟩)), (54, v7), (55, .int .i64 (x8.length : Int)), (56, .int .i64 x4189), (57, .bool (decide (x4189 < (x8.length : Int))))]) ⟨rfl, rfl, rfl, rfl, rfl, rfl, rfl, trivial⟩ ?_
        refine C_seq ?_
        refine C_cond rfl (fun hb => ?_) (fun hb => ?_)
        · replace hB4279 := itT hb hB4279
          refine C_skip ?_
          refine x_then ?_
          refine CW.sub (E' := [(2, .pointer (some ⟨b2198, 0, none⟩)), (3, v2202), (4, .pointer (some ⟨b2207, 0, none⟩)), (54, v7), (55, .int .i64 (x8.length : Int)), (56, .int .i64 x4189)]) ⟨rfl, rfl, rfl, rfl, rfl, rfl, trivial⟩ ?_
          refine C_seq ?_
          refine C_block ?_
          refine C_seq ?_
          refine R_nd ?_
          obtain ⟨x4282, hx4282, hB4279⟩ := bnd hB4279
          obtain ⟨b4283, o4284, c4285, hc4286, ha4287, hi4288⟩ := idxR r9 hx4282
          refine nq (v := .pointer (some ⟨b4283, o4284, none⟩)) (Q_idx hi4288 Tryd.underlying23 ty3 rfl rfl) rfl rfl ?_
          refine nq (v := .int .i64 x4282) (Q_ld (show cellsAt _ _ _ [.int .i64 x4282] from (show _ = [_] from hc4286) ▸ (ha4287.up H.ok.view)) ty3 rfl (fun _ => rfl) rfl rfl) rfl rfl ?_
          refine nq (v := .int .i64 x4282) (Q_assign rfl) rfl rfl ?_
          refine WL_nil ?_
          refine x_then ?_
          refine CW.sub (E' := [(2, .pointer (some ⟨b2198, 0, none⟩)), (3, v2202), (4, .pointer (some ⟨b2207, 0, none⟩)), (10, .int .i64 x4282), (54, v7), (55, .int .i64 (x8.length : Int)), (56, .int .i64 x4189)]) ⟨rfl, rfl, rfl, rfl, rfl, rfl, rfl, trivial⟩ ?_
          obtain ⟨o4328, ho4328, hB4279⟩ := bnd hB4279
          refine C_cutQ (fun a w' => ∃ (v4324 : Value) (c4325 : (List Value)) (x4326 : (List Int)), x4326 = o4328 ∧ rdL (eI .i64) ρ x4326 c4325 ∧ Fr 70 a [(2, .pointer (some ⟨b2198, 0, none⟩)), (3, v2202), (4, .pointer (some ⟨b2207, 0, none⟩)), (54, v7), (55, .int .i64 (x8.length : Int)), (56, .int .i64 x4189)] ∧ Hp C w' ρ (Box b2198 [.slice none 0 0, .slice none 0 0, .slice none 0 0] :: Arr v2202 1 c2203 :: Box b2207 [v3012, v3016, v4324] :: Arr v3012 256 c3013 :: Arr v3016 1 c3017 :: Arr v4324 1 c4325 :: hs)) ?_ ?_
          · refine R_dr (.take 0 (.take 2 (.take 3 (.two 1 4 (.one 4 (.one 5 (.one 6 (.take 7 (.one 8 .done))))) (.two 1 5 (.one 5 (.one 6 (.take 7 (.one 8 .done)))) (.one 1 (.one 6 (.take 7 (.one 8 .done))))))))) (fun w' => Ok w' ρ [Box b2198 [.slice none 0 0, .slice none 0 0, .slice none 0 0], Arr v2202 1 c2203, Arr v3012 256 c3013, Arr v3016 1 c3017]) (by kernel_rfl) (by kernel_rfl) (by kernel_rfl) (H.drew.okS (by simp)) ?_
            replace H := H.drew
            refine dq (v := .pointer (some ⟨b2207, 2, none⟩)) rfl (fun w' hw => Q_fld Tryd.underlying29 rfl ty23 (by decide) rfl rfl) rfl rfl ?_
            refine dq (v := v2202) rfl (fun w' hw => Q_move rfl) rfl rfl ?_
            refine dq (v := .int .i64 x4282) rfl (fun w' hw => Q_move rfl) rfl rfl ?_
            refine d2 ?_ ?_
            · refine de rfl (Eff.quiet (v := v4185) (Q_ldB (k := 2) (cs := [v4185]) H.ok rfl ty23 rfl rfl rfl (fun _ => rfl) rfl)) rfl rfl ?_
              rintro _ _ ⟨rfl, rfl⟩
              refine ⟨H.okS (by simp), ?_⟩
              replace H := H.front 1 rfl
              replace H : Hp C wd4281.drew ρ (Arr v2202 1 c2203 :: Box b2198 [.slice none 0 0, .slice none 0 0, .slice none 0 0] :: Box b2207 [v3012, v3016, v4185] :: Arr v3012 256 c3013 :: Arr v3016 1 c3017 :: Arr v4185 1 c4186 :: hs) := H
              obtain ⟨q4329, hq4329, ho4328⟩ := bnd ho4328
              obtain ⟨C', ρ', hl4330, HA, hL, hback⟩ := Hp.lend (A := []) (L := [Arr v2202 1 c2203]) (F := Box b2198 [.slice none 0 0, .slice none 0 0, .slice none 0 0] :: Box b2207 [v3012, v3016, v4185] :: Arr v3012 256 c3013 :: Arr v3016 1 c3017 :: Arr v4185 1 c4186 :: hs) H
              refine d1 (de rfl (E_call fn55 rfl (c_55 HA  (arr_rd (by decide) hl4330 (hL (Arr v2202 1 c2203) (by simp)) r2205) hq4329)) rfl rfl ?_)
              rintro _ wd4332 ⟨x4331, rfl, rfl, H⟩
              try dsimp only at ho4328
              replace H := hback H
              replace H : Hp C wd4332 ρ (Arr v2202 1 c2203 :: Box b2198 [.slice none 0 0, .slice none 0 0, .slice none 0 0] :: Box b2207 [v3012, v3016, v4185] :: Arr v3012 256 c3013 :: Arr v3016 1 c3017 :: Arr v4185 1 c4186 :: hs) := H
              refine ⟨H.okS (by simp), ?_⟩
              refine d1 (de rfl (E_bslice (xs := [.tmp 64]) (vs := [.int .i64 x4331]) H Tryd.underlying23 ty3 (by decide) (cs := [.int .i64 x4331]) rfl (sz_cons rfl sz_nil) rfl (by simp) (by simp) rfl rfl) rfl rfl ?_)
              rintro _ wd4334 ⟨b4333, rfl, H⟩
              replace H : Hp C wd4334 ρ (Arr (.slice (some ⟨b4333, 0, none⟩) 1 1) 1 ([.int .i64 x4331]) :: Arr v2202 1 c2203 :: Box b2198 [.slice none 0 0, .slice none 0 0, .slice none 0 0] :: Box b2207 [v3012, v3016, v4185] :: Arr v3012 256 c3013 :: Arr v3016 1 c3017 :: Arr v4185 1 c4186 :: hs) := H
              refine ⟨H.okS (by simp), ?_⟩
              obtain ⟨x4335, hx4335, ho4328⟩ := bnd ho4328
              obtain ⟨ha4336a, ha4336b⟩ := app_some hx4335
              have r4338 : rdL (eI .i64) ρ x4335 (c4186 ++ ([.int .i64 x4331])) := ha4336b ▸ rdL.app r4188 (show rdL (eI .i64) ρ ([x4331]) ([.int .i64 x4331]) from ⟨([.int .i64 x4331]), _, rfl, rfl, rdL.nil⟩)
              refine d1 (de rfl (E_append (k := 6) H rfl Tryd.underlying23 ty3 rfl (by decide) (by decide) rfl rfl (Src.ofArr (k := 0) H.ok rfl) (rdL.one (show rdL (eI .i64) ρ ([x4331]) ([.int .i64 x4331]) from ⟨([.int .i64 x4331]), _, rfl, rfl, rdL.nil⟩)) (app_fit r4188 (show rdL (eI .i64) ρ ([x4331]) ([.int .i64 x4331]) from ⟨([.int .i64 x4331]), _, rfl, rfl, rdL.nil⟩) ha4336a)) rfl rfl ?_)
              rintro v4337 wd4340 ⟨H, hc4339⟩
              replace H : Hp C wd4340 ρ (Arr (.slice (some ⟨b4333, 0, none⟩) 1 1) 1 ([.int .i64 x4331]) :: Arr v2202 1 c2203 :: Box b2198 [.slice none 0 0, .slice none 0 0, .slice none 0 0] :: Box b2207 [v3012, v3016, v4185] :: Arr v3012 256 c3013 :: Arr v3016 1 c3017 :: Arr v4337 1 (c4186 ++ ([.int .i64 x4331])) :: hs) := H
              refine ⟨H.okS (by simp), ?_⟩
              refine dq (v := .pointer (some ⟨b2207, 2, none⟩)) rfl (fun w' hw => Q_fld Tryd.underlying29 rfl ty23 (by decide) rfl rfl) rfl rfl ?_
              refine d1 (de rfl (E_stB (k := 3) (cs := [v4337]) (vs' := [v3012, v3016, v4337]) H rfl ty23 rfl rfl (arr_cells (H.ok.get (k := 6) rfl)).1 rfl (one_cons (arr_cells (H.ok.get (k := 6) rfl)).2 one_nil) (by simp) rfl) rfl rfl ?_)
              rintro _ wd4341 H
              replace H : Hp C wd4341 ρ (Arr (.slice (some ⟨b4333, 0, none⟩) 1 1) 1 ([.int .i64 x4331]) :: Arr v2202 1 c2203 :: Box b2198 [.slice none 0 0, .slice none 0 0, .slice none 0 0] :: Box b2207 [v3012, v3016, v4337] :: Arr v3012 256 c3013 :: Arr v3016 1 c3017 :: Arr v4337 1 (c4186 ++ ([.int .i64 x4331])) :: hs) := H
              refine ⟨H.okS (by simp), ?_⟩
              refine DL_nil ?_
              replace H := H.front 6 rfl
              replace H : Hp C wd4341 ρ (Arr v4337 1 (c4186 ++ ([.int .i64 x4331])) :: Arr (.slice (some ⟨b4333, 0, none⟩) 1 1) 1 ([.int .i64 x4331]) :: Arr v2202 1 c2203 :: Box b2198 [.slice none 0 0, .slice none 0 0, .slice none 0 0] :: Box b2207 [v3012, v3016, v4337] :: Arr v3012 256 c3013 :: Arr v3016 1 c3017 :: hs) := H
              replace H := H.front 6 rfl
              replace H : Hp C wd4341 ρ (Arr v3016 1 c3017 :: Arr v4337 1 (c4186 ++ ([.int .i64 x4331])) :: Arr (.slice (some ⟨b4333, 0, none⟩) 1 1) 1 ([.int .i64 x4331]) :: Arr v2202 1 c2203 :: Box b2198 [.slice none 0 0, .slice none 0 0, .slice none 0 0] :: Box b2207 [v3012, v3016, v4337] :: Arr v3012 256 c3013 :: hs) := H
              replace H := H.front 6 rfl
              replace H : Hp C wd4341 ρ (Arr v3012 256 c3013 :: Arr v3016 1 c3017 :: Arr v4337 1 (c4186 ++ ([.int .i64 x4331])) :: Arr (.slice (some ⟨b4333, 0, none⟩) 1 1) 1 ([.int .i64 x4331]) :: Arr v2202 1 c2203 :: Box b2198 [.slice none 0 0, .slice none 0 0, .slice none 0 0] :: Box b2207 [v3012, v3016, v4337] :: hs) := H
              replace H := H.front 6 rfl
              replace H : Hp C wd4341 ρ (Box b2207 [v3012, v3016, v4337] :: Arr v3012 256 c3013 :: Arr v3016 1 c3017 :: Arr v4337 1 (c4186 ++ ([.int .i64 x4331])) :: Arr (.slice (some ⟨b4333, 0, none⟩) 1 1) 1 ([.int .i64 x4331]) :: Arr v2202 1 c2203 :: Box b2198 [.slice none 0 0, .slice none 0 0, .slice none 0 0] :: hs) := H
              replace H := H.front 5 rfl
              replace H : Hp C wd4341 ρ (Arr v2202 1 c2203 :: Box b2207 [v3012, v3016, v4337] :: Arr v3012 256 c3013 :: Arr v3016 1 c3017 :: Arr v4337 1 (c4186 ++ ([.int .i64 x4331])) :: Arr (.slice (some ⟨b4333, 0, none⟩) 1 1) 1 ([.int .i64 x4331]) :: Box b2198 [.slice none 0 0, .slice none 0 0, .slice none 0 0] :: hs) := H
              replace H := H.front 6 rfl
              replace H : Hp C wd4341 ρ (Box b2198 [.slice none 0 0, .slice none 0 0, .slice none 0 0] :: Arr v2202 1 c2203 :: Box b2207 [v3012, v3016, v4337] :: Arr v3012 256 c3013 :: Arr v3016 1 c3017 :: Arr v4337 1 (c4186 ++ ([.int .i64 x4331])) :: Arr (.slice (some ⟨b4333, 0, none⟩) 1 1) 1 ([.int .i64 x4331]) :: hs) := H
              replace H := H.drop 6 rfl
              replace H : Hp C wd4341 ρ (Box b2198 [.slice none 0 0, .slice none 0 0, .slice none 0 0] :: Arr v2202 1 c2203 :: Box b2207 [v3012, v3016, v4337] :: Arr v3012 256 c3013 :: Arr v3016 1 c3017 :: Arr v4337 1 (c4186 ++ ([.int .i64 x4331])) :: hs) := H
              obtain rfl := Option.some.inj ho4328
              refine x_A fun a hf => ⟨v4337, (c4186 ++ ([.int .i64 x4331])), x4335, rfl, r4338, hf.sub ⟨rfl, rfl, rfl, rfl, rfl, rfl, trivial⟩, H⟩
            · replace H := H.front 1 rfl
              replace H : Hp C wd4281.drew ρ (Arr v2202 1 c2203 :: Box b2198 [.slice none 0 0, .slice none 0 0, .slice none 0 0] :: Box b2207 [v3012, v3016, v4185] :: Arr v3012 256 c3013 :: Arr v3016 1 c3017 :: Arr v4185 1 c4186 :: hs) := H
              obtain ⟨q4342, hq4342, ho4328⟩ := bnd ho4328
              obtain ⟨C', ρ', hl4343, HA, hL, hback⟩ := Hp.lend (A := []) (L := [Arr v2202 1 c2203]) (F := Box b2198 [.slice none 0 0, .slice none 0 0, .slice none 0 0] :: Box b2207 [v3012, v3016, v4185] :: Arr v3012 256 c3013 :: Arr v3016 1 c3017 :: Arr v4185 1 c4186 :: hs) H
              refine de rfl (E_call fn55 rfl (c_55 HA  (arr_rd (by decide) hl4343 (hL (Arr v2202 1 c2203) (by simp)) r2205) hq4342)) rfl rfl ?_
              rintro _ wd4345 ⟨x4344, rfl, rfl, H⟩
              try dsimp only at ho4328
              replace H := hback H
              replace H : Hp C wd4345 ρ (Arr v2202 1 c2203 :: Box b2198 [.slice none 0 0, .slice none 0 0, .slice none 0 0] :: Box b2207 [v3012, v3016, v4185] :: Arr v3012 256 c3013 :: Arr v3016 1 c3017 :: Arr v4185 1 c4186 :: hs) := H
              refine ⟨H.okS (by simp), ?_⟩
              refine d2 ?_ ?_
              · refine de rfl (Eff.quiet (v := v4185) (Q_ldB (k := 2) (cs := [v4185]) H.ok rfl ty23 rfl rfl rfl (fun _ => rfl) rfl)) rfl rfl ?_
                rintro _ _ ⟨rfl, rfl⟩
                refine ⟨H.okS (by simp), ?_⟩
                refine d1 (de rfl (E_bslice (xs := [.tmp 64]) (vs := [.int .i64 x4344]) H Tryd.underlying23 ty3 (by decide) (cs := [.int .i64 x4344]) rfl (sz_cons rfl sz_nil) rfl (by simp) (by simp) rfl rfl) rfl rfl ?_)
                rintro _ wd4347 ⟨b4346, rfl, H⟩
                replace H : Hp C wd4347 ρ (Arr (.slice (some ⟨b4346, 0, none⟩) 1 1) 1 ([.int .i64 x4344]) :: Arr v2202 1 c2203 :: Box b2198 [.slice none 0 0, .slice none 0 0, .slice none 0 0] :: Box b2207 [v3012, v3016, v4185] :: Arr v3012 256 c3013 :: Arr v3016 1 c3017 :: Arr v4185 1 c4186 :: hs) := H
                refine ⟨H.okS (by simp), ?_⟩
                obtain ⟨x4348, hx4348, ho4328⟩ := bnd ho4328
                obtain ⟨ha4349a, ha4349b⟩ := app_some hx4348
                have r4351 : rdL (eI .i64) ρ x4348 (c4186 ++ ([.int .i64 x4344])) := ha4349b ▸ rdL.app r4188 (show rdL (eI .i64) ρ ([x4344]) ([.int .i64 x4344]) from ⟨([.int .i64 x4344]), _, rfl, rfl, rdL.nil⟩)
                refine d1 (de rfl (E_append (k := 6) H rfl Tryd.underlying23 ty3 rfl (by decide) (by decide) rfl rfl (Src.ofArr (k := 0) H.ok rfl) (rdL.one (show rdL (eI .i64) ρ ([x4344]) ([.int .i64 x4344]) from ⟨([.int .i64 x4344]), _, rfl, rfl, rdL.nil⟩)) (app_fit r4188 (show rdL (eI .i64) ρ ([x4344]) ([.int .i64 x4344]) from ⟨([.int .i64 x4344]), _, rfl, rfl, rdL.nil⟩) ha4349a)) rfl rfl ?_)
                rintro v4350 wd4353 ⟨H, hc4352⟩
                replace H : Hp C wd4353 ρ (Arr (.slice (some ⟨b4346, 0, none⟩) 1 1) 1 ([.int .i64 x4344]) :: Arr v2202 1 c2203 :: Box b2198 [.slice none 0 0, .slice none 0 0, .slice none 0 0] :: Box b2207 [v3012, v3016, v4185] :: Arr v3012 256 c3013 :: Arr v3016 1 c3017 :: Arr v4350 1 (c4186 ++ ([.int .i64 x4344])) :: hs) := H
                refine ⟨H.okS (by simp), ?_⟩
                refine dq (v := .pointer (some ⟨b2207, 2, none⟩)) rfl (fun w' hw => Q_fld Tryd.underlying29 rfl ty23 (by decide) rfl rfl) rfl rfl ?_
                refine d1 (de rfl (E_stB (k := 3) (cs := [v4350]) (vs' := [v3012, v3016, v4350]) H rfl ty23 rfl rfl (arr_cells (H.ok.get (k := 6) rfl)).1 rfl (one_cons (arr_cells (H.ok.get (k := 6) rfl)).2 one_nil) (by simp) rfl) rfl rfl ?_)
                rintro _ wd4354 H
                replace H : Hp C wd4354 ρ (Arr (.slice (some ⟨b4346, 0, none⟩) 1 1) 1 ([.int .i64 x4344]) :: Arr v2202 1 c2203 :: Box b2198 [.slice none 0 0, .slice none 0 0, .slice none 0 0] :: Box b2207 [v3012, v3016, v4350] :: Arr v3012 256 c3013 :: Arr v3016 1 c3017 :: Arr v4350 1 (c4186 ++ ([.int .i64 x4344])) :: hs) := H
                refine ⟨H.okS (by simp), ?_⟩
                refine DL_nil ?_
                replace H := H.front 6 rfl
                replace H : Hp C wd4354 ρ (Arr v4350 1 (c4186 ++ ([.int .i64 x4344])) :: Arr (.slice (some ⟨b4346, 0, none⟩) 1 1) 1 ([.int .i64 x4344]) :: Arr v2202 1 c2203 :: Box b2198 [.slice none 0 0, .slice none 0 0, .slice none 0 0] :: Box b2207 [v3012, v3016, v4350] :: Arr v3012 256 c3013 :: Arr v3016 1 c3017 :: hs) := H
                replace H := H.front 6 rfl
                replace H : Hp C wd4354 ρ (Arr v3016 1 c3017 :: Arr v4350 1 (c4186 ++ ([.int .i64 x4344])) :: Arr (.slice (some ⟨b4346, 0, none⟩) 1 1) 1 ([.int .i64 x4344]) :: Arr v2202 1 c2203 :: Box b2198 [.slice none 0 0, .slice none 0 0, .slice none 0 0] :: Box b2207 [v3012, v3016, v4350] :: Arr v3012 256 c3013 :: hs) := H
                replace H := H.front 6 rfl
                replace H : Hp C wd4354 ρ (Arr v3012 256 c3013 :: Arr v3016 1 c3017 :: Arr v4350 1 (c4186 ++ ([.int .i64 x4344])) :: Arr (.slice (some ⟨b4346, 0, none⟩) 1 1) 1 ([.int .i64 x4344]) :: Arr v2202 1 c2203 :: Box b2198 [.slice none 0 0, .slice none 0 0, .slice none 0 0] :: Box b2207 [v3012, v3016, v4350] :: hs) := H
                replace H := H.front 6 rfl
                replace H : Hp C wd4354 ρ (Box b2207 [v3012, v3016, v4350] :: Arr v3012 256 c3013 :: Arr v3016 1 c3017 :: Arr v4350 1 (c4186 ++ ([.int .i64 x4344])) :: Arr (.slice (some ⟨b4346, 0, none⟩) 1 1) 1 ([.int .i64 x4344]) :: Arr v2202 1 c2203 :: Box b2198 [.slice none 0 0, .slice none 0 0, .slice none 0 0] :: hs) := H
                replace H := H.front 5 rfl
                replace H : Hp C wd4354 ρ (Arr v2202 1 c2203 :: Box b2207 [v3012, v3016, v4350] :: Arr v3012 256 c3013 :: Arr v3016 1 c3017 :: Arr v4350 1 (c4186 ++ ([.int .i64 x4344])) :: Arr (.slice (some ⟨b4346, 0, none⟩) 1 1) 1 ([.int .i64 x4344]) :: Box b2198 [.slice none 0 0, .slice none 0 0, .slice none 0 0] :: hs) := H
                replace H := H.front 6 rfl
                replace H : Hp C wd4354 ρ (Box b2198 [.slice none 0 0, .slice none 0 0, .slice none 0 0] :: Arr v2202 1 c2203 :: Box b2207 [v3012, v3016, v4350] :: Arr v3012 256 c3013 :: Arr v3016 1 c3017 :: Arr v4350 1 (c4186 ++ ([.int .i64 x4344])) :: Arr (.slice (some ⟨b4346, 0, none⟩) 1 1) 1 ([.int .i64 x4344]) :: hs) := H
                replace H := H.drop 6 rfl
                replace H : Hp C wd4354 ρ (Box b2198 [.slice none 0 0, .slice none 0 0, .slice none 0 0] :: Arr v2202 1 c2203 :: Box b2207 [v3012, v3016, v4350] :: Arr v3012 256 c3013 :: Arr v3016 1 c3017 :: Arr v4350 1 (c4186 ++ ([.int .i64 x4344])) :: hs) := H
                obtain rfl := Option.some.inj ho4328
                refine x_A fun a hf => ⟨v4350, (c4186 ++ ([.int .i64 x4344])), x4348, rfl, r4351, hf.sub ⟨rfl, rfl, rfl, rfl, rfl, rfl, trivial⟩, H⟩
              · refine de rfl (E_bslice (xs := [.tmp 64]) (vs := [.int .i64 x4344]) H Tryd.underlying23 ty3 (by decide) (cs := [.int .i64 x4344]) rfl (sz_cons rfl sz_nil) rfl (by simp) (by simp) rfl rfl) rfl rfl ?_
                rintro _ wd4356 ⟨b4355, rfl, H⟩
                replace H : Hp C wd4356 ρ (Arr (.slice (some ⟨b4355, 0, none⟩) 1 1) 1 ([.int .i64 x4344]) :: Arr v2202 1 c2203 :: Box b2198 [.slice none 0 0, .slice none 0 0, .slice none 0 0] :: Box b2207 [v3012, v3016, v4185] :: Arr v3012 256 c3013 :: Arr v3016 1 c3017 :: Arr v4185 1 c4186 :: hs) := H
                refine ⟨H.okS (by simp), ?_⟩
                refine d1 (de rfl (Eff.quiet (v := v4185) (Q_ldB (k := 3) (cs := [v4185]) H.ok rfl ty23 rfl rfl rfl (fun _ => rfl) rfl)) rfl rfl ?_)
                rintro _ _ ⟨rfl, rfl⟩
                refine ⟨H.okS (by simp), ?_⟩
                obtain ⟨x4357, hx4357, ho4328⟩ := bnd ho4328
                obtain ⟨ha4358a, ha4358b⟩ := app_some hx4357
                have r4360 : rdL (eI .i64) ρ x4357 (c4186 ++ ([.int .i64 x4344])) := ha4358b ▸ rdL.app r4188 (show rdL (eI .i64) ρ ([x4344]) ([.int .i64 x4344]) from ⟨([.int .i64 x4344]), _, rfl, rfl, rdL.nil⟩)
                refine d1 (de rfl (E_append (k := 6) H rfl Tryd.underlying23 ty3 rfl (by decide) (by decide) rfl rfl (Src.ofArr (k := 0) H.ok rfl) (rdL.one (show rdL (eI .i64) ρ ([x4344]) ([.int .i64 x4344]) from ⟨([.int .i64 x4344]), _, rfl, rfl, rdL.nil⟩)) (app_fit r4188 (show rdL (eI .i64) ρ ([x4344]) ([.int .i64 x4344]) from ⟨([.int .i64 x4344]), _, rfl, rfl, rdL.nil⟩) ha4358a)) rfl rfl ?_)
                rintro v4359 wd4362 ⟨H, hc4361⟩
                replace H : Hp C wd4362 ρ (Arr (.slice (some ⟨b4355, 0, none⟩) 1 1) 1 ([.int .i64 x4344]) :: Arr v2202 1 c2203 :: Box b2198 [.slice none 0 0, .slice none 0 0, .slice none 0 0] :: Box b2207 [v3012, v3016, v4185] :: Arr v3012 256 c3013 :: Arr v3016 1 c3017 :: Arr v4359 1 (c4186 ++ ([.int .i64 x4344])) :: hs) := H
                refine ⟨H.okS (by simp), ?_⟩
                refine dq (v := .pointer (some ⟨b2207, 2, none⟩)) rfl (fun w' hw => Q_fld Tryd.underlying29 rfl ty23 (by decide) rfl rfl) rfl rfl ?_
                refine d1 (de rfl (E_stB (k := 3) (cs := [v4359]) (vs' := [v3012, v3016, v4359]) H rfl ty23 rfl rfl (arr_cells (H.ok.get (k := 6) rfl)).1 rfl (one_cons (arr_cells (H.ok.get (k := 6) rfl)).2 one_nil) (by simp) rfl) rfl rfl ?_)
                rintro _ wd4363 H
                replace H : Hp C wd4363 ρ (Arr (.slice (some ⟨b4355, 0, none⟩) 1 1) 1 ([.int .i64 x4344]) :: Arr v2202 1 c2203 :: Box b2198 [.slice none 0 0, .slice none 0 0, .slice none 0 0] :: Box b2207 [v3012, v3016, v4359] :: Arr v3012 256 c3013 :: Arr v3016 1 c3017 :: Arr v4359 1 (c4186 ++ ([.int .i64 x4344])) :: hs) := H
                refine ⟨H.okS (by simp), ?_⟩
                refine DL_nil ?_
                replace H := H.front 6 rfl
                replace H : Hp C wd4363 ρ (Arr v4359 1 (c4186 ++ ([.int .i64 x4344])) :: Arr (.slice (some ⟨b4355, 0, none⟩) 1 1) 1 ([.int .i64 x4344]) :: Arr v2202 1 c2203 :: Box b2198 [.slice none 0 0, .slice none 0 0, .slice none 0 0] :: Box b2207 [v3012, v3016, v4359] :: Arr v3012 256 c3013 :: Arr v3016 1 c3017 :: hs) := H
                replace H := H.front 6 rfl
                replace H : Hp C wd4363 ρ (Arr v3016 1 c3017 :: Arr v4359 1 (c4186 ++ ([.int .i64 x4344])) :: Arr (.slice (some ⟨b4355, 0, none⟩) 1 1) 1 ([.int .i64 x4344]) :: Arr v2202 1 c2203 :: Box b2198 [.slice none 0 0, .slice none 0 0, .slice none 0 0] :: Box b2207 [v3012, v3016, v4359] :: Arr v3012 256 c3013 :: hs) := H
                replace H := H.front 6 rfl
                replace H : Hp C wd4363 ρ (Arr v3012 256 c3013 :: Arr v3016 1 c3017 :: Arr v4359 1 (c4186 ++ ([.int .i64 x4344])) :: Arr (.slice (some ⟨b4355, 0, none⟩) 1 1) 1 ([.int .i64 x4344]) :: Arr v2202 1 c2203 :: Box b2198 [.slice none 0 0, .slice none 0 0, .slice none 0 0] :: Box b2207 [v3012, v3016, v4359] :: hs) := H
                replace H := H.front 6 rfl
                replace H : Hp C wd4363 ρ (Box b2207 [v3012, v3016, v4359] :: Arr v3012 256 c3013 :: Arr v3016 1 c3017 :: Arr v4359 1 (c4186 ++ ([.int .i64 x4344])) :: Arr (.slice (some ⟨b4355, 0, none⟩) 1 1) 1 ([.int .i64 x4344]) :: Arr v2202 1 c2203 :: Box b2198 [.slice none 0 0, .slice none 0 0, .slice none 0 0] :: hs) := H
                replace H := H.front 5 rfl
                replace H : Hp C wd4363 ρ (Arr v2202 1 c2203 :: Box b2207 [v3012, v3016, v4359] :: Arr v3012 256 c3013 :: Arr v3016 1 c3017 :: Arr v4359 1 (c4186 ++ ([.int .i64 x4344])) :: Arr (.slice (some ⟨b4355, 0, none⟩) 1 1) 1 ([.int .i64 x4344]) :: Box b2198 [.slice none 0 0, .slice none 0 0, .slice none 0 0] :: hs) := H
                replace H := H.front 6 rfl
                replace H : Hp C wd4363 ρ (Box b2198 [.slice none 0 0, .slice none 0 0, .slice none 0 0] :: Arr v2202 1 c2203 :: Box b2207 [v3012, v3016, v4359] :: Arr v3012 256 c3013 :: Arr v3016 1 c3017 :: Arr v4359 1 (c4186 ++ ([.int .i64 x4344])) :: Arr (.slice (some ⟨b4355, 0, none⟩) 1 1) 1 ([.int .i64 x4344]) :: hs) := H
                replace H := H.drop 6 rfl
                replace H : Hp C wd4363 ρ (Box b2198 [.slice none 0 0, .slice none 0 0, .slice none 0 0] :: Arr v2202 1 c2203 :: Box b2207 [v3012, v3016, v4359] :: Arr v3012 256 c3013 :: Arr v3016 1 c3017 :: Arr v4359 1 (c4186 ++ ([.int .i64 x4344])) :: hs) := H
                obtain rfl := Option.some.inj ho4328
                refine x_A fun a hf => ⟨v4359, (c4186 ++ ([.int .i64 x4344])), x4357, rfl, r4360, hf.sub ⟨rfl, rfl, rfl, rfl, rfl, rfl, trivial⟩, H⟩
          · rintro a wd4364 ⟨v4324, c4325, x4326, rfl, r4327, hf, H⟩
            try dsimp only at hB4279
            refine XX.at hf ?_
            refine x_block ?_
            refine x_then ?_
            refine CW.sub (E' := [(2, .pointer (some ⟨b2198, 0, none⟩)), (3, v2202), (4, .pointer (some ⟨b2207, 0, none⟩)), (54, v7), (55, .int .i64 (x8.length : Int)), (56, .int .i64 x4189)]) ⟨rfl, rfl, rfl, rfl, rfl, rfl, trivial⟩ ?_
            refine R_nd ?_
            refine nq (v := .int .i64 (w64 (x4189 + 1))) (Q_add rfl rfl) rfl rfl ?_
            refine nq (v := .int .i64 (w64 (x4189 + 1))) (Q_move rfl) rfl rfl ?_
            refine WL_nil ?_
            replace H := H.front 5 rfl
            replace H : Hp C wd4364 ρ (Arr v4324 1 c4325 :: Box b2198 [.slice none 0 0, .slice none 0 0, .slice none 0 0] :: Arr v2202 1 c2203 :: Box b2207 [v3012, v3016, v4324] :: Arr v3012 256 c3013 :: Arr v3016 1 c3017 :: hs) := H
            replace H := H.front 5 rfl
            replace H : Hp C wd4364 ρ (Arr v3016 1 c3017 :: Arr v4324 1 c4325 :: Box b2198 [.slice none 0 0, .slice none 0 0, .slice none 0 0] :: Arr v2202 1 c2203 :: Box b2207 [v3012, v3016, v4324] :: Arr v3012 256 c3013 :: hs) := H
            replace H := H.front 5 rfl
            replace H : Hp C wd4364 ρ (Arr v3012 256 c3013 :: Arr v3016 1 c3017 :: Arr v4324 1 c4325 :: Box b2198 [.slice none 0 0, .slice none 0 0, .slice none 0 0] :: Arr v2202 1 c2203 :: Box b2207 [v3012, v3016, v4324] :: hs) := H
            replace H := H.front 5 rfl
            replace H : Hp C wd4364 ρ (Box b2207 [v3012, v3016, v4324] :: Arr v3012 256 c3013 :: Arr v3016 1 c3017 :: Arr v4324 1 c4325 :: Box b2198 [.slice none 0 0, .slice none 0 0, .slice none 0 0] :: Arr v2202 1 c2203 :: hs) := H
            replace H := H.front 5 rfl
            replace H : Hp C wd4364 ρ (Arr v2202 1 c2203 :: Box b2207 [v3012, v3016, v4324] :: Arr v3012 256 c3013 :: Arr v3016 1 c3017 :: Arr v4324 1 c4325 :: Box b2198 [.slice none 0 0, .slice none 0 0, .slice none 0 0] :: hs) := H
            replace H := H.front 5 rfl
            replace H : Hp C wd4364 ρ (Box b2198 [.slice none 0 0, .slice none 0 0, .slice none 0 0] :: Arr v2202 1 c2203 :: Box b2207 [v3012, v3016, v4324] :: Arr v3012 256 c3013 :: Arr v3016 1 c3017 :: Arr v4324 1 c4325 :: hs) := H
            obtain rfl := Option.some.inj hB4279
            refine x_A fun a hf => ⟨_, rfl, v4324, c4325, x4326, w64 (x4189 + 1), rfl, r4327, hf.sub ⟨rfl, rfl, rfl, rfl, rfl, rfl, trivial⟩, H⟩
        · replace hB4279 := itF hb hB4279
          refine C_exit ?_
          refine x_then_exit ?_
          refine x_then_exit ?_
          refine x_block_exit ?_
          replace H := H.front 5 rfl
          replace H : Hp C wd4281 ρ (Arr v4185 1 c4186 :: Box b2198 [.slice none 0 0, .slice none 0 0, .slice none 0 0] :: Arr v2202 1 c2203 :: Box b2207 [v3012, v3016, v4185] :: Arr v3012 256 c3013 :: Arr v3016 1 c3017 :: hs) := H
          replace H := H.front 5 rfl
          replace H : Hp C wd4281 ρ (Arr v3016 1 c3017 :: Arr v4185 1 c4186 :: Box b2198 [.slice none 0 0, .slice none 0 0, .slice none 0 0] :: Arr v2202 1 c2203 :: Box b2207 [v3012, v3016, v4185] :: Arr v3012 256 c3013 :: hs) := H
          replace H := H.front 5 rfl
          replace H : Hp C wd4281 ρ (Arr v3012 256 c3013 :: Arr v3016 1 c3017 :: Arr v4185 1 c4186 :: Box b2198 [.slice none 0 0, .slice none 0 0, .slice none 0 0] :: Arr v2202 1 c2203 :: Box b2207 [v3012, v3016, v4185] :: hs) := H
          replace H := H.front 5 rfl
          replace H : Hp C wd4281 ρ (Box b2207 [v3012, v3016, v4185] :: Arr v3012 256 c3013 :: Arr v3016 1 c3017 :: Arr v4185 1 c4186 :: Box b2198 [.slice none 0 0, .slice none 0 0, .slice none 0 0] :: Arr v2202 1 c2203 :: hs) := H
          replace H := H.front 4 rfl
          replace H : Hp C wd4281 ρ (Box b2198 [.slice none 0 0, .slice none 0 0, .slice none 0 0] :: Box b2207 [v3012, v3016, v4185] :: Arr v3012 256 c3013 :: Arr v3016 1 c3017 :: Arr v4185 1 c4186 :: Arr v2202 1 c2203 :: hs) := H
          replace H := H.drop 5 rfl
          replace H : Hp C wd4281 ρ (Box b2198 [.slice none 0 0, .slice none 0 0, .slice none 0 0] :: Box b2207 [v3012, v3016, v4185] :: Arr v3012 256 c3013 :: Arr v3016 1 c3017 :: Arr v4185 1 c4186 :: hs) := H
          obtain rfl := Option.some.inj hB4279
          obtain rfl := hO4280 _ rfl
          refine x_A fun a hf => ⟨v4185, c4186, x4187, rfl, r4188, hf.sub ⟨rfl, rfl, trivial⟩, H⟩
    · rintro a wd4365 ⟨v4092, c4093, x4094, rfl, r4095, hf, H⟩
      try dsimp only at hF
      refine XX.at hf ?_
      refine x_then ?_
      refine CW.sub (E' := [(2, .pointer (some ⟨b2198, 0, none⟩)), (4, .pointer (some ⟨b2207, 0, none⟩))]) ⟨rfl, rfl, trivial⟩ ?_
      refine C_seq ?_
      refine R_nd ?_
      refine nq (v := .agg #[v3012, v3016, v4092]) (Q_ldB (k := 1) (cs := [v3012, v3016, v4092]) H.ok rfl ty29 rfl rfl rfl (fun h => nomatch h) rfl) rfl rfl ?_
      refine ne (E_stB (k := 0) (cs := [v3012, v3016, v4092]) (vs' := [v3012, v3016, v4092]) H rfl ty29 rfl rfl rfl rfl (one_cons (arr_cells (H.ok.get (k := 2) rfl)).2 (one_cons (arr_cells (H.ok.get (k := 3) rfl)).2 (one_cons (arr_cells (H.ok.get (k := 4) rfl)).2 one_nil))) (by simp) rfl) rfl rfl ?_
      rintro _ wd4366 H
      replace H : Hp C wd4366 ρ (Box b2198 [v3012, v3016, v4092] :: Box b2207 [v3012, v3016, v4092] :: Arr v3012 256 c3013 :: Arr v3016 1 c3017 :: Arr v4092 1 c4093 :: hs) := H
      refine WL_nil ?_
      refine x_then ?_
      refine CW.sub (E' := [(2, .pointer (some ⟨b2198, 0, none⟩))]) ⟨rfl, trivial⟩ ?_
      refine C_ret ?_
      have hRV : RV Tryd.prog wd4366 [(2, .pointer (some ⟨b2198, 0, none⟩))] [.cell 2 29] [.agg #[v3012, v3016, v4092]] := ⟨⟨_, rfl, run_ldv ty29 rfl (fun h => nomatch h) (box_at (H.ok.get (k := 0) rfl) 0 3)⟩, trivial⟩
      replace H := H.front 4 rfl
      replace H : Hp C wd4366 ρ (Arr v4092 1 c4093 :: Box b2198 [v3012, v3016, v4092] :: Box b2207 [v3012, v3016, v4092] :: Arr v3012 256 c3013 :: Arr v3016 1 c3017 :: hs) := H
      replace H := H.front 4 rfl
      replace H : Hp C wd4366 ρ (Arr v3016 1 c3017 :: Arr v4092 1 c4093 :: Box b2198 [v3012, v3016, v4092] :: Box b2207 [v3012, v3016, v4092] :: Arr v3012 256 c3013 :: hs) := H
      replace H := H.front 4 rfl
      replace H : Hp C wd4366 ρ (Arr v3012 256 c3013 :: Arr v3016 1 c3017 :: Arr v4092 1 c4093 :: Box b2198 [v3012, v3016, v4092] :: Box b2207 [v3012, v3016, v4092] :: hs) := H
      replace H := H.drop 3 rfl
      replace H : Hp C wd4366 ρ (Arr v3012 256 c3013 :: Arr v3016 1 c3017 :: Arr v4092 1 c4093 :: Box b2207 [v3012, v3016, v4092] :: hs) := H
      replace H := H.drop 3 rfl
      replace H : Hp C wd4366 ρ (Arr v3012 256 c3013 :: Arr v3016 1 c3017 :: Arr v4092 1 c4093 :: hs) := H
      obtain rfl := Option.some.inj hF
      exact fn_retV (rs := [.cell 2 29]) (vs := [.agg #[v3012, v3016, v4092]]) rfl hRV ⟨v3012, c3013, v3016, c3017, v4092, c4093, x3014, x3018, x4094, rfl, rfl, r3015, r3019, r4095, H⟩
theorem c_24 {N : Nat} {C : Cx} {w : World} {ρ : View} {hs : List Hl} {v1 : Value} {v4 : Value} {v7 : Value} {v10 : Value} {v13 : Value} {v16 : Value} {x2 : (List (List Int))} {x5 : (List Int)} {x8 : (List Int)} {x11 : (List (List Int))} {x14 : (List Int)} {x17 : (List Int)} (H : Hp C w ρ (hs)) (r3 : RdSl ρ (eA 256 (eI .i64)) v1 x2) (r6 : RdSl ρ (eI .i64) v4 x5) (r9 : RdSl ρ (eI .i64) v7 x8) (r12 : RdSl ρ (eA 256 (eI .i64)) v10 x11) (r15 : RdSl ρ (eI .i64) v13 x14) (r18 : RdSl ρ (eI .i64) v16 x17) {r : Bool} (hF : F_dofferref17_Same N x2 x5 x8 x11 x14 x17 = some r) :
    Calls Tryd.prog 24 [.agg #[v1, v4, v7], .agg #[v10, v13, v16]].toArray w (Rets (fun v w' => (∃ (x142 : Bool), x142 = r ∧ .bool x142 = v ∧ Hp C w' ρ (hs)))) := by
  unfold F_dofferref17_Same at hF
  have h0 : Tryd.f24.body = some _ := rfl
  refine fn_calls' Tryd.func24 h0 (n := 47) rfl (by simp) ?_
  refine C_seq ?_
  refine R_nd ?_
  refine ne (E_box H (vs := [v1, v4, v7]) rfl rfl) rfl rfl ?_
  rintro _ wd144 ⟨b143, rfl, H⟩
  replace H : Hp C wd144 ρ (Box b143 [v1, v4, v7] :: hs) := H
  refine ne (E_box H (vs := [v10, v13, v16]) rfl rfl) rfl rfl ?_
  rintro _ wd146 ⟨b145, rfl, H⟩
  replace H : Hp C wd146 ρ (Box b145 [v10, v13, v16] :: Box b143 [v1, v4, v7] :: hs) := H
  refine nq (v := .bool false) (Q_assign rfl) rfl rfl ?_
  refine WL_nil ?_
  refine x_then ?_
  refine CW.sub (E' := [(2, .pointer (some ⟨b143, 0, none⟩)), (3, .pointer (some ⟨b145, 0, none⟩))]) ⟨rfl, rfl, trivial⟩ ?_
  refine C_seq ?_
  obtain ⟨o156, ho156, hF⟩ := bnd hF
  refine C_cut (fun a w' => ∃ (x155 : Bool), x155 = o156 ∧ Fr 47 a [(2, .pointer (some ⟨b143, 0, none⟩)), (3, .pointer (some ⟨b145, 0, none⟩)), (28, .bool x155)] ∧ Hp C w' ρ (Box b143 [v1, v4, v7] :: Box b145 [v10, v13, v16] :: hs)) ?_ ?_
  · refine R_nd ?_
    refine nq (v := .pointer (some ⟨b143, 0, none⟩)) (Q_fld Tryd.underlying29 rfl ty27 (by decide) rfl rfl) rfl rfl ?_
    refine nq (v := v1) (Q_ldB (k := 1) (cs := [v1]) H.ok rfl ty27 rfl rfl rfl (fun _ => rfl) rfl) rfl rfl ?_
    refine nq (v := .int .i64 (x2.length : Int)) (Q_len Tryd.underlying27 rfl r3) rfl rfl ?_
    refine nq (v := .pointer (some ⟨b145, 0, none⟩)) (Q_fld Tryd.underlying29 rfl ty27 (by decide) rfl rfl) rfl rfl ?_
    refine nq (v := v10) (Q_ldB (k := 0) (cs := [v10]) H.ok rfl ty27 rfl rfl rfl (fun _ => rfl) rfl) rfl rfl ?_
    refine nq (v := .int .i64 (x11.length : Int)) (Q_len Tryd.underlying27 rfl r12) rfl rfl ?_
    refine nq (v := .bool ((x2.length : Int) != (x11.length : Int))) (Q_neq rfl rfl) rfl rfl ?_
    refine nq (v := .bool ((x2.length : Int) != (x11.length : Int))) (Q_move rfl) rfl rfl ?_
    rcases Bool.eq_false_or_eq_true ((x2.length : Int) != (x11.length : Int)) with hb | hb
    · rw [hb]
      replace ho156 := itT hb ho156
      refine gs rfl rfl rfl rfl ?_
      refine gs rfl rfl rfl rfl ?_
      refine gs rfl rfl rfl rfl ?_
      refine gs rfl rfl rfl rfl ?_
      refine gs rfl rfl rfl rfl ?_
      refine gs rfl rfl rfl rfl ?_
      refine nq (v := .bool true) (Q_pickT rfl rfl) rfl rfl ?_
      refine nq (v := .bool true) (Q_move rfl) rfl rfl ?_
      refine gs rfl rfl rfl rfl ?_
      refine gs rfl rfl rfl rfl ?_
      refine gs rfl rfl rfl rfl ?_
      refine gs rfl rfl rfl rfl ?_
      refine gs rfl rfl rfl rfl ?_
      refine gs rfl rfl rfl rfl ?_
      refine nq (v := .bool true) (Q_pickT rfl rfl) rfl rfl ?_
      refine WL_nil ?_
      replace H := H.front 1 rfl
      replace H : Hp C wd146 ρ (Box b143 [v1, v4, v7] :: Box b145 [v10, v13, v16] :: hs) := H
      obtain rfl := Option.some.inj ho156
      refine x_A fun a hf => ⟨true, rfl, hf.sub ⟨rfl, rfl, rfl, trivial⟩, H⟩
    · rw [hb]
      replace ho156 := itF hb ho156
      refine gq (v := .pointer (some ⟨b143, 1, none⟩)) (Q_fld Tryd.underlying29 rfl ty23 (by decide) rfl rfl) rfl rfl rfl ?_
      refine gq (v := v4) (Q_ldB (k := 1) (cs := [v4]) H.ok rfl ty23 rfl rfl rfl (fun _ => rfl) rfl) rfl rfl rfl ?_
      refine gq (v := .pointer (some ⟨b145, 1, none⟩)) (Q_fld Tryd.underlying29 rfl ty23 (by decide) rfl rfl) rfl rfl rfl ?_
      refine gq (v := v13) (Q_ldB (k := 0) (cs := [v13]) H.ok rfl ty23 rfl rfl rfl (fun _ => rfl) rfl) rfl rfl rfl ?_
      obtain ⟨q157, hq157, ho156⟩ := bnd ho156
      refine ge (E_call fn22 rfl (c_22 H  r6 r15 hq157)) rfl rfl rfl ?_
      rintro _ wd160 ⟨x159, rfl, rfl, H⟩
      try dsimp only at ho156
      replace H : Hp C wd160 ρ (Box b145 [v10, v13, v16] :: Box b143 [v1, v4, v7] :: hs) := H
      refine gq (v := .bool (!x159)) (Q_not rfl) rfl rfl rfl ?_
      refine nq (v := .bool (!x159)) (Q_pickF rfl rfl) rfl rfl ?_
      refine nq (v := .bool (!x159)) (Q_move rfl) rfl rfl ?_
      rcases Bool.eq_false_or_eq_true (!x159) with hb | hb
      · rw [hb]
        replace ho156 := itT hb ho156
        refine gs rfl rfl rfl rfl ?_
        refine gs rfl rfl rfl rfl ?_
        refine gs rfl rfl rfl rfl ?_
        refine gs rfl rfl rfl rfl ?_
        refine gs rfl rfl rfl rfl ?_
        refine gs rfl rfl rfl rfl ?_
        refine nq (v := .bool true) (Q_pickT rfl rfl) rfl rfl ?_
        refine WL_nil ?_
        replace H := H.front 1 rfl
        replace H : Hp C wd160 ρ (Box b143 [v1, v4, v7] :: Box b145 [v10, v13, v16] :: hs) := H
        obtain rfl := Option.some.inj ho156
        refine x_A fun a hf => ⟨true, rfl, hf.sub ⟨rfl, rfl, rfl, trivial⟩, H⟩
      · rw [hb]
        replace ho156 := itF hb ho156
        refine gq (v := .pointer (some ⟨b143, 2, none⟩)) (Q_fld Tryd.underlying29 rfl ty23 (by decide) rfl rfl) rfl rfl rfl ?_
        refine gq (v := v7) (Q_ldB (k := 1) (cs := [v7]) H.ok rfl ty23 rfl rfl rfl (fun _ => rfl) rfl) rfl rfl rfl ?_
        refine gq (v := .pointer (some ⟨b145, 2, none⟩)) (Q_fld Tryd.underlying29 rfl ty23 (by decide) rfl rfl) rfl rfl rfl ?_
        refine gq (v := v16) (Q_ldB (k := 0) (cs := [v16]) H.ok rfl ty23 rfl rfl rfl (fun _ => rfl) rfl) rfl rfl rfl ?_
        obtain ⟨q161, hq161, ho156⟩ := bnd ho156
        refine ge (E_call fn22 rfl (c_22 H  r9 r18 hq161)) rfl rfl rfl ?_
        rintro _ wd164 ⟨x163, rfl, rfl, H⟩
        try dsimp only at ho156
        replace H : Hp C wd164 ρ (Box b145 [v10, v13, v16] :: Box b143 [v1, v4, v7] :: hs) := H
        refine gq (v := .bool (!x163)) (Q_not rfl) rfl rfl rfl ?_
        refine nq (v := .bool (!x163)) (Q_pickF rfl rfl) rfl rfl ?_
        refine WL_nil ?_
        replace H := H.front 1 rfl
        replace H : Hp C wd164 ρ (Box b143 [v1, v4, v7] :: Box b145 [v10, v13, v16] :: hs) := H
        obtain rfl := Option.some.inj ho156
        refine x_A fun a hf => ⟨!x163, rfl, hf.sub ⟨rfl, rfl, rfl, trivial⟩, H⟩
  · rintro a wd165 ⟨x155, rfl, hf, H⟩
    try dsimp only at hF
    refine CW.at hf ?_
    refine C_cond rfl (fun hb => ?_) (fun hb => ?_)
    · replace hF := itT hb hF
      refine C_seq ?_
      refine R_nd ?_
      refine nq (v := .bool false) (Q_assign rfl) rfl rfl ?_
      refine WL_nil ?_
      refine x_then ?_
      refine CW.sub (E' := [(4, .bool false)]) ⟨rfl, trivial⟩ ?_
      refine C_ret ?_
      refine x_then_ret ?_
      replace H := H.drop 0 rfl
      replace H : Hp C wd165 ρ (Box b145 [v10, v13, v16] :: hs) := H
      replace H := H.drop 0 rfl
      replace H : Hp C wd165 ρ (hs) := H
      obtain rfl := Option.some.inj hF
      exact fn_ret (l := [.tmp 4]) (vs := [.bool false]) rfl rfl rfl ⟨false, rfl, rfl, H⟩
    · replace hF := itF hb hF
      refine C_skip ?_
      refine x_then ?_
      refine CW.sub (E' := [(2, .pointer (some ⟨b143, 0, none⟩)), (3, .pointer (some ⟨b145, 0, none⟩))]) ⟨rfl, rfl, trivial⟩ ?_
      refine C_seq ?_
      refine C_seq ?_
      refine R_nd ?_
      refine nq (v := .pointer (some ⟨b143, 0, none⟩)) (Q_fld Tryd.underlying29 rfl ty27 (by decide) rfl rfl) rfl rfl ?_
      refine nq (v := v1) (Q_ldB (k := 0) (cs := [v1]) H.ok rfl ty27 rfl rfl rfl (fun _ => rfl) rfl) rfl rfl ?_
      refine nq (v := .int .i64 (x2.length : Int)) (Q_len Tryd.underlying27 rfl r3) rfl rfl ?_
      refine nq (v := .int .i64 0) (Q_move rfl) rfl rfl ?_
      refine WL_nil ?_
      refine x_then ?_
      refine CW.sub (E' := [(2, .pointer (some ⟨b143, 0, none⟩)), (3, .pointer (some ⟨b145, 0, none⟩)), (31, .int .i64 (x2.length : Int)), (32, .int .i64 0)]) ⟨rfl, rfl, rfl, rfl, trivial⟩ ?_
      obtain ⟨o215, ho215, hF⟩ := bnd hF
      refine C_cutQ (fun a w' => .inl () = o215 ∧ Fr 47 a [] ∧ Hp C w' ρ (hs)) ?_ ?_
      · refine C_block ?_
        replace H := H.front 1 rfl
        replace H : Hp C wd165 ρ (Box b145 [v10, v13, v16] :: Box b143 [v1, v4, v7] :: hs) := H
        replace H := H.front 1 rfl
        replace H : Hp C wd165 ρ (Box b143 [v1, v4, v7] :: Box b145 [v10, v13, v16] :: hs) := H
        refine C_iter (f := fun s => F_dofferref17_Same_l0 N x2 x11 s) ho215 (fun s a w' => ∃ (x231 : Int), x231 = s ∧ Fr 47 a [(2, .pointer (some ⟨b143, 0, none⟩)), (3, .pointer (some ⟨b145, 0, none⟩)), (31, .int .i64 (x2.length : Int)), (32, .int .i64 x231)] ∧ Hp C w' ρ (Box b143 [v1, v4, v7] :: Box b145 [v10, v13, v16] :: hs)) ?_ ?_
        · exact fun a hf => ⟨0, rfl, hf.sub ⟨rfl, rfl, rfl, rfl, trivial⟩, H⟩
        · rintro s o247 a wd250 ⟨x231, rfl, hf, H⟩ hB248 hO249
          replace hB248 : F_dofferref17_Same_l0 N x2 x11 x231 = some o247 := hB248
          unfold F_dofferref17_Same_l0 at hB248
          refine CW.at hf ?_
          refine C_seq ?_
          refine R_nd ?_
          refine nq (v := .bool (decide (x231 < (x2.length : Int)))) (Q_lss rfl rfl) rfl rfl ?_
          refine WL_nil ?_
          refine x_then ?_
          refine CW.sub (E' := [(2, .pointer (some ⟨b143, 0, none⟩)), (3, .pointer (some ⟨b145, 0, none⟩)), (31, .int .i64 (x2.length : Int)), (32, .int .i64 x231), (33, .bool (decide (x231 < (x2.length : Int))))]) ⟨rfl, rfl, rfl, rfl, rfl, trivial⟩ ?_
          refine C_seq ?_
          refine C_cond rfl (fun hb => ?_) (fun hb => ?_)
          · replace hB248 := itT hb hB248
            refine C_skip ?_
            refine x_then ?_
            refine CW.sub (E' := [(2, .pointer (some ⟨b143, 0, none⟩)), (3, .pointer (some ⟨b145, 0, none⟩)), (31, .int .i64 (x2.length : Int)), (32, .int .i64 x231)]) ⟨rfl, rfl, rfl, rfl, trivial⟩ ?_
            refine C_seq ?_
            refine C_block ?_
            refine C_seq ?_
            refine R_nd ?_
            refine nq (v := .int .i64 x231) (Q_move rfl) rfl rfl ?_
            refine nq (v := .int .i64 x231) (Q_assign rfl) rfl rfl ?_
            refine WL_nil ?_
            refine x_then ?_
            refine CW.sub (E' := [(2, .pointer (some ⟨b143, 0, none⟩)), (3, .pointer (some ⟨b145, 0, none⟩)), (5, .int .i64 x231), (31, .int .i64 (x2.length : Int)), (32, .int .i64 x231)]) ⟨rfl, rfl, rfl, rfl, rfl, trivial⟩ ?_
            refine C_seq ?_
            refine R_dr (.take 0 (.take 1 (.take 2 (.take 3 (.take 4 (.take 5 (.take 6 (.take 7 (.take 8 (.take 9 (.take 10 .done))))))))))) (fun w' => Ok w' ρ [Box b143 [v1, v4, v7], Box b145 [v10, v13, v16]]) (by kernel_rfl) (by kernel_rfl) (by kernel_rfl) (H.drew.okS (by simp)) ?_
            replace H := H.drew
            refine dq (v := .pointer (some ⟨b143, 0, none⟩)) rfl (fun w' hw => Q_fld Tryd.underlying29 rfl ty27 (by decide) rfl rfl) rfl rfl ?_
            refine dq (v := v1) rfl (fun w' hw => Q_ldB (k := 0) (cs := [v1]) hw rfl ty27 rfl rfl rfl (fun _ => rfl) rfl) rfl rfl ?_
            refine dq (v := .int .i64 x231) rfl (fun w' hw => Q_move rfl) rfl rfl ?_
            obtain ⟨x251, hx251, hB248⟩ := bnd hB248
            obtain ⟨b252, o253, c254, hc255, ha256, hi257⟩ := idxR r3 hx251
            refine dq (v := .pointer (some ⟨b252, o253, none⟩)) rfl (fun w' hw => Q_idx hi257 Tryd.underlying27 ty57 rfl rfl) rfl rfl ?_
            refine dq (v := .agg c254.toArray) rfl (fun w' hw => Q_ld (ha256.up hw.view) ty57 ((eA 256 (eI .i64)).len hc255) (fun h => nomatch h) rfl rfl) rfl rfl ?_
            refine dq (v := .pointer (some ⟨b145, 0, none⟩)) rfl (fun w' hw => Q_fld Tryd.underlying29 rfl ty27 (by decide) rfl rfl) rfl rfl ?_
            refine dq (v := v10) rfl (fun w' hw => Q_ldB (k := 1) (cs := [v10]) hw rfl ty27 rfl rfl rfl (fun _ => rfl) rfl) rfl rfl ?_
            refine dq (v := .int .i64 x231) rfl (fun w' hw => Q_move rfl) rfl rfl ?_
            obtain ⟨x258, hx258, hB248⟩ := bnd hB248
            obtain ⟨b259, o260, c261, hc262, ha263, hi264⟩ := idxR r12 hx258
            refine dq (v := .pointer (some ⟨b259, o260, none⟩)) rfl (fun w' hw => Q_idx hi264 Tryd.underlying27 ty57 rfl rfl) rfl rfl ?_
            refine dq (v := .agg c261.toArray) rfl (fun w' hw => Q_ld (ha263.up hw.view) ty57 ((eA 256 (eI .i64)).len hc262) (fun h => nomatch h) rfl rfl) rfl rfl ?_
            refine dq (v := .bool (x251 != x258)) rfl (fun w' hw => Q_neqA Tryd.underlying57 ty3 (by kernel_rfl) Tryd.underlying3 hc255.2 hc255.1 hc262.2 hc262.1 rfl rfl) rfl rfl ?_
            refine DL_nil ?_
            refine x_then ?_
            refine CW.sub (E' := [(2, .pointer (some ⟨b143, 0, none⟩)), (3, .pointer (some ⟨b145, 0, none⟩)), (31, .int .i64 (x2.length : Int)), (32, .int .i64 x231), (45, .bool (x251 != x258))]) ⟨rfl, rfl, rfl, rfl, rfl, trivial⟩ ?_
            refine C_cond rfl (fun hb => ?_) (fun hb => ?_)
            · replace hB248 := itT hb hB248
              refine C_seq ?_
              refine R_nd ?_
              refine nq (v := .bool false) (Q_assign rfl) rfl rfl ?_
              refine WL_nil ?_
              refine x_then ?_
              refine CW.sub (E' := [(4, .bool false)]) ⟨rfl, trivial⟩ ?_
              refine C_ret ?_
              refine x_block_ret ?_
              refine x_then_ret ?_
              refine x_then_ret ?_
              refine x_block_ret ?_
              refine x_then_ret ?_
              refine x_then_ret ?_
              replace H := H.drop 0 rfl
              replace H : Hp C wd250.drew ρ (Box b145 [v10, v13, v16] :: hs) := H
              replace H := H.drop 0 rfl
              replace H : Hp C wd250.drew ρ (hs) := H
              obtain rfl := Option.some.inj hB248
              obtain rfl := hO249 _ rfl
              obtain rfl := Option.some.inj (show some _ = some _ from hF)
              exact fn_ret (l := [.tmp 4]) (vs := [.bool false]) rfl rfl rfl ⟨false, rfl, rfl, H⟩
            · replace hB248 := itF hb hB248
              refine C_skip ?_
              refine x_block ?_
              refine x_then ?_
              refine CW.sub (E' := [(2, .pointer (some ⟨b143, 0, none⟩)), (3, .pointer (some ⟨b145, 0, none⟩)), (31, .int .i64 (x2.length : Int)), (32, .int .i64 x231)]) ⟨rfl, rfl, rfl, rfl, trivial⟩ ?_
              refine R_nd ?_
              refine nq (v := .int .i64 (w64 (x231 + 1))) (Q_add rfl rfl) rfl rfl ?_
              refine nq (v := .int .i64 (w64 (x231 + 1))) (Q_move rfl) rfl rfl ?_
              refine WL_nil ?_
              replace H := H.front 1 rfl
              replace H : Hp C wd250.drew ρ (Box b145 [v10, v13, v16] :: Box b143 [v1, v4, v7] :: hs) := H
              replace H := H.front 1 rfl
              replace H : Hp C wd250.drew ρ (Box b143 [v1, v4, v7] :: Box b145 [v10, v13, v16] :: hs) := H
              obtain rfl := Option.some.inj hB248
              refine x_A fun a hf => ⟨_, rfl, w64 (x231 + 1), rfl, hf.sub ⟨rfl, rfl, rfl, rfl, trivial⟩, H⟩
          · replace hB248 := itF hb hB248
            refine C_exit ?_
            refine x_then_exit ?_
            refine x_then_exit ?_
            refine x_block_exit ?_
            replace H := H.drop 0 rfl
            replace H : Hp C wd250 ρ (Box b145 [v10, v13, v16] :: hs) := H
            replace H := H.drop 0 rfl
            replace H : Hp C wd250 ρ (hs) := H
            obtain rfl := Option.some.inj hB248
            obtain rfl := hO249 _ rfl
            refine x_A fun a hf => ⟨rfl, hf.sub trivial, H⟩
      · rintro a wd265 ⟨rfl, hf, H⟩
        try dsimp only at hF
        refine XX.at hf ?_
        refine x_then ?_
        refine CW.sub (E' := []) trivial ?_
        refine C_seq ?_
        refine R_nd ?_
        refine nq (v := .bool true) (Q_assign rfl) rfl rfl ?_
        refine WL_nil ?_
        refine x_then ?_
        refine CW.sub (E' := [(4, .bool true)]) ⟨rfl, trivial⟩ ?_
        refine C_ret ?_
        obtain rfl := Option.some.inj hF
        exact fn_ret (l := [.tmp 4]) (vs := [.bool true]) rfl rfl rfl ⟨true, rfl, rfl, H⟩
theorem c_25 {N : Nat} {C : Cx} {w : World} {ρ : View} {hs : List Hl} {v1 : Value} {v4 : Value} {v7 : Value} {x2 : (List (List Int))} {x5 : (List Int)} {x8 : (List Int)} (H : Hp C w ρ (hs)) (r3 : RdSl ρ (eA 256 (eI .i64)) v1 x2) (r6 : RdSl ρ (eI .i64) v4 x5) (r9 : RdSl ρ (eI .i64) v7 x8) {r : Int} (hF : F_dofferref20_Edges N x2 x5 x8 = some r) :
    Calls Tryd.prog 25 [.agg #[v1, v4, v7]].toArray w (Rets (fun v w' => (∃ (x2531 : Int), x2531 = r ∧ .int .i64 x2531 = v ∧ Hp C w' ρ (hs)))) := by
  unfold F_dofferref20_Edges at hF
  have h0 : Tryd.f25.body = some _ := rfl
  refine fn_calls' Tryd.func25 h0 (n := 36) rfl (by simp) ?_
  refine C_seq ?_
  refine R_nd ?_
  refine ne (E_box H (vs := [v1, v4, v7]) rfl rfl) rfl rfl ?_
  rintro _ wd2533 ⟨b2532, rfl, H⟩
  replace H : Hp C wd2533 ρ (Box b2532 [v1, v4, v7] :: hs) := H
  refine nq (v := .int .i64 0) (Q_assign rfl) rfl rfl ?_
  refine WL_nil ?_
  refine x_then ?_
  refine CW.sub (E' := [(1, .pointer (some ⟨b2532, 0, none⟩))]) ⟨rfl, trivial⟩ ?_
  refine C_seq ?_
  refine R_nd ?_
  refine nq (v := .int .i64 0) (Q_assign rfl) rfl rfl ?_
  refine WL_nil ?_
  refine x_then ?_
  refine CW.sub (E' := [(1, .pointer (some ⟨b2532, 0, none⟩)), (3, .int .i64 0)]) ⟨rfl, rfl, trivial⟩ ?_
  refine C_seq ?_
  refine C_seq ?_
  refine R_nd ?_
  refine nq (v := .pointer (some ⟨b2532, 0, none⟩)) (Q_fld Tryd.underlying29 rfl ty27 (by decide) rfl rfl) rfl rfl ?_
  refine nq (v := v1) (Q_ldB (k := 0) (cs := [v1]) H.ok rfl ty27 rfl rfl rfl (fun _ => rfl) rfl) rfl rfl ?_
  refine nq (v := .int .i64 (x2.length : Int)) (Q_len Tryd.underlying27 rfl r3) rfl rfl ?_
  refine nq (v := .int .i64 0) (Q_move rfl) rfl rfl ?_
  refine WL_nil ?_
  refine x_then ?_
  refine CW.sub (E' := [(3, .int .i64 0), (10, v1), (11, .int .i64 (x2.length : Int)), (12, .int .i64 0)]) ⟨rfl, rfl, rfl, rfl, trivial⟩ ?_
  obtain ⟨o3793, ho3793, hF⟩ := bnd hF
  refine C_cutQ (fun a w' => ∃ (x3792 : Int), x3792 = o3793 ∧ Fr 36 a [(3, .int .i64 x3792)] ∧ Hp C w' ρ (hs)) ?_ ?_
  · refine C_block ?_
    replace H := H.drop 0 rfl
    replace H : Hp C wd2533 ρ (hs) := H
    refine C_iter (f := fun s => F_dofferref20_Edges_l0 N x2 s.1 s.2) ho3793 (fun s a w' => ∃ (x4212 : Int) (x4213 : Int), (x4212, x4213) = s ∧ Fr 36 a [(3, .int .i64 x4213), (10, v1), (11, .int .i64 (x2.length : Int)), (12, .int .i64 x4212)] ∧ Hp C w' ρ (hs)) ?_ ?_
    · exact fun a hf => ⟨0, 0, rfl, hf.sub ⟨rfl, rfl, rfl, rfl, trivial⟩, H⟩
    · rintro s o4632 a wd4635 ⟨x4212, x4213, rfl, hf, H⟩ hB4633 hO4634
      replace hB4633 : F_dofferref20_Edges_l0 N x2 x4212 x4213 = some o4632 := hB4633
      unfold F_dofferref20_Edges_l0 at hB4633
      refine CW.at hf ?_
      refine C_seq ?_
      refine R_nd ?_
      refine nq (v := .bool (decide (x4212 < (x2.length : Int)))) (Q_lss rfl rfl) rfl rfl ?_
      refine WL_nil ?_
      refine x_then ?_
      refine CW.sub (E' := [(3, .int .i64 x4213), (10, v1), (11, .int .i64 (x2.length : Int)), (12, .int .i64 x4212), (13, .bool (decide (x4212 < (x2.length : Int))))]) ⟨rfl, rfl, rfl, rfl, rfl, trivial⟩ ?_
      refine C_seq ?_
      refine C_cond rfl (fun hb => ?_) (fun hb => ?_)
      · replace hB4633 := itT hb hB4633
        refine C_skip ?_
        refine x_then ?_
        refine CW.sub (E' := [(3, .int .i64 x4213), (10, v1), (11, .int .i64 (x2.length : Int)), (12, .int .i64 x4212)]) ⟨rfl, rfl, rfl, rfl, trivial⟩ ?_
        refine C_seq ?_
        refine C_block ?_
        refine C_seq ?_
        refine R_nd ?_
        obtain ⟨x4636, hx4636, hB4633⟩ := bnd hB4633
        obtain ⟨b4637, o4638, c4639, hc4640, ha4641, hi4642⟩ := idxR r3 hx4636
        refine nq (v := .pointer (some ⟨b4637, o4638, none⟩)) (Q_idx hi4642 Tryd.underlying27 ty57 rfl rfl) rfl rfl ?_
        refine nq (v := .agg c4639.toArray) (Q_ld (ha4641.up H.ok.view) ty57 ((eA 256 (eI .i64)).len hc4640) (fun h => nomatch h) rfl rfl) rfl rfl ?_
        refine ne (E_allocA (N := 256) (n := 1) (zs := (repC 256 [.int .i64 0])) H ty57 rfl (by simp [repC_length])) rfl rfl ?_
        rintro _ wd4644 ⟨b4643, rfl, H⟩
        replace H : Hp C wd4644 ρ (Arr (.slice (some ⟨b4643, 0, none⟩) 256 256) 1 (repC 256 [.int .i64 0]) :: hs) := H
        refine ne (E_stW (k := 0) H rfl ty57 rfl rfl (rdL.one hc4640.2) (arr_clen (rdL_rep (e:=(eI .i64)) (ρ:=ρ) (rfl) 256) List.length_replicate) (arr_clen hc4640.2 hc4640.1)) rfl rfl ?_
        rintro _ wd4645 H
        replace H : Hp C wd4645 ρ (Arr (.slice (some ⟨b4643, 0, none⟩) 256 256) 1 c4639 :: hs) := H
        refine WL_nil ?_
        refine x_then ?_
        refine CW.sub (E' := [(3, .int .i64 x4213), (5, .pointer (some ⟨b4643, 0, none⟩)), (10, v1), (11, .int .i64 (x2.length : Int)), (12, .int .i64 x4212)]) ⟨rfl, rfl, rfl, rfl, rfl, trivial⟩ ?_
        refine C_seq ?_
        refine R_nd ?_
        refine ne (E_bslice0 H Tryd.underlying23 ty3) rfl rfl ?_
        rintro _ wd4647 ⟨b4646, rfl, H⟩
        replace H : Hp C wd4647 ρ (Arr (.slice (some ⟨b4646, 0, none⟩) 0 0) 1 ([]) :: Arr (.slice (some ⟨b4643, 0, none⟩) 256 256) 1 c4639 :: hs) := H
        refine nq (v := (.slice (some ⟨b4646, 0, none⟩) 0 0)) (Q_assign rfl) rfl rfl ?_
        refine WL_nil ?_
        refine x_then ?_
        refine CW.sub (E' := [(3, .int .i64 x4213), (5, .pointer (some ⟨b4643, 0, none⟩)), (6, (.slice (some ⟨b4646, 0, none⟩) 0 0)), (10, v1), (11, .int .i64 (x2.length : Int)), (12, .int .i64 x4212)]) ⟨rfl, rfl, rfl, rfl, rfl, rfl, trivial⟩ ?_
        refine C_seq ?_
        refine C_seq ?_
        refine R_nd ?_
        refine nq (v := .agg c4639.toArray) (Q_ldW (k := 1) H.ok rfl ty57 rfl (arr_clen hc4640.2 hc4640.1)) rfl rfl ?_
        refine nq (v := .int .i64 0) (Q_move rfl) rfl rfl ?_
        refine WL_nil ?_
        refine x_then ?_
        refine CW.sub (E' := [(3, .int .i64 x4213), (6, (.slice (some ⟨b4646, 0, none⟩) 0 0)), (10, v1), (11, .int .i64 (x2.length : Int)), (12, .int .i64 x4212), (17, .agg c4639.toArray), (18, .int .i64 0)]) ⟨rfl, rfl, rfl, rfl, rfl, rfl, rfl, trivial⟩ ?_
        obtain ⟨o4851, ho4851, hB4633⟩ := bnd hB4633
        refine C_cutQ (fun a w' => ∃ (v4847 : Value) (c4848 : (List Value)) (x4849 : (List Int)), x4849 = o4851 ∧ rdL (eI .i64) ρ x4849 c4848 ∧ Fr 36 a [(3, .int .i64 x4213), (6, v4847), (10, v1), (11, .int .i64 (x2.length : Int)), (12, .int .i64 x4212)] ∧ Hp C w' ρ (Arr v4847 1 c4848 :: hs)) ?_ ?_
        · refine C_block ?_
          replace H := H.drop 1 rfl
          replace H : Hp C wd4647 ρ (Arr (.slice (some ⟨b4646, 0, none⟩) 0 0) 1 ([]) :: hs) := H
          refine C_iter (f := fun s => F_dofferref20_Edges_l1 N x4636 s.1 s.2) ho4851 (fun s a w' => ∃ (v4918 : Value) (c4919 : (List Value)) (x4917 : Int) (x4920 : (List Int)), (x4917, x4920) = s ∧ rdL (eI .i64) ρ x4920 c4919 ∧ Fr 36 a [(3, .int .i64 x4213), (6, v4918), (10, v1), (11, .int .i64 (x2.length : Int)), (12, .int .i64 x4212), (17, .agg c4639.toArray), (18, .int .i64 x4917)] ∧ Hp C w' ρ (Arr v4918 1 c4919 :: hs)) ?_ ?_
          · exact fun a hf => ⟨(.slice (some ⟨b4646, 0, none⟩) 0 0), [], 0, [], rfl, rdL.nil, hf.sub ⟨rfl, rfl, rfl, rfl, rfl, rfl, rfl, trivial⟩, H⟩
          · rintro s o4987 a wd4990 ⟨v4918, c4919, x4917, x4920, rfl, r4921, hf, H⟩ hB4988 hO4989
            replace hB4988 : F_dofferref20_Edges_l1 N x4636 x4917 x4920 = some o4987 := hB4988
            unfold F_dofferref20_Edges_l1 at hB4988
            refine CW.at hf ?_
            refine C_seq ?_
            refine R_nd ?_
            refine nq (v := .bool (decide (x4917 < 256))) (Q_lss rfl rfl) rfl rfl ?_
            refine WL_nil ?_
            refine x_then ?_
            refine CW.sub (E' := [(3, .int .i64 x4213), (6, v4918), (10, v1), (11, .int .i64 (x2.length : Int)), (12, .int .i64 x4212), (17, .agg c4639.toArray), (18, .int .i64 x4917), (19, .bool (decide (x4917 < 256)))]) ⟨rfl, rfl, rfl, rfl, rfl, rfl, rfl, rfl, trivial⟩ ?_
            refine C_seq ?_
            refine C_cond rfl (fun hb => ?_) (fun hb => ?_)
            · replace hB4988 := itT hb hB4988
              refine C_skip ?_
              refine x_then ?_
              refine CW.sub (E' := [(3, .int .i64 x4213), (6, v4918), (10, v1), (11, .int .i64 (x2.length : Int)), (12, .int .i64 x4212), (17, .agg c4639.toArray), (18, .int .i64 x4917)]) ⟨rfl, rfl, rfl, rfl, rfl, rfl, rfl, trivial⟩ ?_
              obtain ⟨o5022, ho5022, hB4988⟩ := bnd hB4988
              refine C_cut (fun a w' => ∃ (v5018 : Value) (c5019 : (List Value)) (x5020 : (List Int)), x5020 = o5022 ∧ rdL (eI .i64) ρ x5020 c5019 ∧ Fr 36 a [(3, .int .i64 x4213), (6, v5018), (10, v1), (11, .int .i64 (x2.length : Int)), (12, .int .i64 x4212), (17, .agg c4639.toArray), (18, .int .i64 x4917)] ∧ Hp C w' ρ (Arr v5018 1 c5019 :: hs)) ?_ ?_
              · refine C_block ?_
                refine C_seq ?_
                refine R_nd ?_
                obtain ⟨x5023, hx5023, ho5022⟩ := bnd ho5022
                refine nq (v := .int .i64 x5023) (Q_ixI hc4640.2 hc4640.1 hx5023 Tryd.underlying57 rfl rfl ty3 rfl) rfl rfl ?_
                refine nq (v := .int .i64 x5023) (Q_assign rfl) rfl rfl ?_
                refine WL_nil ?_
                refine x_then ?_
                refine CW.sub (E' := [(3, .int .i64 x4213), (6, v4918), (8, .int .i64 x5023), (10, v1), (11, .int .i64 (x2.length : Int)), (12, .int .i64 x4212), (17, .agg c4639.toArray), (18, .int .i64 x4917)]) ⟨rfl, rfl, rfl, rfl, rfl, rfl, rfl, rfl, trivial⟩ ?_
                refine C_seq ?_
                refine R_nd ?_
                refine nq (v := v4918) (Q_move rfl) rfl rfl ?_
                refine nq (v := .int .i64 x5023) (Q_move rfl) rfl rfl ?_
                obtain ⟨q5024, hq5024, ho5022⟩ := bnd ho5022
                obtain ⟨C', ρ', hl5025, HA, hL, hback⟩ := Hp.lend (A := []) (L := [Arr v4918 1 c4919]) (F := hs) H
                refine ne (E_call fn56 rfl (c_56 HA  (arr_rd (by decide) hl5025 (hL (Arr v4918 1 c4919) (by simp)) r4921) hq5024)) rfl rfl ?_
                rintro _ wd5027 ⟨x5026, rfl, rfl, H⟩
                try dsimp only at ho5022
                replace H := hback H
                replace H : Hp C wd5027 ρ (Arr v4918 1 c4919 :: hs) := H
                refine nq (v := .bool (!x5026)) (Q_not rfl) rfl rfl ?_
                refine WL_nil ?_
                refine x_then ?_
                refine CW.sub (E' := [(3, .int .i64 x4213), (6, v4918), (8, .int .i64 x5023), (10, v1), (11, .int .i64 (x2.length : Int)), (12, .int .i64 x4212), (17, .agg c4639.toArray), (18, .int .i64 x4917), (24, .bool (!x5026))]) ⟨rfl, rfl, rfl, rfl, rfl, rfl, rfl, rfl, rfl, trivial⟩ ?_
                obtain ⟨o5040, ho5040, ho5022⟩ := bnd ho5022
                refine C_cutQ (fun a w' => ∃ (v5036 : Value) (c5037 : (List Value)) (x5038 : (List Int)), x5038 = o5040 ∧ rdL (eI .i64) ρ x5038 c5037 ∧ Fr 36 a [(3, .int .i64 x4213), (6, v5036), (10, v1), (11, .int .i64 (x2.length : Int)), (12, .int .i64 x4212), (17, .agg c4639.toArray), (18, .int .i64 x4917)] ∧ Hp C w' ρ (Arr v5036 1 c5037 :: hs)) ?_ ?_
                · refine C_cond rfl (fun hb => ?_) (fun hb => ?_)
                  · replace ho5040 := itT hb ho5040
                    refine R_nd ?_
                    refine nq (v := v4918) (Q_move rfl) rfl rfl ?_
                    refine nq (v := .int .i64 x5023) (Q_move rfl) rfl rfl ?_
                    refine ne (E_bslice (xs := [.tmp 26]) (vs := [.int .i64 x5023]) H Tryd.underlying23 ty3 (by decide) (cs := [.int .i64 x5023]) rfl (sz_cons rfl sz_nil) rfl (by simp) (by simp) rfl rfl) rfl rfl ?_
                    rintro _ wd5042 ⟨b5041, rfl, H⟩
                    replace H : Hp C wd5042 ρ (Arr (.slice (some ⟨b5041, 0, none⟩) 1 1) 1 ([.int .i64 x5023]) :: Arr v4918 1 c4919 :: hs) := H
                    obtain ⟨x5043, hx5043, ho5040⟩ := bnd ho5040
                    obtain ⟨ha5044a, ha5044b⟩ := app_some hx5043
                    have r5046 : rdL (eI .i64) ρ x5043 (c4919 ++ ([.int .i64 x5023])) := ha5044b ▸ rdL.app r4921 (show rdL (eI .i64) ρ ([x5023]) ([.int .i64 x5023]) from ⟨([.int .i64 x5023]), _, rfl, rfl, rdL.nil⟩)
                    refine ne (E_append (k := 1) H rfl Tryd.underlying23 ty3 rfl (by decide) (by decide) rfl rfl (Src.ofArr (k := 0) H.ok rfl) (rdL.one (show rdL (eI .i64) ρ ([x5023]) ([.int .i64 x5023]) from ⟨([.int .i64 x5023]), _, rfl, rfl, rdL.nil⟩)) (app_fit r4921 (show rdL (eI .i64) ρ ([x5023]) ([.int .i64 x5023]) from ⟨([.int .i64 x5023]), _, rfl, rfl, rdL.nil⟩) ha5044a)) rfl rfl ?_
                    rintro v5045 wd5048 ⟨H, hc5047⟩
                    replace H : Hp C wd5048 ρ (Arr (.slice (some ⟨b5041, 0, none⟩) 1 1) 1 ([.int .i64 x5023]) :: Arr v5045 1 (c4919 ++ ([.int .i64 x5023])) :: hs) := H
                    refine nq (v := v5045) (Q_assign rfl) rfl rfl ?_
                    refine WL_nil ?_
                    replace H := H.front 1 rfl
                    replace H : Hp C wd5048 ρ (Arr v5045 1 (c4919 ++ ([.int .i64 x5023])) :: Arr (.slice (some ⟨b5041, 0, none⟩) 1 1) 1 ([.int .i64 x5023]) :: hs) := H
                    replace H := H.drop 1 rfl
                    replace H : Hp C wd5048 ρ (Arr v5045 1 (c4919 ++ ([.int .i64 x5023])) :: hs) := H
                    obtain rfl := Option.some.inj ho5040
                    refine x_A fun a hf => ⟨v5045, (c4919 ++ ([.int .i64 x5023])), x5043, rfl, r5046, hf.sub ⟨rfl, rfl, rfl, rfl, rfl, rfl, rfl, trivial⟩, H⟩
                  · replace ho5040 := itF hb ho5040
                    refine C_skip ?_
                    obtain rfl := Option.some.inj ho5040
                    refine x_A fun a hf => ⟨v4918, c4919, x4920, rfl, r4921, hf.sub ⟨rfl, rfl, rfl, rfl, rfl, rfl, rfl, trivial⟩, H⟩
                · rintro a wd5049 ⟨v5036, c5037, x5038, rfl, r5039, hf, H⟩
                  try dsimp only at ho5022
                  refine XX.at hf ?_
                  refine x_block ?_
                  obtain rfl := Option.some.inj ho5022
                  refine x_A fun a hf => ⟨v5036, c5037, x5038, rfl, r5039, hf.sub ⟨rfl, rfl, rfl, rfl, rfl, rfl, rfl, trivial⟩, H⟩
              · rintro a wd5050 ⟨v5018, c5019, x5020, rfl, r5021, hf, H⟩
                try dsimp only at hB4988
                refine CW.at hf ?_
                refine R_nd ?_
                refine nq (v := .int .i64 (w64 (x4917 + 1))) (Q_add rfl rfl) rfl rfl ?_
                refine nq (v := .int .i64 (w64 (x4917 + 1))) (Q_move rfl) rfl rfl ?_
                refine WL_nil ?_
                obtain rfl := Option.some.inj hB4988
                refine x_A fun a hf => ⟨_, rfl, v5018, c5019, w64 (x4917 + 1), x5020, rfl, r5021, hf.sub ⟨rfl, rfl, rfl, rfl, rfl, rfl, rfl, trivial⟩, H⟩
            · replace hB4988 := itF hb hB4988
              refine C_exit ?_
              refine x_then_exit ?_
              refine x_then_exit ?_
              refine x_block_exit ?_
              obtain rfl := Option.some.inj hB4988
              obtain rfl := hO4989 _ rfl
              refine x_A fun a hf => ⟨v4918, c4919, x4920, rfl, r4921, hf.sub ⟨rfl, rfl, rfl, rfl, rfl, trivial⟩, H⟩
        · rintro a wd5051 ⟨v4847, c4848, x4849, rfl, r4850, hf, H⟩
          try dsimp only at hB4633
          refine XX.at hf ?_
          refine x_then ?_
          refine CW.sub (E' := [(3, .int .i64 x4213), (6, v4847), (10, v1), (11, .int .i64 (x2.length : Int)), (12, .int .i64 x4212)]) ⟨rfl, rfl, rfl, rfl, rfl, trivial⟩ ?_
          refine R_nd ?_
          refine nq (v := .int .i64 x4213) (Q_move rfl) rfl rfl ?_
          refine nq (v := v4847) (Q_move rfl) rfl rfl ?_
          refine nq (v := .int .i64 (x4849.length : Int)) (Q_lenA (k := 0) H.ok rfl r4850 (by decide) Tryd.underlying23 rfl) rfl rfl ?_
          refine nq (v := .int .i64 (w64 (x4213 + (x4849.length : Int)))) (Q_add rfl rfl) rfl rfl ?_
          refine nq (v := .int .i64 (w64 (x4213 + (x4849.length : Int)))) (Q_assign rfl) rfl rfl ?_
          refine WL_nil ?_
          refine x_block ?_
          refine x_then ?_
          refine CW.sub (E' := [(3, .int .i64 (w64 (x4213 + (x4849.length : Int)))), (10, v1), (11, .int .i64 (x2.length : Int)), (12, .int .i64 x4212)]) ⟨rfl, rfl, rfl, rfl, trivial⟩ ?_
          refine R_nd ?_
          refine nq (v := .int .i64 (w64 (x4212 + 1))) (Q_add rfl rfl) rfl rfl ?_
          refine nq (v := .int .i64 (w64 (x4212 + 1))) (Q_move rfl) rfl rfl ?_
          refine WL_nil ?_
          replace H := H.drop 0 rfl
          replace H : Hp C wd5051 ρ (hs) := H
          obtain rfl := Option.some.inj hB4633
          refine x_A fun a hf => ⟨_, rfl, w64 (x4212 + 1), w64 (x4213 + (x4849.length : Int)), rfl, hf.sub ⟨rfl, rfl, rfl, rfl, trivial⟩, H⟩
      · replace hB4633 := itF hb hB4633
        refine C_exit ?_
        refine x_then_exit ?_
        refine x_then_exit ?_
        refine x_block_exit ?_
        obtain rfl := Option.some.inj hB4633
        obtain rfl := hO4634 _ rfl
        refine x_A fun a hf => ⟨x4213, rfl, hf.sub ⟨rfl, trivial⟩, H⟩
  · rintro a wd5052 ⟨x3792, rfl, hf, H⟩
    try dsimp only at hF
    refine XX.at hf ?_
    refine x_then ?_
    refine CW.sub (E' := [(3, .int .i64 x3792)]) ⟨rfl, trivial⟩ ?_
    refine C_seq ?_
    refine R_nd ?_
    refine nq (v := .int .i64 x3792) (Q_move rfl) rfl rfl ?_
    refine nq (v := .int .i64 x3792) (Q_assign rfl) rfl rfl ?_
    refine WL_nil ?_
    refine x_then ?_
    refine CW.sub (E' := [(2, .int .i64 x3792)]) ⟨rfl, trivial⟩ ?_
    refine C_ret ?_
    obtain rfl := Option.some.inj hF
    exact fn_ret (l := [.tmp 2]) (vs := [.int .i64 x3792]) rfl rfl rfl ⟨x3792, rfl, rfl, H⟩
end Go.Proofs.YteiaphkejkgfkaaDoor
