/-
  The walks of the law TrimDead, printed by my program, part 2: each function of the code computes its pure function.
-/
import Derived.Test.YteiaphkejkgfkaaDoorTrimDeada
namespace Go.Proofs.YteiaphkejkgfkaaDoor
open Go Go.Eng
set_option maxRecDepth 100000
theorem c_6 {N : Nat} {C : Cx} {w : World} {ρ : View} {hs : List Hl} {v1 : Value} {v4 : Value} {v7 : Value} {v10 : Value} {x2 : (List (List Int))} {x5 : (List Int)} {x8 : (List Int)} {x11 : (List Int)} (H : Hp C w ρ (hs)) {ge0 : Value} (gl0 : GErr ρ 0 ge0) (gl1 : GTab ρ 1 .u8 tab_math_bits_deBruijn64tab) (r3 : RdSl ρ (eA 256 (eI .i64)) v1 x2) (r6 : RdSl ρ (eI .i64) v4 x5) (r9 : RdSl ρ (eI .i64) v7 x8) (r12 : RdSl ρ (eI .u8) v10 x11) {r : Bool} (hF : F_dofferlaw18_TrimDead N x2 x5 x8 x11 = some r) :
    Calls Tryd.prog 6 [.agg #[v1, v4, v7], v10].toArray w (Rets (fun v w' => (∃ (x1494 : Bool), x1494 = r ∧ .bool x1494 = v ∧ Hp C w' ρ (hs)))) := by
  unfold F_dofferlaw18_TrimDead at hF
  have h0 : Tryd.f6.body = some _ := rfl
  refine fn_calls' Tryd.func6 h0 (n := 120) rfl (by simp) <| C_seq <| R_nd <| ne (E_box H (vs := [v1, v4, v7]) rfl rfl) rfl rfl ?_
  rintro _ wd1496 ⟨b1495, rfl, H⟩
  refine nq (Q_assign rfl) rfl rfl <| WL_nil <| x_then <| C_seq <| C_seq <| R_nd ?_
  obtain ⟨q1497, hq1497, hF⟩ := bnd hF
  refine ne (E_call fn28 rfl (c_28 H gl0 gl1  hq1497)) rfl rfl ?_
  rintro _ wd1500 ⟨x1499, rfl, rfl, H⟩
  try dsimp only at hF
  refine nq (Q_not rfl) rfl rfl <| WL_nil <| x_then ?_
  refine C_cond rfl (fun hb => ?_) (fun hb => ?_)
  · replace hF := itT hb hF
    refine C_seq <| R_nd <| nq (Q_assign rfl) rfl rfl <| WL_nil <| x_then <| C_ret <| x_then_ret ?_
    replace H := H.drop 0 rfl
    dsimp only [List.eraseIdx] at H
    obtain rfl := Option.some.inj hF
    exact fn_ret (l := [.tmp 4]) (vs := [.bool false]) rfl rfl rfl ⟨false, rfl, rfl, H⟩
  · replace hF := itF hb hF
    refine C_skip <| x_then <| C_seq ?_
    obtain ⟨o1506, ho1506, hF⟩ := bnd hF
    refine C_cut (fun a w' => ∃ (x1505 : Bool), x1505 = o1506 ∧ Fr 120 a [(1, v10), (2, .pointer (some ⟨b1495, 0, none⟩)), (31, .bool x1505)] ∧ Hp C w' ρ (Box b1495 [v1, v4, v7] :: hs)) ?_ ?_
    · refine R_nd <| nq (v := .pointer (some ⟨b1495, 0, none⟩)) (Q_fld Tryd.underlying25 rfl ty22 (by decide) rfl rfl) rfl rfl <| nq (v := v1) (Q_ldB (k := 0) (cs := [v1]) H.ok rfl ty22 rfl rfl rfl (fun _ => rfl) rfl) rfl rfl <| nq (Q_len Tryd.underlying22 rfl r3) rfl rfl <| nq (Q_gtr rfl rfl) rfl rfl <| nq (Q_move rfl) rfl rfl ?_
      rcases Bool.eq_false_or_eq_true (decide ((x2.length : Int) > 30)) with hb | hb
      · rw [hb]
        replace ho1506 := itT hb ho1506
        refine gs rfl rfl rfl rfl <| gs rfl rfl rfl rfl <| gs rfl rfl rfl rfl <| nq (Q_pickT rfl rfl) rfl rfl <| nq (Q_move rfl) rfl rfl <| gs rfl rfl rfl rfl <| gs rfl rfl rfl rfl <| gs rfl rfl rfl rfl <| nq (Q_pickT rfl rfl) rfl rfl <| WL_nil ?_
        obtain rfl := Option.some.inj ho1506
        refine x_A fun a hf => ⟨true, rfl, hf.sub ⟨rfl, rfl, rfl, trivial⟩, H⟩
      · rw [hb]
        replace ho1506 := itF hb ho1506
        refine gq (Q_move rfl) rfl rfl rfl <| gq (Q_len Tryd.underlying42 rfl r12) rfl rfl rfl <| gq (Q_gtr rfl rfl) rfl rfl rfl <| nq (Q_pickF rfl rfl) rfl rfl <| nq (Q_move rfl) rfl rfl ?_
        rcases Bool.eq_false_or_eq_true (decide ((x11.length : Int) > 50)) with hb | hb
        · rw [hb]
          replace ho1506 := itT hb ho1506
          refine gs rfl rfl rfl rfl <| gs rfl rfl rfl rfl <| gs rfl rfl rfl rfl <| nq (Q_pickT rfl rfl) rfl rfl <| WL_nil ?_
          obtain rfl := Option.some.inj ho1506
          refine x_A fun a hf => ⟨true, rfl, hf.sub ⟨rfl, rfl, rfl, trivial⟩, H⟩
        · rw [hb]
          replace ho1506 := itF hb ho1506
          refine gq (v := .agg #[v1, v4, v7]) (Q_ldB (k := 0) (cs := [v1, v4, v7]) H.ok rfl ty25 rfl rfl rfl (fun h => nomatch h) rfl) rfl rfl rfl ?_
          obtain ⟨q1507, hq1507, ho1506⟩ := bnd ho1506
          refine ge (E_call fn26 rfl (c_26 H  r3 r6 r9 hq1507)) rfl rfl rfl ?_
          rintro _ wd1510 ⟨x1509, rfl, rfl, H⟩
          try dsimp only at ho1506
          refine gq (Q_not rfl) rfl rfl rfl <| nq (Q_pickF rfl rfl) rfl rfl <| WL_nil ?_
          obtain rfl := Option.some.inj ho1506
          refine x_A fun a hf => ⟨!x1509, rfl, hf.sub ⟨rfl, rfl, rfl, trivial⟩, H⟩
    · rintro a wd1511 ⟨x1505, rfl, hf, H⟩
      try dsimp only at hF
      refine CW.at hf ?_
      refine C_cond rfl (fun hb => ?_) (fun hb => ?_)
      · replace hF := itT hb hF
        refine C_seq <| R_nd <| nq (Q_assign rfl) rfl rfl <| WL_nil <| x_then <| C_ret <| x_then_ret ?_
        replace H := H.drop 0 rfl
        dsimp only [List.eraseIdx] at H
        obtain rfl := Option.some.inj hF
        exact fn_ret (l := [.tmp 4]) (vs := [.bool true]) rfl rfl rfl ⟨true, rfl, rfl, H⟩
      · replace hF := itF hb hF
        refine C_skip <| x_then <| C_seq <| R_nd <| ne (E_makeMap (kI .i64) Value.bool H) rfl rfl ?_
        rintro _ wd1513 ⟨b1512, rfl, H⟩
        refine ne (E_makeMap (kI .i64) Value.bool H) rfl rfl ?_
        rintro _ wd1515 ⟨b1514, rfl, H⟩
        refine nq (Q_assign rfl) rfl rfl <| nq (Q_assign rfl) rfl rfl <| WL_nil <| x_then <| C_seq <| C_seq <| R_nd <| nq (v := .agg #[v1, v4, v7]) (Q_ldB (k := 2) (cs := [v1, v4, v7]) H.ok rfl ty25 rfl rfl rfl (fun h => nomatch h) rfl) rfl rfl ?_
        obtain ⟨q1516, hq1516, hF⟩ := bnd hF
        refine ne (E_call fn31 rfl (c_31 H gl0 gl1 r3 r6 r9 hq1516)) rfl rfl ?_
        rintro _ wd1522 ⟨v1518, c1519, x1520, rfl, rfl, r1521, H⟩
        try dsimp only at hF
        refine nq (Q_lenA (k := 0) H.ok rfl r1521 (by decide) Tryd.underlying23 rfl) rfl rfl <| nq (Q_move rfl) rfl rfl <| WL_nil <| x_then ?_
        obtain ⟨o1558, ho1558, hF⟩ := bnd hF
        refine C_cutQ (fun a w' => ∃ (x1557 : (List (Int × Bool))), x1557 = o1558 ∧ Fr 120 a [(1, v10), (2, .pointer (some ⟨b1495, 0, none⟩)), (5, .map (some b1512)), (6, .map (some b1514))] ∧ Hp C w' ρ (Box b1495 [v1, v4, v7] :: Mp (kI .i64) Value.bool b1512 x1557 :: Mp (kI .i64) Value.bool b1514 ([] : List (Int × Bool)) :: hs)) ?_ ?_
        · refine C_block ?_
          replace H := H.front 1 rfl
          dsimp only [List.eraseIdx] at H
          replace H := H.front 2 rfl
          dsimp only [List.eraseIdx] at H
          replace H := H.front 2 rfl
          dsimp only [List.eraseIdx] at H
          replace H := H.front 3 rfl
          dsimp only [List.eraseIdx] at H
          refine C_iter (f := fun s => F_dofferlaw18_TrimDead_l0 N x1520 s.1 s.2) ho1558 (fun s a w' => ∃ (x1569 : Int) (x1570 : (List (Int × Bool))), (x1569, x1570) = s ∧ Fr 120 a [(1, v10), (2, .pointer (some ⟨b1495, 0, none⟩)), (5, .map (some b1512)), (6, .map (some b1514)), (35, v1518), (36, .int .i64 (x1520.length : Int)), (37, .int .i64 x1569)] ∧ Hp C w' ρ (Box b1495 [v1, v4, v7] :: Arr v1518 1 c1519 :: Mp (kI .i64) Value.bool b1512 x1570 :: Mp (kI .i64) Value.bool b1514 ([] : List (Int × Bool)) :: hs)) ?_ ?_
          · exact fun a hf => ⟨0, ([] : List (Int × Bool)), rfl, hf.sub ⟨rfl, rfl, rfl, rfl, rfl, rfl, rfl, trivial⟩, H⟩
          · rintro s o1581 a wd1584 ⟨x1569, x1570, rfl, hf, H⟩ hB1582 hO1583
            replace hB1582 : F_dofferlaw18_TrimDead_l0 N x1520 x1569 x1570 = some o1581 := hB1582
            unfold F_dofferlaw18_TrimDead_l0 at hB1582
            refine CW.at hf <| C_seq <| R_nd <| nq (Q_lss rfl rfl) rfl rfl <| WL_nil <| x_then <| C_seq ?_
            refine C_cond rfl (fun hb => ?_) (fun hb => ?_)
            · replace hB1582 := itT hb hB1582
              refine C_skip <| x_then <| C_seq <| C_block <| C_seq <| R_nd ?_
              obtain ⟨x1585, hx1585, hB1582⟩ := bnd hB1582
              obtain ⟨b1586, o1587, hi1591, hc1589, ha1590⟩ := arr_at (hs := [Arr v1518 1 c1519]) (k := 0) (by decide) (H.okS (by simp)) rfl r1521 hx1585
              refine nq (Q_idx hi1591 Tryd.underlying23 ty3 rfl rfl) rfl rfl <| nq (v := .int .i64 x1585) (Q_ld (show cellsAt _ _ _ [.int .i64 x1585] from (show _ = [_] from hc1589) ▸ (ha1590 _ (Ok.subS (by simp) H.ok))) ty3 rfl (fun _ => rfl) rfl rfl) rfl rfl <| nq (Q_assign rfl) rfl rfl <| WL_nil <| x_then <| R_nd <| nq (Q_move rfl) rfl rfl <| nq (Q_move rfl) rfl rfl <| ne (E_mset (b := true) (k := 2) H rfl Tryd.underlying48 (kOk_I Tryd.underlying3) trivial rfl rfl rfl) rfl rfl ?_
              rintro _ wd1592 H
              dsimp only [List.set] at H
              refine WL_nil <| x_block <| x_then <| R_nd <| nq (Q_add rfl rfl) rfl rfl <| nq (Q_move rfl) rfl rfl <| WL_nil ?_
              replace H := H.front 3 rfl
              dsimp only [List.eraseIdx] at H
              replace H := H.front 3 rfl
              dsimp only [List.eraseIdx] at H
              replace H := H.front 3 rfl
              dsimp only [List.eraseIdx] at H
              replace H := H.front 3 rfl
              dsimp only [List.eraseIdx] at H
              obtain rfl := Option.some.inj hB1582
              refine x_A fun a hf => ⟨_, rfl, w64 (x1569 + 1), (mset x1570 x1585 true), rfl, hf.sub ⟨rfl, rfl, rfl, rfl, rfl, rfl, rfl, trivial⟩, H⟩
            · replace hB1582 := itF hb hB1582
              refine C_exit <| x_then_exit <| x_then_exit <| x_block_exit ?_
              replace H := H.front 3 rfl
              dsimp only [List.eraseIdx] at H
              replace H := H.front 3 rfl
              dsimp only [List.eraseIdx] at H
              replace H := H.front 2 rfl
              dsimp only [List.eraseIdx] at H
              replace H := H.drop 3 rfl
              dsimp only [List.eraseIdx] at H
              obtain rfl := Option.some.inj hB1582
              obtain rfl := hO1583 _ rfl
              refine x_A fun a hf => ⟨x1570, rfl, hf.sub ⟨rfl, rfl, rfl, rfl, trivial⟩, H⟩
        · rintro a wd1593 ⟨x1557, rfl, hf, H⟩
          try dsimp only at hF
          refine XX.at hf <| x_then <| C_seq <| C_seq <| R_nd <| nq (v := .agg #[v1, v4, v7]) (Q_ldB (k := 0) (cs := [v1, v4, v7]) H.ok rfl ty25 rfl rfl rfl (fun h => nomatch h) rfl) rfl rfl ?_
          obtain ⟨q1594, hq1594, hF⟩ := bnd hF
          refine ne (E_call fn30 rfl (c_30 H gl0 gl1 r3 r6 r9 hq1594)) rfl rfl ?_
          rintro _ wd1600 ⟨v1596, c1597, x1598, rfl, rfl, r1599, H⟩
          try dsimp only at hF
          refine nq (Q_lenA (k := 0) H.ok rfl r1599 (by decide) Tryd.underlying23 rfl) rfl rfl <| nq (Q_move rfl) rfl rfl <| WL_nil <| x_then ?_
          obtain ⟨o1636, ho1636, hF⟩ := bnd hF
          refine C_cutQ (fun a w' => ∃ (x1635 : (List (Int × Bool))), x1635 = o1636 ∧ Fr 120 a [(1, v10), (2, .pointer (some ⟨b1495, 0, none⟩)), (5, .map (some b1512)), (6, .map (some b1514))] ∧ Hp C w' ρ (Box b1495 [v1, v4, v7] :: Mp (kI .i64) Value.bool b1512 x1557 :: Mp (kI .i64) Value.bool b1514 x1635 :: hs)) ?_ ?_
          · refine C_block ?_
            replace H := H.front 3 rfl
            dsimp only [List.eraseIdx] at H
            replace H := H.front 3 rfl
            dsimp only [List.eraseIdx] at H
            replace H := H.front 2 rfl
            dsimp only [List.eraseIdx] at H
            replace H := H.front 3 rfl
            dsimp only [List.eraseIdx] at H
            refine C_iter (f := fun s => F_dofferlaw18_TrimDead_l1 N x1598 s.1 s.2) ho1636 (fun s a w' => ∃ (x1647 : Int) (x1648 : (List (Int × Bool))), (x1647, x1648) = s ∧ Fr 120 a [(1, v10), (2, .pointer (some ⟨b1495, 0, none⟩)), (5, .map (some b1512)), (6, .map (some b1514)), (45, v1596), (46, .int .i64 (x1598.length : Int)), (47, .int .i64 x1647)] ∧ Hp C w' ρ (Box b1495 [v1, v4, v7] :: Arr v1596 1 c1597 :: Mp (kI .i64) Value.bool b1512 x1557 :: Mp (kI .i64) Value.bool b1514 x1648 :: hs)) ?_ ?_
            · exact fun a hf => ⟨0, ([] : List (Int × Bool)), rfl, hf.sub ⟨rfl, rfl, rfl, rfl, rfl, rfl, rfl, trivial⟩, H⟩
            · rintro s o1659 a wd1662 ⟨x1647, x1648, rfl, hf, H⟩ hB1660 hO1661
              replace hB1660 : F_dofferlaw18_TrimDead_l1 N x1598 x1647 x1648 = some o1659 := hB1660
              unfold F_dofferlaw18_TrimDead_l1 at hB1660
              refine CW.at hf <| C_seq <| R_nd <| nq (Q_lss rfl rfl) rfl rfl <| WL_nil <| x_then <| C_seq ?_
              refine C_cond rfl (fun hb => ?_) (fun hb => ?_)
              · replace hB1660 := itT hb hB1660
                refine C_skip <| x_then <| C_seq <| C_block <| C_seq <| R_nd ?_
                obtain ⟨x1663, hx1663, hB1660⟩ := bnd hB1660
                obtain ⟨b1664, o1665, hi1669, hc1667, ha1668⟩ := arr_at (hs := [Arr v1596 1 c1597]) (k := 0) (by decide) (H.okS (by simp)) rfl r1599 hx1663
                refine nq (Q_idx hi1669 Tryd.underlying23 ty3 rfl rfl) rfl rfl <| nq (v := .int .i64 x1663) (Q_ld (show cellsAt _ _ _ [.int .i64 x1663] from (show _ = [_] from hc1667) ▸ (ha1668 _ (Ok.subS (by simp) H.ok))) ty3 rfl (fun _ => rfl) rfl rfl) rfl rfl <| nq (Q_assign rfl) rfl rfl <| WL_nil <| x_then <| R_nd <| nq (Q_move rfl) rfl rfl <| nq (Q_move rfl) rfl rfl <| ne (E_mset (b := true) (k := 3) H rfl Tryd.underlying48 (kOk_I Tryd.underlying3) trivial rfl rfl rfl) rfl rfl ?_
                rintro _ wd1670 H
                dsimp only [List.set] at H
                refine WL_nil <| x_block <| x_then <| R_nd <| nq (Q_add rfl rfl) rfl rfl <| nq (Q_move rfl) rfl rfl <| WL_nil ?_
                replace H := H.front 3 rfl
                dsimp only [List.eraseIdx] at H
                replace H := H.front 3 rfl
                dsimp only [List.eraseIdx] at H
                replace H := H.front 3 rfl
                dsimp only [List.eraseIdx] at H
                replace H := H.front 3 rfl
                dsimp only [List.eraseIdx] at H
                obtain rfl := Option.some.inj hB1660
                refine x_A fun a hf => ⟨_, rfl, w64 (x1647 + 1), (mset x1648 x1663 true), rfl, hf.sub ⟨rfl, rfl, rfl, rfl, rfl, rfl, rfl, trivial⟩, H⟩
              · replace hB1660 := itF hb hB1660
                refine C_exit <| x_then_exit <| x_then_exit <| x_block_exit ?_
                replace H := H.front 3 rfl
                dsimp only [List.eraseIdx] at H
                replace H := H.front 3 rfl
                dsimp only [List.eraseIdx] at H
                replace H := H.front 2 rfl
                dsimp only [List.eraseIdx] at H
                replace H := H.drop 3 rfl
                dsimp only [List.eraseIdx] at H
                obtain rfl := Option.some.inj hB1660
                obtain rfl := hO1661 _ rfl
                refine x_A fun a hf => ⟨x1648, rfl, hf.sub ⟨rfl, rfl, rfl, rfl, trivial⟩, H⟩
          · rintro a wd1671 ⟨x1635, rfl, hf, H⟩
            try dsimp only at hF
            refine XX.at hf <| x_then <| C_seq <| C_seq <| R_nd <| nq (v := .pointer (some ⟨b1495, 0, none⟩)) (Q_fld Tryd.underlying25 rfl ty22 (by decide) rfl rfl) rfl rfl <| nq (v := v1) (Q_ldB (k := 0) (cs := [v1]) H.ok rfl ty22 rfl rfl rfl (fun _ => rfl) rfl) rfl rfl <| nq (Q_len Tryd.underlying22 rfl r3) rfl rfl <| nq (Q_move rfl) rfl rfl <| WL_nil <| x_then ?_
            obtain ⟨o2303, ho2303, hF⟩ := bnd hF
            refine C_cutQ (fun a w' => .inl () = o2303 ∧ Fr 120 a [(2, .pointer (some ⟨b1495, 0, none⟩)), (6, .map (some b1514))] ∧ Hp C w' ρ (Box b1495 [v1, v4, v7] :: Mp (kI .i64) Value.bool b1514 x1635 :: hs)) ?_ ?_
            · refine C_block ?_
              replace H := H.front 2 rfl
              dsimp only [List.eraseIdx] at H
              replace H := H.front 2 rfl
              dsimp only [List.eraseIdx] at H
              replace H := H.front 2 rfl
              dsimp only [List.eraseIdx] at H
              refine C_iter (f := fun s => F_dofferlaw18_TrimDead_l2 N x2 x5 x8 x11 x1557 x1635 s) ho2303 (fun s a w' => ∃ (x2513 : Int), x2513 = s ∧ Fr 120 a [(1, v10), (2, .pointer (some ⟨b1495, 0, none⟩)), (5, .map (some b1512)), (6, .map (some b1514)), (56, .int .i64 (x2.length : Int)), (57, .int .i64 x2513)] ∧ Hp C w' ρ (Box b1495 [v1, v4, v7] :: Mp (kI .i64) Value.bool b1512 x1557 :: Mp (kI .i64) Value.bool b1514 x1635 :: hs)) ?_ ?_
              · exact fun a hf => ⟨0, rfl, hf.sub ⟨rfl, rfl, rfl, rfl, rfl, rfl, trivial⟩, H⟩
              · rintro s o2723 a wd2726 ⟨x2513, rfl, hf, H⟩ hB2724 hO2725
                replace hB2724 : F_dofferlaw18_TrimDead_l2 N x2 x5 x8 x11 x1557 x1635 x2513 = some o2723 := hB2724
                unfold F_dofferlaw18_TrimDead_l2 at hB2724
                refine CW.at hf <| C_seq <| R_nd <| nq (Q_lss rfl rfl) rfl rfl <| WL_nil <| x_then <| C_seq ?_
                refine C_cond rfl (fun hb => ?_) (fun hb => ?_)
                · replace hB2724 := itT hb hB2724
                  refine C_skip <| x_then <| C_seq <| C_block <| C_seq <| R_nd <| nq (Q_move rfl) rfl rfl <| nq (Q_assign rfl) rfl rfl <| WL_nil <| x_then <| C_seq <| R_nd <| nq (Q_move rfl) rfl rfl <| nq (Q_assign rfl) rfl rfl ?_
                  refine WL_nil <| x_then <| C_seq <| R_nd <| nq (Q_move rfl) rfl rfl <| nq (Q_len Tryd.underlying42 rfl r12) rfl rfl <| nq (Q_move rfl) rfl rfl <| WL_nil <| x_then ?_
                  obtain ⟨o2830, ho2830, hB2724⟩ := bnd hB2724
                  refine C_cutQ (fun a w' => .inl () = o2830 ∧ Fr 120 a [(1, v10), (2, .pointer (some ⟨b1495, 0, none⟩)), (5, .map (some b1512)), (6, .map (some b1514)), (56, .int .i64 (x2.length : Int)), (57, .int .i64 x2513)] ∧ Hp C w' ρ (Box b1495 [v1, v4, v7] :: Mp (kI .i64) Value.bool b1512 x1557 :: Mp (kI .i64) Value.bool b1514 x1635 :: hs)) ?_ ?_
                  · refine C_block ?_
                    replace H := H.front 2 rfl
                    dsimp only [List.eraseIdx] at H
                    replace H := H.front 2 rfl
                    dsimp only [List.eraseIdx] at H
                    replace H := H.front 2 rfl
                    dsimp only [List.eraseIdx] at H
                    refine C_iter (f := fun s => F_dofferlaw18_TrimDead_l3 N x2 x5 x8 x11 x1557 x1635 x2513 s.1 s.2) ho2830 (fun s a w' => ∃ (x2864 : Int) (x2865 : Int), (x2864, x2865) = s ∧ Fr 120 a [(1, v10), (2, .pointer (some ⟨b1495, 0, none⟩)), (5, .map (some b1512)), (6, .map (some b1514)), (11, .int .i64 x2513), (12, .int .i64 x2864), (56, .int .i64 (x2.length : Int)), (57, .int .i64 x2513), (61, v10), (62, .int .i64 (x11.length : Int)), (63, .int .i64 x2865)] ∧ Hp C w' ρ (Box b1495 [v1, v4, v7] :: Mp (kI .i64) Value.bool b1512 x1557 :: Mp (kI .i64) Value.bool b1514 x1635 :: hs)) ?_ ?_
                    · exact fun a hf => ⟨x2513, 0, rfl, hf.sub ⟨rfl, rfl, rfl, rfl, rfl, rfl, rfl, rfl, rfl, rfl, rfl, trivial⟩, H⟩
                    · rintro s o2899 a wd2902 ⟨x2864, x2865, rfl, hf, H⟩ hB2900 hO2901
                      replace hB2900 : F_dofferlaw18_TrimDead_l3 N x2 x5 x8 x11 x1557 x1635 x2513 x2864 x2865 = some o2899 := hB2900
                      unfold F_dofferlaw18_TrimDead_l3 at hB2900
                      refine CW.at hf <| C_seq <| R_nd <| nq (Q_lss rfl rfl) rfl rfl <| WL_nil <| x_then <| C_seq ?_
                      refine C_cond rfl (fun hb => ?_) (fun hb => ?_)
                      · replace hB2900 := itT hb hB2900
                        refine C_skip <| x_then <| C_seq <| C_block <| C_seq <| R_nd ?_
                        obtain ⟨x2903, hx2903, hB2900⟩ := bnd hB2900
                        obtain ⟨b2904, o2905, c2906, hc2907, ha2908, hi2909⟩ := idxR r12 hx2903
                        refine nq (Q_idx hi2909 Tryd.underlying42 ty5 rfl rfl) rfl rfl <| nq (v := .int .u8 x2903) (Q_ld (show cellsAt _ _ _ [.int .u8 x2903] from (show _ = [_] from hc2907) ▸ (ha2908.up H.ok.view)) ty5 rfl (fun _ => rfl) rfl rfl) rfl rfl <| nq (Q_assign rfl) rfl rfl <| WL_nil <| x_then <| C_seq <| R_nd <| nq (v := .agg #[v1, v4, v7]) (Q_ldB (k := 0) (cs := [v1, v4, v7]) H.ok rfl ty25 rfl rfl rfl (fun h => nomatch h) rfl) rfl rfl <| nq (Q_move rfl) rfl rfl <| nq (Q_move rfl) rfl rfl ?_
                        obtain ⟨q2910, hq2910, hB2900⟩ := bnd hB2900
                        refine ne (E_call fn37 rfl (c_37 H  r3 r6 r9 hq2910)) rfl rfl ?_
                        rintro _ wd2913 ⟨x2912, rfl, rfl, H⟩
                        try dsimp only at hB2900
                        refine nq (Q_assign rfl) rfl rfl <| WL_nil <| x_then <| C_seq ?_
                        obtain ⟨o2915, ho2915, hB2900⟩ := bnd hB2900
                        refine C_cut (fun a w' => ∃ (x2914 : Bool), x2914 = o2915 ∧ Fr 120 a [(1, v10), (2, .pointer (some ⟨b1495, 0, none⟩)), (5, .map (some b1512)), (6, .map (some b1514)), (11, .int .i64 x2513), (12, .int .i64 x2912), (56, .int .i64 (x2.length : Int)), (57, .int .i64 x2513), (61, v10), (62, .int .i64 (x11.length : Int)), (63, .int .i64 x2865), (79, .bool x2914)] ∧ Hp C w' ρ (Box b1495 [v1, v4, v7] :: Mp (kI .i64) Value.bool b1512 x1557 :: Mp (kI .i64) Value.bool b1514 x1635 :: hs)) ?_ ?_
                        · refine R_nd <| nq (Q_move rfl) rfl rfl <| nq (Q_lss rfl rfl) rfl rfl <| nq (Q_move rfl) rfl rfl ?_
                          rcases Bool.eq_false_or_eq_true (decide (x2912 < 0)) with hb | hb
                          · rw [hb]
                            replace ho2915 := itT hb ho2915
                            refine gs rfl rfl rfl rfl <| gs rfl rfl rfl rfl <| gs rfl rfl rfl rfl <| gs rfl rfl rfl rfl <| gs rfl rfl rfl rfl <| nq (Q_pickT rfl rfl) rfl rfl <| WL_nil ?_
                            replace H := H.front 2 rfl
                            dsimp only [List.eraseIdx] at H
                            replace H := H.front 2 rfl
                            dsimp only [List.eraseIdx] at H
                            replace H := H.front 2 rfl
                            dsimp only [List.eraseIdx] at H
                            obtain rfl := Option.some.inj ho2915
                            refine x_A fun a hf => ⟨true, rfl, hf.sub ⟨rfl, rfl, rfl, rfl, rfl, rfl, rfl, rfl, rfl, rfl, rfl, rfl, trivial⟩, H⟩
                          · rw [hb]
                            replace ho2915 := itF hb ho2915
                            refine gq (Q_move rfl) rfl rfl rfl <| gq (v := .pointer (some ⟨b1495, 0, none⟩)) (Q_fld Tryd.underlying25 rfl ty22 (by decide) rfl rfl) rfl rfl rfl <| gq (v := v1) (Q_ldB (k := 0) (cs := [v1]) H.ok rfl ty22 rfl rfl rfl (fun _ => rfl) rfl) rfl rfl rfl <| gq (Q_len Tryd.underlying22 rfl r3) rfl rfl rfl <| gq (Q_geq rfl rfl) rfl rfl rfl <| nq (Q_pickF rfl rfl) rfl rfl <| WL_nil ?_
                            replace H := H.front 2 rfl
                            dsimp only [List.eraseIdx] at H
                            replace H := H.front 2 rfl
                            dsimp only [List.eraseIdx] at H
                            replace H := H.front 2 rfl
                            dsimp only [List.eraseIdx] at H
                            obtain rfl := Option.some.inj ho2915
                            refine x_A fun a hf => ⟨decide (x2912 ≥ (x2.length : Int)), rfl, hf.sub ⟨rfl, rfl, rfl, rfl, rfl, rfl, rfl, rfl, rfl, rfl, rfl, rfl, trivial⟩, H⟩
                        · rintro a wd2916 ⟨x2914, rfl, hf, H⟩
                          try dsimp only at hB2900
                          refine CW.at hf ?_
                          refine C_cond rfl (fun hb => ?_) (fun hb => ?_)
                          · replace hB2900 := itT hb hB2900
                            refine C_seq <| R_nd <| nq (Q_assign rfl) rfl rfl <| WL_nil <| x_then <| C_ret <| x_then_ret <| x_block_ret <| x_then_ret <| x_then_ret <| x_block_ret <| x_then_ret <| x_block_ret <| x_then_ret ?_
                            refine x_then_ret <| x_block_ret <| x_then_ret <| x_then_ret ?_
                            replace H := H.drop 0 rfl
                            dsimp only [List.eraseIdx] at H
                            replace H := H.drop 0 rfl
                            dsimp only [List.eraseIdx] at H
                            replace H := H.drop 0 rfl
                            dsimp only [List.eraseIdx] at H
                            obtain rfl := Option.some.inj hB2900
                            obtain rfl := hO2901 _ rfl
                            obtain rfl := Option.some.inj (show some _ = some _ from hB2724)
                            obtain rfl := hO2725 _ rfl
                            obtain rfl := Option.some.inj (show some _ = some _ from hF)
                            exact fn_ret (l := [.tmp 4]) (vs := [.bool false]) rfl rfl rfl ⟨false, rfl, rfl, H⟩
                          · replace hB2900 := itF hb hB2900
                            refine C_skip <| x_then ?_
                            obtain ⟨o2925, ho2925, hB2900⟩ := bnd hB2900
                            refine C_cut (fun a w' => ∃ (x2924 : Bool), x2924 = o2925 ∧ Fr 120 a [(1, v10), (2, .pointer (some ⟨b1495, 0, none⟩)), (5, .map (some b1512)), (6, .map (some b1514)), (11, .int .i64 x2513), (12, .int .i64 x2912), (56, .int .i64 (x2.length : Int)), (57, .int .i64 x2513), (61, v10), (62, .int .i64 (x11.length : Int)), (63, .int .i64 x2865), (102, .bool x2924)] ∧ Hp C w' ρ (Box b1495 [v1, v4, v7] :: Mp (kI .i64) Value.bool b1512 x1557 :: Mp (kI .i64) Value.bool b1514 x1635 :: hs)) ?_ ?_
                            · refine R_nd <| nq (Q_move rfl) rfl rfl <| nq (Q_move rfl) rfl rfl <| nq (v := .bool ((mget x1557 x2513).getD false)) (Q_look1 (zp := false) (k := 1) H.ok rfl Tryd.underlying48 (kOk_I Tryd.underlying3) trivial ty4 rfl rfl rfl) rfl rfl <| nq (Q_not rfl) rfl rfl <| nq (Q_move rfl) rfl rfl ?_
                              rcases Bool.eq_false_or_eq_true (!((mget x1557 x2513).getD false)) with hb | hb
                              · rw [hb]
                                replace ho2925 := itT hb ho2925
                                refine gq (v := .pointer (some ⟨b1495, 1, none⟩)) (Q_fld Tryd.underlying25 rfl ty23 (by decide) rfl rfl) rfl rfl rfl <| gq (v := v4) (Q_ldB (k := 0) (cs := [v4]) H.ok rfl ty23 rfl rfl rfl (fun _ => rfl) rfl) rfl rfl rfl <| gq (Q_move rfl) rfl rfl rfl ?_
                                obtain ⟨x2926, hx2926, ho2925⟩ := bnd ho2925
                                obtain ⟨b2927, o2928, c2929, hc2930, ha2931, hi2932⟩ := idxR r6 hx2926
                                refine gq (Q_idx hi2932 Tryd.underlying23 ty3 rfl rfl) rfl rfl rfl <| gq (v := .int .i64 x2926) (Q_ld (show cellsAt _ _ _ [.int .i64 x2926] from (show _ = [_] from hc2930) ▸ (ha2931.up H.ok.view)) ty3 rfl (fun _ => rfl) rfl rfl) rfl rfl rfl <| gq (Q_geq rfl rfl) rfl rfl rfl <| nq (Q_pickT rfl rfl) rfl rfl <| nq (Q_move rfl) rfl rfl ?_
                                rcases Bool.eq_false_or_eq_true (decide (x2926 ≥ 0)) with hb | hb
                                · rw [hb]
                                  replace ho2925 := itT hb ho2925
                                  refine gs rfl rfl rfl rfl <| gs rfl rfl rfl rfl <| gs rfl rfl rfl rfl <| gs rfl rfl rfl rfl <| gsu rfl ⟨_, _, rfl, rfl, rfl⟩ rfl <| gsu rfl ⟨_, _, rfl, rfl, rfl⟩ rfl <| gsu rfl ⟨_, _, rfl, rfl, rfl⟩ rfl <| gsu rfl ⟨_, _, rfl, rfl, rfl⟩ rfl <| gs rfl rfl rfl rfl <| nq (Q_pickT rfl rfl) rfl rfl <| WL_nil ?_
                                  replace H := H.front 2 rfl
                                  dsimp only [List.eraseIdx] at H
                                  replace H := H.front 2 rfl
                                  dsimp only [List.eraseIdx] at H
                                  replace H := H.front 2 rfl
                                  dsimp only [List.eraseIdx] at H
                                  obtain rfl := Option.some.inj ho2925
                                  refine x_A fun a hf => ⟨true, rfl, hf.sub ⟨rfl, rfl, rfl, rfl, rfl, rfl, rfl, rfl, rfl, rfl, rfl, rfl, trivial⟩, H⟩
                                · rw [hb]
                                  replace ho2925 := itF hb ho2925
                                  refine gq (Q_move rfl) rfl rfl rfl <| gq (Q_move rfl) rfl rfl rfl <| gq (v := .bool ((mget x1635 x2513).getD false)) (Q_look1 (zp := false) (k := 2) H.ok rfl Tryd.underlying48 (kOk_I Tryd.underlying3) trivial ty4 rfl rfl rfl) rfl rfl rfl <| gq (Q_move rfl) rfl rfl rfl ?_
                                  rcases Bool.eq_false_or_eq_true ((mget x1635 x2513).getD false) with hb | hb
                                  · rw [hb]
                                    replace ho2925 := itT hb ho2925
                                    refine gq (Q_move rfl) rfl rfl rfl <| gq (Q_move rfl) rfl rfl rfl <| gq (v := .bool ((mget x1635 x2912).getD false)) (Q_look1 (zp := false) (k := 2) H.ok rfl Tryd.underlying48 (kOk_I Tryd.underlying3) trivial ty4 rfl rfl rfl) rfl rfl rfl <| gq (Q_not rfl) rfl rfl rfl <| gq (Q_pickT rfl rfl) rfl rfl rfl <| nq (Q_pickF rfl rfl) rfl rfl <| WL_nil ?_
                                    replace H := H.front 2 rfl
                                    dsimp only [List.eraseIdx] at H
                                    replace H := H.front 2 rfl
                                    dsimp only [List.eraseIdx] at H
                                    replace H := H.front 2 rfl
                                    dsimp only [List.eraseIdx] at H
                                    obtain rfl := Option.some.inj ho2925
                                    refine x_A fun a hf => ⟨!((mget x1635 x2912).getD false), rfl, hf.sub ⟨rfl, rfl, rfl, rfl, rfl, rfl, rfl, rfl, rfl, rfl, rfl, rfl, trivial⟩, H⟩
                                  · rw [hb]
                                    replace ho2925 := itF hb ho2925
                                    refine gs rfl rfl rfl rfl <| gs rfl rfl rfl rfl <| gs rfl rfl rfl rfl <| gs rfl rfl rfl rfl <| gq (Q_pickF rfl rfl) rfl rfl rfl <| nq (Q_pickF rfl rfl) rfl rfl <| WL_nil ?_
                                    replace H := H.front 2 rfl
                                    dsimp only [List.eraseIdx] at H
                                    replace H := H.front 2 rfl
                                    dsimp only [List.eraseIdx] at H
                                    replace H := H.front 2 rfl
                                    dsimp only [List.eraseIdx] at H
                                    obtain rfl := Option.some.inj ho2925
                                    refine x_A fun a hf => ⟨false, rfl, hf.sub ⟨rfl, rfl, rfl, rfl, rfl, rfl, rfl, rfl, rfl, rfl, rfl, rfl, trivial⟩, H⟩
                              · rw [hb]
                                replace ho2925 := itF hb ho2925
                                refine gs rfl rfl rfl rfl <| gs rfl rfl rfl rfl <| gs rfl rfl rfl rfl <| gs rfl rfl rfl rfl <| gs rfl rfl rfl rfl <| gs rfl rfl rfl rfl <| nq (Q_pickF rfl rfl) rfl rfl <| nq (Q_move rfl) rfl rfl <| gq (Q_move rfl) rfl rfl rfl <| gq (Q_move rfl) rfl rfl rfl <| gq (v := .bool ((mget x1635 x2513).getD false)) (Q_look1 (zp := false) (k := 2) H.ok rfl Tryd.underlying48 (kOk_I Tryd.underlying3) trivial ty4 rfl rfl rfl) rfl rfl rfl <| gq (Q_move rfl) rfl rfl rfl ?_
                                rcases Bool.eq_false_or_eq_true ((mget x1635 x2513).getD false) with hb | hb
                                · rw [hb]
                                  replace ho2925 := itT hb ho2925
                                  refine gq (Q_move rfl) rfl rfl rfl <| gq (Q_move rfl) rfl rfl rfl <| gq (v := .bool ((mget x1635 x2912).getD false)) (Q_look1 (zp := false) (k := 2) H.ok rfl Tryd.underlying48 (kOk_I Tryd.underlying3) trivial ty4 rfl rfl rfl) rfl rfl rfl <| gq (Q_not rfl) rfl rfl rfl <| gq (Q_pickT rfl rfl) rfl rfl rfl <| nq (Q_pickF rfl rfl) rfl rfl <| WL_nil ?_
                                  replace H := H.front 2 rfl
                                  dsimp only [List.eraseIdx] at H
                                  replace H := H.front 2 rfl
                                  dsimp only [List.eraseIdx] at H
                                  replace H := H.front 2 rfl
                                  dsimp only [List.eraseIdx] at H
                                  obtain rfl := Option.some.inj ho2925
                                  refine x_A fun a hf => ⟨!((mget x1635 x2912).getD false), rfl, hf.sub ⟨rfl, rfl, rfl, rfl, rfl, rfl, rfl, rfl, rfl, rfl, rfl, rfl, trivial⟩, H⟩
                                · rw [hb]
                                  replace ho2925 := itF hb ho2925
                                  refine gs rfl rfl rfl rfl <| gs rfl rfl rfl rfl <| gs rfl rfl rfl rfl <| gs rfl rfl rfl rfl <| gq (Q_pickF rfl rfl) rfl rfl rfl <| nq (Q_pickF rfl rfl) rfl rfl <| WL_nil ?_
                                  replace H := H.front 2 rfl
                                  dsimp only [List.eraseIdx] at H
                                  replace H := H.front 2 rfl
                                  dsimp only [List.eraseIdx] at H
                                  replace H := H.front 2 rfl
                                  dsimp only [List.eraseIdx] at H
                                  obtain rfl := Option.some.inj ho2925
                                  refine x_A fun a hf => ⟨false, rfl, hf.sub ⟨rfl, rfl, rfl, rfl, rfl, rfl, rfl, rfl, rfl, rfl, rfl, rfl, trivial⟩, H⟩
                            · rintro a wd2933 ⟨x2924, rfl, hf, H⟩
                              try dsimp only at hB2900
                              refine CW.at hf ?_
                              refine C_cond rfl (fun hb => ?_) (fun hb => ?_)
                              · replace hB2900 := itT hb hB2900
                                refine C_seq <| R_nd <| nq (Q_assign rfl) rfl rfl <| WL_nil <| x_then <| C_ret <| x_block_ret <| x_then_ret <| x_then_ret <| x_block_ret <| x_then_ret <| x_block_ret <| x_then_ret <| x_then_ret ?_
                                refine x_block_ret <| x_then_ret <| x_then_ret ?_
                                replace H := H.drop 0 rfl
                                dsimp only [List.eraseIdx] at H
                                replace H := H.drop 0 rfl
                                dsimp only [List.eraseIdx] at H
                                replace H := H.drop 0 rfl
                                dsimp only [List.eraseIdx] at H
                                obtain rfl := Option.some.inj hB2900
                                obtain rfl := hO2901 _ rfl
                                obtain rfl := Option.some.inj (show some _ = some _ from hB2724)
                                obtain rfl := hO2725 _ rfl
                                obtain rfl := Option.some.inj (show some _ = some _ from hF)
                                exact fn_ret (l := [.tmp 4]) (vs := [.bool false]) rfl rfl rfl ⟨false, rfl, rfl, H⟩
                              · replace hB2900 := itF hb hB2900
                                refine C_skip <| x_block <| x_then <| R_nd <| nq (Q_add rfl rfl) rfl rfl <| nq (Q_move rfl) rfl rfl <| WL_nil ?_
                                replace H := H.front 2 rfl
                                dsimp only [List.eraseIdx] at H
                                replace H := H.front 2 rfl
                                dsimp only [List.eraseIdx] at H
                                replace H := H.front 2 rfl
                                dsimp only [List.eraseIdx] at H
                                obtain rfl := Option.some.inj hB2900
                                refine x_A fun a hf => ⟨_, rfl, x2912, w64 (x2865 + 1), rfl, hf.sub ⟨rfl, rfl, rfl, rfl, rfl, rfl, rfl, rfl, rfl, rfl, rfl, trivial⟩, H⟩
                      · replace hB2900 := itF hb hB2900
                        refine C_exit <| x_then_exit <| x_then_exit <| x_block_exit ?_
                        replace H := H.front 2 rfl
                        dsimp only [List.eraseIdx] at H
                        replace H := H.front 2 rfl
                        dsimp only [List.eraseIdx] at H
                        replace H := H.front 2 rfl
                        dsimp only [List.eraseIdx] at H
                        obtain rfl := Option.some.inj hB2900
                        obtain rfl := hO2901 _ rfl
                        refine x_A fun a hf => ⟨rfl, hf.sub ⟨rfl, rfl, rfl, rfl, rfl, rfl, trivial⟩, H⟩
                  · rintro a wd2934 ⟨rfl, hf, H⟩
                    try dsimp only at hB2724
                    refine XX.at hf <| x_block <| x_then <| R_nd <| nq (Q_add rfl rfl) rfl rfl <| nq (Q_move rfl) rfl rfl <| WL_nil ?_
                    replace H := H.front 2 rfl
                    dsimp only [List.eraseIdx] at H
                    replace H := H.front 2 rfl
                    dsimp only [List.eraseIdx] at H
                    replace H := H.front 2 rfl
                    dsimp only [List.eraseIdx] at H
                    obtain rfl := Option.some.inj hB2724
                    refine x_A fun a hf => ⟨_, rfl, w64 (x2513 + 1), rfl, hf.sub ⟨rfl, rfl, rfl, rfl, rfl, rfl, trivial⟩, H⟩
                · replace hB2724 := itF hb hB2724
                  refine C_exit <| x_then_exit <| x_then_exit <| x_block_exit ?_
                  replace H := H.front 2 rfl
                  dsimp only [List.eraseIdx] at H
                  replace H := H.front 1 rfl
                  dsimp only [List.eraseIdx] at H
                  replace H := H.drop 2 rfl
                  dsimp only [List.eraseIdx] at H
                  obtain rfl := Option.some.inj hB2724
                  obtain rfl := hO2725 _ rfl
                  refine x_A fun a hf => ⟨rfl, hf.sub ⟨rfl, rfl, trivial⟩, H⟩
            · rintro a wd2935 ⟨rfl, hf, H⟩
              try dsimp only at hF
              refine XX.at hf <| x_then <| C_seq <| C_seq <| R_nd <| nq (v := .pointer (some ⟨b1495, 2, none⟩)) (Q_fld Tryd.underlying25 rfl ty23 (by decide) rfl rfl) rfl rfl <| nq (v := v7) (Q_ldB (k := 0) (cs := [v7]) H.ok rfl ty23 rfl rfl rfl (fun _ => rfl) rfl) rfl rfl <| nq (Q_len Tryd.underlying23 rfl r9) rfl rfl <| nq (Q_move rfl) rfl rfl <| WL_nil <| x_then ?_
              obtain ⟨o2955, ho2955, hF⟩ := bnd hF
              refine C_cutQ (fun a w' => .inl () = o2955 ∧ Fr 120 a [(6, .map (some b1514))] ∧ Hp C w' ρ (Mp (kI .i64) Value.bool b1514 x1635 :: hs)) ?_ ?_
              · refine C_block ?_
                replace H := H.front 1 rfl
                dsimp only [List.eraseIdx] at H
                replace H := H.front 1 rfl
                dsimp only [List.eraseIdx] at H
                refine C_iter (f := fun s => F_dofferlaw18_TrimDead_l4 N x2 x5 x8 x1635 s) ho2955 (fun s a w' => ∃ (x2961 : Int), x2961 = s ∧ Fr 120 a [(2, .pointer (some ⟨b1495, 0, none⟩)), (6, .map (some b1514)), (107, .int .i64 (x8.length : Int)), (108, .int .i64 x2961)] ∧ Hp C w' ρ (Box b1495 [v1, v4, v7] :: Mp (kI .i64) Value.bool b1514 x1635 :: hs)) ?_ ?_
                · exact fun a hf => ⟨0, rfl, hf.sub ⟨rfl, rfl, rfl, rfl, trivial⟩, H⟩
                · rintro s o2967 a wd2970 ⟨x2961, rfl, hf, H⟩ hB2968 hO2969
                  replace hB2968 : F_dofferlaw18_TrimDead_l4 N x2 x5 x8 x1635 x2961 = some o2967 := hB2968
                  unfold F_dofferlaw18_TrimDead_l4 at hB2968
                  refine CW.at hf <| C_seq <| R_nd <| nq (Q_lss rfl rfl) rfl rfl <| WL_nil <| x_then <| C_seq ?_
                  refine C_cond rfl (fun hb => ?_) (fun hb => ?_)
                  · replace hB2968 := itT hb hB2968
                    refine C_skip <| x_then <| C_seq <| C_block <| C_seq <| R_nd <| nq (Q_move rfl) rfl rfl <| nq (Q_assign rfl) rfl rfl <| WL_nil <| x_then <| C_seq <| R_nd <| nq (Q_move rfl) rfl rfl <| nq (v := .agg #[v1, v4, v7]) (Q_ldB (k := 0) (cs := [v1, v4, v7]) H.ok rfl ty25 rfl rfl rfl (fun h => nomatch h) rfl) rfl rfl ?_
                    refine nq (Q_move rfl) rfl rfl ?_
                    obtain ⟨q2971, hq2971, hB2968⟩ := bnd hB2968
                    refine ne (E_call fn38 rfl (c_38 H  r3 r6 r9 hq2971)) rfl rfl ?_
                    rintro _ wd2974 ⟨x2973, rfl, rfl, H⟩
                    try dsimp only at hB2968
                    refine nq (v := .bool ((mget x1635 x2973).getD false)) (Q_look1 (zp := false) (k := 1) H.ok rfl Tryd.underlying48 (kOk_I Tryd.underlying3) trivial ty4 rfl rfl rfl) rfl rfl <| nq (Q_not rfl) rfl rfl <| WL_nil <| x_then ?_
                    refine C_cond rfl (fun hb => ?_) (fun hb => ?_)
                    · replace hB2968 := itT hb hB2968
                      refine C_seq <| R_nd <| nq (Q_assign rfl) rfl rfl <| WL_nil <| x_then <| C_ret <| x_block_ret <| x_then_ret <| x_then_ret <| x_block_ret <| x_then_ret <| x_then_ret ?_
                      replace H := H.drop 0 rfl
                      dsimp only [List.eraseIdx] at H
                      replace H := H.drop 0 rfl
                      dsimp only [List.eraseIdx] at H
                      obtain rfl := Option.some.inj hB2968
                      obtain rfl := hO2969 _ rfl
                      obtain rfl := Option.some.inj (show some _ = some _ from hF)
                      exact fn_ret (l := [.tmp 4]) (vs := [.bool false]) rfl rfl rfl ⟨false, rfl, rfl, H⟩
                    · replace hB2968 := itF hb hB2968
                      refine C_skip <| x_block <| x_then <| R_nd <| nq (Q_add rfl rfl) rfl rfl <| nq (Q_move rfl) rfl rfl <| WL_nil ?_
                      replace H := H.front 1 rfl
                      dsimp only [List.eraseIdx] at H
                      replace H := H.front 1 rfl
                      dsimp only [List.eraseIdx] at H
                      obtain rfl := Option.some.inj hB2968
                      refine x_A fun a hf => ⟨_, rfl, w64 (x2961 + 1), rfl, hf.sub ⟨rfl, rfl, rfl, rfl, trivial⟩, H⟩
                  · replace hB2968 := itF hb hB2968
                    refine C_exit <| x_then_exit <| x_then_exit <| x_block_exit ?_
                    replace H := H.front 1 rfl
                    dsimp only [List.eraseIdx] at H
                    replace H := H.drop 1 rfl
                    dsimp only [List.eraseIdx] at H
                    obtain rfl := Option.some.inj hB2968
                    obtain rfl := hO2969 _ rfl
                    refine x_A fun a hf => ⟨rfl, hf.sub ⟨rfl, trivial⟩, H⟩
              · rintro a wd2975 ⟨rfl, hf, H⟩
                try dsimp only at hF
                refine XX.at hf <| x_then <| C_seq <| R_nd <| nq (Q_move rfl) rfl rfl <| nq (v := .bool ((mget x1635 0).getD false)) (Q_look1 (zp := false) (k := 0) H.ok rfl Tryd.underlying48 (kOk_I Tryd.underlying3) trivial ty4 rfl rfl rfl) rfl rfl <| nq (Q_assign rfl) rfl rfl <| WL_nil <| x_then <| C_ret ?_
                replace H := H.drop 0 rfl
                dsimp only [List.eraseIdx] at H
                obtain rfl := Option.some.inj hF
                exact fn_ret (l := [.tmp 4]) (vs := [.bool ((mget x1635 0).getD false)]) rfl rfl rfl ⟨(mget x1635 0).getD false, rfl, rfl, H⟩
end Go.Proofs.YteiaphkejkgfkaaDoor
