/-
  The walks of the law TrimShortest, printed by my program, part 2: each function of the code computes its pure function.
-/
import Derived.Test.YteiaphkejkgfkaaDoorTrimShortesta
namespace Go.Proofs.YteiaphkejkgfkaaDoor
open Go Go.Eng
set_option maxRecDepth 100000
theorem c_62 {N : Nat} {C : Cx} {w : World} {ρ : View} {hs : List Hl} {v1 : Value} {v4 : Value} {v7 : Value} {x2 : (List (List Int))} {x5 : (List Int)} {x8 : (List Int)} (H : Hp C w ρ (hs)) {ge0 : Value} (gl0 : GErr ρ 0 ge0) (gl1 : GTab ρ 1 .u8 tab_math_bits_deBruijn64tab) (r3 : RdSl ρ (eA 256 (eI .i64)) v1 x2) (r6 : RdSl ρ (eI .i64) v4 x5) (r9 : RdSl ρ (eI .i64) v7 x8) {r : (List Int)} (hF : F_trim_kept N x2 x5 x8 = some r) :
    Calls Tryd.prog 62 [.agg #[v1, v4, v7]].toArray w (Rets (fun v w' => (∃ (v1660 : Value) (c1661 : (List Value)) (x1662 : (List Int)), x1662 = r ∧ v1660 = v ∧ rdL (eI .i64) ρ x1662 c1661 ∧ Hp C w' ρ (Arr v1660 1 c1661 :: hs)))) := by
  unfold F_trim_kept at hF
  have h0 : Tryd.f62.body = some _ := rfl
  refine fn_calls' Tryd.func62 h0 (n := 31) rfl (by simp) <| C_seq <| R_nd <| ne (E_box H (vs := [v1, v4, v7]) rfl rfl) rfl rfl ?_
  rintro _ wd1665 ⟨b1664, rfl, H⟩
  refine nq (Q_assign rfl) rfl rfl <| WL_nil <| x_then <| C_seq <| R_nd <| ne (E_bslice (xs := [.const (.int .i64 0)]) (vs := [.int .i64 0]) H Tryd.underlying23 ty3 (by decide) (cs := [.int .i64 0]) rfl (sz_cons rfl sz_nil) rfl (by simp) (by simp) rfl rfl) rfl rfl ?_
  rintro _ wd1667 ⟨b1666, rfl, H⟩
  refine nq (Q_assign rfl) rfl rfl <| WL_nil <| x_then <| C_seq <| R_nd <| nq (v := .agg #[v1, v4, v7]) (Q_ldB (k := 1) (cs := [v1, v4, v7]) H.ok rfl ty25 rfl rfl rfl (fun h => nomatch h) rfl) rfl rfl ?_
  obtain ⟨q1668, hq1668, hF⟩ := bnd hF
  refine ne (E_call fn63 rfl (c_63 H gl0 r3 r6 r9 hq1668)) rfl rfl ?_
  rintro _ wd1675 (⟨rfl, rfl, H⟩ | ⟨b1670, v1671, c1672, x1673, rfl, rfl, r1674, H⟩)
  · try dsimp only at hF
    refine nq (Q_assign rfl) rfl rfl <| WL_nil <| x_then <| C_seq <| C_seq <| R_nd <| nq (v := .agg #[v1, v4, v7]) (Q_ldB (k := 1) (cs := [v1, v4, v7]) H.ok rfl ty25 rfl rfl rfl (fun h => nomatch h) rfl) rfl rfl ?_
    obtain ⟨q1676, hq1676, hF⟩ := bnd hF
    refine ne (E_call fn65 rfl (c_65 H gl0 r3 r6 r9 hq1676)) rfl rfl ?_
    rintro _ wd1683 (⟨rfl, rfl, H⟩ | ⟨b1678, v1679, c1680, x1681, rfl, rfl, r1682, H⟩)
    · try dsimp only at hF
      obtain ⟨q1684, hq1684, hF⟩ := bnd hF
      refine ne (E_call fn64 rfl (c_64 H   hq1684)) rfl rfl ?_
      rintro _ wd1690 ⟨v1686, c1687, x1688, rfl, rfl, r1689, H⟩
      try dsimp only at hF
      refine nq (Q_lenA (k := 0) H.ok rfl r1689 (by decide) Tryd.underlying23 rfl) rfl rfl <| nq (Q_move rfl) rfl rfl <| WL_nil <| x_then ?_
      obtain ⟨o1806, ho1806, hF⟩ := bnd hF
      refine C_cutQ (fun a w' => Fr 31 a [(3, (.slice (some ⟨b1666, 0, none⟩) 1 1))] ∧ Hp C w' ρ (Arr (.slice (some ⟨b1666, 0, none⟩) 1 1) 1 ([.int .i64 0]) :: hs)) ?_ ?_
      · refine C_block ?_
        replace H := H.front 1 rfl
        dsimp only [List.eraseIdx] at H
        replace H := H.front 1 rfl
        dsimp only [List.eraseIdx] at H
        replace H := H.drop 2 rfl
        dsimp only [List.eraseIdx] at H
        refine C_iter (f := fun s => F_trim_kept_l0 N x1688 s) ho1806 (fun s a w' => ∃ (x1844 : Int), x1844 = s ∧ Fr 31 a [(3, (.slice (some ⟨b1666, 0, none⟩) 1 1)), (4, .pointer none), (12, v1686), (13, .int .i64 (x1688.length : Int)), (14, .int .i64 x1844)] ∧ Hp C w' ρ (Arr v1686 1 c1687 :: Arr (.slice (some ⟨b1666, 0, none⟩) 1 1) 1 ([.int .i64 0]) :: hs)) ?_ ?_
        · exact fun a hf => ⟨0, rfl, hf.sub ⟨rfl, rfl, rfl, rfl, rfl, trivial⟩, H⟩
        · rintro s o1882 a wd1885 ⟨x1844, rfl, hf, H⟩ hB1883 hO1884
          replace hB1883 : F_trim_kept_l0 N x1688 x1844 = some o1882 := hB1883
          unfold F_trim_kept_l0 at hB1883
          refine CW.at hf <| C_seq <| R_nd <| nq (Q_lss rfl rfl) rfl rfl <| WL_nil <| x_then <| C_seq ?_
          refine C_cond rfl (fun hb => ?_) (fun hb => ?_)
          · replace hB1883 := itT hb hB1883
            refine C_skip <| x_then ?_
            obtain ⟨o1903, ho1903, hB1883⟩ := bnd hB1883
            refine C_cut (fun a w' => Fr 31 a [(3, (.slice (some ⟨b1666, 0, none⟩) 1 1)), (4, .pointer none), (12, v1686), (13, .int .i64 (x1688.length : Int)), (14, .int .i64 x1844), (22, undef), (23, undef)] ∧ Hp C w' ρ (Arr v1686 1 c1687 :: Arr (.slice (some ⟨b1666, 0, none⟩) 1 1) 1 ([.int .i64 0]) :: hs)) ?_ ?_
            · refine C_block <| C_seq <| R_nd ?_
              obtain ⟨x1904, hx1904, ho1903⟩ := bnd ho1903
              obtain ⟨b1905, o1906, hi1910, hc1908, ha1909⟩ := arr_at (hs := [Arr v1686 1 c1687]) (k := 0) (by decide) (H.okS (by simp)) rfl r1689 hx1904
              refine nq (Q_idx hi1910 Tryd.underlying23 ty3 rfl rfl) rfl rfl <| nq (v := .int .i64 x1904) (Q_ld (show cellsAt _ _ _ [.int .i64 x1904] from (show _ = [_] from hc1908) ▸ (ha1909 _ (Ok.subS (by simp) H.ok))) ty3 rfl (fun _ => rfl) rfl rfl) rfl rfl <| nq (Q_assign rfl) rfl rfl <| WL_nil <| x_then ?_
              obtain ⟨o1914, ho1914, ho1903⟩ := bnd ho1903
              refine C_cut (fun a w' => Fr 31 a [(3, (.slice (some ⟨b1666, 0, none⟩) 1 1)), (4, .pointer none), (6, .int .i64 x1904), (12, v1686), (13, .int .i64 (x1688.length : Int)), (14, .int .i64 x1844), (22, undef), (23, undef), (24, .bool false)] ∧ Hp C w' ρ (Arr v1686 1 c1687 :: Arr (.slice (some ⟨b1666, 0, none⟩) 1 1) 1 ([.int .i64 0]) :: hs)) ?_ ?_
              · refine R_nd <| nq (Q_move rfl) rfl rfl <| nq (Q_move rfl) rfl rfl ?_
                obtain ⟨q1915, hq1915, ho1914⟩ := bnd ho1914
                refine ne (E_call fn81 rfl (c_81 H   hq1915)) rfl rfl ?_
                rintro _ wd1917 ⟨rfl, rfl, H⟩
                try dsimp only at ho1914
                refine nq (Q_move rfl) rfl rfl <| gs rfl rfl rfl rfl <| gs rfl rfl rfl rfl <| nq (Q_pickF rfl rfl) rfl rfl <| WL_nil ?_
                replace H := H.front 1 rfl
                dsimp only [List.eraseIdx] at H
                replace H := H.front 1 rfl
                dsimp only [List.eraseIdx] at H
                obtain rfl := Option.some.inj ho1914
                refine x_A fun a hf => ⟨hf.sub ⟨rfl, rfl, rfl, rfl, rfl, rfl, rfl, rfl, rfl, trivial⟩, H⟩
              · rintro a wd1918 ⟨hf, H⟩
                try dsimp only at ho1903
                refine CW.at hf ?_
                obtain ⟨o1919, ho1919, ho1903⟩ := bnd ho1903
                refine C_cutQ (fun a w' => Fr 31 a [(3, (.slice (some ⟨b1666, 0, none⟩) 1 1)), (4, .pointer none), (12, v1686), (13, .int .i64 (x1688.length : Int)), (14, .int .i64 x1844), (22, undef), (23, undef)] ∧ Hp C w' ρ (Arr v1686 1 c1687 :: Arr (.slice (some ⟨b1666, 0, none⟩) 1 1) 1 ([.int .i64 0]) :: hs)) ?_ ?_
                · refine C_cond rfl (fun h => nomatch h) (fun _ => ?_)
                  refine C_skip ?_
                  replace H := H.front 1 rfl
                  dsimp only [List.eraseIdx] at H
                  replace H := H.front 1 rfl
                  dsimp only [List.eraseIdx] at H
                  obtain rfl := Option.some.inj ho1919
                  refine x_A fun a hf => ⟨hf.sub ⟨rfl, rfl, rfl, rfl, rfl, rfl, rfl, trivial⟩, H⟩
                · rintro a wd1920 ⟨hf, H⟩
                  try dsimp only at ho1903
                  refine XX.at hf <| x_block ?_
                  replace H := H.front 1 rfl
                  dsimp only [List.eraseIdx] at H
                  replace H := H.front 1 rfl
                  dsimp only [List.eraseIdx] at H
                  obtain rfl := Option.some.inj ho1903
                  refine x_A fun a hf => ⟨hf.sub ⟨rfl, rfl, rfl, rfl, rfl, rfl, rfl, trivial⟩, H⟩
            · rintro a wd1921 ⟨hf, H⟩
              try dsimp only at hB1883
              refine CW.at hf <| R_nd <| nq (Q_add rfl rfl) rfl rfl <| nq (Q_move rfl) rfl rfl <| WL_nil ?_
              replace H := H.front 1 rfl
              dsimp only [List.eraseIdx] at H
              replace H := H.front 1 rfl
              dsimp only [List.eraseIdx] at H
              obtain rfl := Option.some.inj hB1883
              refine x_A fun a hf => ⟨_, rfl, w64 (x1844 + 1), rfl, hf.sub ⟨rfl, rfl, rfl, rfl, rfl, trivial⟩, H⟩
          · replace hB1883 := itF hb hB1883
            refine C_exit <| x_then_exit <| x_then_exit <| x_block_exit ?_
            replace H := H.front 1 rfl
            dsimp only [List.eraseIdx] at H
            replace H := H.drop 1 rfl
            dsimp only [List.eraseIdx] at H
            obtain rfl := Option.some.inj hB1883
            obtain rfl := hO1884 _ rfl
            refine x_A fun a hf => ⟨hf.sub ⟨rfl, trivial⟩, H⟩
      · rintro a wd1922 ⟨hf, H⟩
        try dsimp only at hF
        refine XX.at hf <| x_then <| C_seq <| R_nd <| nq (Q_move rfl) rfl rfl <| nq (Q_assign rfl) rfl rfl <| WL_nil <| x_then <| C_ret ?_
        obtain rfl := Option.some.inj hF
        exact fn_ret (l := [.tmp 2]) (vs := [(.slice (some ⟨b1666, 0, none⟩) 1 1)]) rfl rfl rfl ⟨(.slice (some ⟨b1666, 0, none⟩) 1 1), [.int .i64 0], [0], rfl, rfl, (show rdL (eI .i64) ρ ([0]) ([.int .i64 0]) from ⟨([.int .i64 0]), _, rfl, rfl, rdL.nil⟩), H⟩
    · try dsimp only at hF
      replace H := H.front 1 rfl
      dsimp only [List.eraseIdx] at H
      replace H := H.front 1 rfl
      dsimp only [List.eraseIdx] at H
      obtain ⟨q1923, hq1923, hF⟩ := bnd hF
      refine ne (E_call fn64 rfl (c_64_1 H gl1 r1682 hq1923)) rfl rfl ?_
      rintro _ wd1929 ⟨v1925, c1926, x1927, rfl, rfl, r1928, H⟩
      try dsimp only at hF
      refine nq (Q_lenA (k := 2) H.ok rfl r1928 (by decide) Tryd.underlying23 rfl) rfl rfl <| nq (Q_move rfl) rfl rfl <| WL_nil <| x_then ?_
      obtain ⟨o2045, ho2045, hF⟩ := bnd hF
      refine C_cutQ (fun a w' => Fr 31 a [(3, (.slice (some ⟨b1666, 0, none⟩) 1 1))] ∧ Hp C w' ρ (Arr (.slice (some ⟨b1666, 0, none⟩) 1 1) 1 ([.int .i64 0]) :: hs)) ?_ ?_
      · refine C_block ?_
        replace H := H.front 3 rfl
        dsimp only [List.eraseIdx] at H
        replace H := H.front 3 rfl
        dsimp only [List.eraseIdx] at H
        replace H := H.drop 2 rfl
        dsimp only [List.eraseIdx] at H
        replace H := H.drop 2 rfl
        dsimp only [List.eraseIdx] at H
        replace H := H.drop 2 rfl
        dsimp only [List.eraseIdx] at H
        refine C_iter (f := fun s => F_trim_kept_l1 N x1927 s) ho2045 (fun s a w' => ∃ (x2083 : Int), x2083 = s ∧ Fr 31 a [(3, (.slice (some ⟨b1666, 0, none⟩) 1 1)), (4, .pointer none), (12, v1925), (13, .int .i64 (x1927.length : Int)), (14, .int .i64 x2083)] ∧ Hp C w' ρ (Arr v1925 1 c1926 :: Arr (.slice (some ⟨b1666, 0, none⟩) 1 1) 1 ([.int .i64 0]) :: hs)) ?_ ?_
        · exact fun a hf => ⟨0, rfl, hf.sub ⟨rfl, rfl, rfl, rfl, rfl, trivial⟩, H⟩
        · rintro s o2121 a wd2124 ⟨x2083, rfl, hf, H⟩ hB2122 hO2123
          replace hB2122 : F_trim_kept_l1 N x1927 x2083 = some o2121 := hB2122
          unfold F_trim_kept_l1 at hB2122
          refine CW.at hf <| C_seq <| R_nd <| nq (Q_lss rfl rfl) rfl rfl <| WL_nil <| x_then <| C_seq ?_
          refine C_cond rfl (fun hb => ?_) (fun hb => ?_)
          · replace hB2122 := itT hb hB2122
            refine C_skip <| x_then ?_
            obtain ⟨o2142, ho2142, hB2122⟩ := bnd hB2122
            refine C_cut (fun a w' => Fr 31 a [(3, (.slice (some ⟨b1666, 0, none⟩) 1 1)), (4, .pointer none), (12, v1925), (13, .int .i64 (x1927.length : Int)), (14, .int .i64 x2083), (22, undef), (23, undef)] ∧ Hp C w' ρ (Arr v1925 1 c1926 :: Arr (.slice (some ⟨b1666, 0, none⟩) 1 1) 1 ([.int .i64 0]) :: hs)) ?_ ?_
            · refine C_block <| C_seq <| R_nd ?_
              obtain ⟨x2143, hx2143, ho2142⟩ := bnd ho2142
              obtain ⟨b2144, o2145, hi2149, hc2147, ha2148⟩ := arr_at (hs := [Arr v1925 1 c1926]) (k := 0) (by decide) (H.okS (by simp)) rfl r1928 hx2143
              refine nq (Q_idx hi2149 Tryd.underlying23 ty3 rfl rfl) rfl rfl <| nq (v := .int .i64 x2143) (Q_ld (show cellsAt _ _ _ [.int .i64 x2143] from (show _ = [_] from hc2147) ▸ (ha2148 _ (Ok.subS (by simp) H.ok))) ty3 rfl (fun _ => rfl) rfl rfl) rfl rfl <| nq (Q_assign rfl) rfl rfl <| WL_nil <| x_then ?_
              obtain ⟨o2153, ho2153, ho2142⟩ := bnd ho2142
              refine C_cut (fun a w' => Fr 31 a [(3, (.slice (some ⟨b1666, 0, none⟩) 1 1)), (4, .pointer none), (6, .int .i64 x2143), (12, v1925), (13, .int .i64 (x1927.length : Int)), (14, .int .i64 x2083), (22, undef), (23, undef), (24, .bool false)] ∧ Hp C w' ρ (Arr v1925 1 c1926 :: Arr (.slice (some ⟨b1666, 0, none⟩) 1 1) 1 ([.int .i64 0]) :: hs)) ?_ ?_
              · refine R_nd <| nq (Q_move rfl) rfl rfl <| nq (Q_move rfl) rfl rfl ?_
                obtain ⟨q2154, hq2154, ho2153⟩ := bnd ho2153
                refine ne (E_call fn81 rfl (c_81 H   hq2154)) rfl rfl ?_
                rintro _ wd2156 ⟨rfl, rfl, H⟩
                try dsimp only at ho2153
                refine nq (Q_move rfl) rfl rfl <| gs rfl rfl rfl rfl <| gs rfl rfl rfl rfl <| nq (Q_pickF rfl rfl) rfl rfl <| WL_nil ?_
                replace H := H.front 1 rfl
                dsimp only [List.eraseIdx] at H
                replace H := H.front 1 rfl
                dsimp only [List.eraseIdx] at H
                obtain rfl := Option.some.inj ho2153
                refine x_A fun a hf => ⟨hf.sub ⟨rfl, rfl, rfl, rfl, rfl, rfl, rfl, rfl, rfl, trivial⟩, H⟩
              · rintro a wd2157 ⟨hf, H⟩
                try dsimp only at ho2142
                refine CW.at hf ?_
                obtain ⟨o2158, ho2158, ho2142⟩ := bnd ho2142
                refine C_cutQ (fun a w' => Fr 31 a [(3, (.slice (some ⟨b1666, 0, none⟩) 1 1)), (4, .pointer none), (12, v1925), (13, .int .i64 (x1927.length : Int)), (14, .int .i64 x2083), (22, undef), (23, undef)] ∧ Hp C w' ρ (Arr v1925 1 c1926 :: Arr (.slice (some ⟨b1666, 0, none⟩) 1 1) 1 ([.int .i64 0]) :: hs)) ?_ ?_
                · refine C_cond rfl (fun h => nomatch h) (fun _ => ?_)
                  refine C_skip ?_
                  replace H := H.front 1 rfl
                  dsimp only [List.eraseIdx] at H
                  replace H := H.front 1 rfl
                  dsimp only [List.eraseIdx] at H
                  obtain rfl := Option.some.inj ho2158
                  refine x_A fun a hf => ⟨hf.sub ⟨rfl, rfl, rfl, rfl, rfl, rfl, rfl, trivial⟩, H⟩
                · rintro a wd2159 ⟨hf, H⟩
                  try dsimp only at ho2142
                  refine XX.at hf <| x_block ?_
                  replace H := H.front 1 rfl
                  dsimp only [List.eraseIdx] at H
                  replace H := H.front 1 rfl
                  dsimp only [List.eraseIdx] at H
                  obtain rfl := Option.some.inj ho2142
                  refine x_A fun a hf => ⟨hf.sub ⟨rfl, rfl, rfl, rfl, rfl, rfl, rfl, trivial⟩, H⟩
            · rintro a wd2160 ⟨hf, H⟩
              try dsimp only at hB2122
              refine CW.at hf <| R_nd <| nq (Q_add rfl rfl) rfl rfl <| nq (Q_move rfl) rfl rfl <| WL_nil ?_
              replace H := H.front 1 rfl
              dsimp only [List.eraseIdx] at H
              replace H := H.front 1 rfl
              dsimp only [List.eraseIdx] at H
              obtain rfl := Option.some.inj hB2122
              refine x_A fun a hf => ⟨_, rfl, w64 (x2083 + 1), rfl, hf.sub ⟨rfl, rfl, rfl, rfl, rfl, trivial⟩, H⟩
          · replace hB2122 := itF hb hB2122
            refine C_exit <| x_then_exit <| x_then_exit <| x_block_exit ?_
            replace H := H.front 1 rfl
            dsimp only [List.eraseIdx] at H
            replace H := H.drop 1 rfl
            dsimp only [List.eraseIdx] at H
            obtain rfl := Option.some.inj hB2122
            obtain rfl := hO2123 _ rfl
            refine x_A fun a hf => ⟨hf.sub ⟨rfl, trivial⟩, H⟩
      · rintro a wd2161 ⟨hf, H⟩
        try dsimp only at hF
        refine XX.at hf <| x_then <| C_seq <| R_nd <| nq (Q_move rfl) rfl rfl <| nq (Q_assign rfl) rfl rfl <| WL_nil <| x_then <| C_ret ?_
        obtain rfl := Option.some.inj hF
        exact fn_ret (l := [.tmp 2]) (vs := [(.slice (some ⟨b1666, 0, none⟩) 1 1)]) rfl rfl rfl ⟨(.slice (some ⟨b1666, 0, none⟩) 1 1), [.int .i64 0], [0], rfl, rfl, (show rdL (eI .i64) ρ ([0]) ([.int .i64 0]) from ⟨([.int .i64 0]), _, rfl, rfl, rdL.nil⟩), H⟩
  · try dsimp only at hF
    refine nq (Q_assign rfl) rfl rfl <| WL_nil <| x_then <| C_seq <| C_seq <| R_nd <| nq (v := .agg #[v1, v4, v7]) (Q_ldB (k := 3) (cs := [v1, v4, v7]) H.ok rfl ty25 rfl rfl rfl (fun h => nomatch h) rfl) rfl rfl ?_
    obtain ⟨q2162, hq2162, hF⟩ := bnd hF
    refine ne (E_call fn65 rfl (c_65 H gl0 r3 r6 r9 hq2162)) rfl rfl ?_
    rintro _ wd2169 (⟨rfl, rfl, H⟩ | ⟨b2164, v2165, c2166, x2167, rfl, rfl, r2168, H⟩)
    · try dsimp only at hF
      obtain ⟨q2170, hq2170, hF⟩ := bnd hF
      refine ne (E_call fn64 rfl (c_64 H   hq2170)) rfl rfl ?_
      rintro _ wd2176 ⟨v2172, c2173, x2174, rfl, rfl, r2175, H⟩
      try dsimp only at hF
      refine nq (Q_lenA (k := 0) H.ok rfl r2175 (by decide) Tryd.underlying23 rfl) rfl rfl <| nq (Q_move rfl) rfl rfl <| WL_nil <| x_then ?_
      obtain ⟨o2458, ho2458, hF⟩ := bnd hF
      refine C_cutQ (fun a w' => ∃ (v2454 : Value) (c2455 : (List Value)) (x2456 : (List Int)), x2456 = o2458 ∧ rdL (eI .i64) ρ x2456 c2455 ∧ Fr 31 a [(3, v2454)] ∧ Hp C w' ρ (Arr v2454 1 c2455 :: hs)) ?_ ?_
      · refine C_block ?_
        replace H := H.front 2 rfl
        dsimp only [List.eraseIdx] at H
        replace H := H.front 2 rfl
        dsimp only [List.eraseIdx] at H
        replace H := H.front 3 rfl
        dsimp only [List.eraseIdx] at H
        replace H := H.front 3 rfl
        dsimp only [List.eraseIdx] at H
        replace H := H.drop 4 rfl
        dsimp only [List.eraseIdx] at H
        refine C_iter (f := fun s => F_trim_kept_l2 N x2 x1673 x2174 s.1 s.2) ho2458 (fun s a w' => ∃ (v2551 : Value) (c2552 : (List Value)) (x2550 : Int) (x2553 : (List Int)), (x2550, x2553) = s ∧ rdL (eI .i64) ρ x2553 c2552 ∧ Fr 31 a [(3, v2551), (4, .pointer (some ⟨b1670, 0, none⟩)), (12, v2172), (13, .int .i64 (x2174.length : Int)), (14, .int .i64 x2550)] ∧ Hp C w' ρ (Arr v2172 1 c2173 :: Arr v2551 1 c2552 :: Box b1670 [v1671, .int .i64 (x2.length : Int)] :: Arr v1671 1 c1672 :: hs)) ?_ ?_
        · exact fun a hf => ⟨(.slice (some ⟨b1666, 0, none⟩) 1 1), [.int .i64 0], 0, [0], rfl, (show rdL (eI .i64) ρ ([0]) ([.int .i64 0]) from ⟨([.int .i64 0]), _, rfl, rfl, rdL.nil⟩), hf.sub ⟨rfl, rfl, rfl, rfl, rfl, trivial⟩, H⟩
        · rintro s o2646 a wd2649 ⟨v2551, c2552, x2550, x2553, rfl, r2554, hf, H⟩ hB2647 hO2648
          replace hB2647 : F_trim_kept_l2 N x2 x1673 x2174 x2550 x2553 = some o2646 := hB2647
          unfold F_trim_kept_l2 at hB2647
          refine CW.at hf <| C_seq <| R_nd <| nq (Q_lss rfl rfl) rfl rfl <| WL_nil <| x_then <| C_seq ?_
          refine C_cond rfl (fun hb => ?_) (fun hb => ?_)
          · replace hB2647 := itT hb hB2647
            refine C_skip <| x_then ?_
            obtain ⟨o2694, ho2694, hB2647⟩ := bnd hB2647
            refine C_cut (fun a w' => ∃ (v2690 : Value) (c2691 : (List Value)) (x2692 : (List Int)), x2692 = o2694 ∧ rdL (eI .i64) ρ x2692 c2691 ∧ Fr 31 a [(3, v2690), (4, .pointer (some ⟨b1670, 0, none⟩)), (12, v2172), (13, .int .i64 (x2174.length : Int)), (14, .int .i64 x2550)] ∧ Hp C w' ρ (Arr v2172 1 c2173 :: Arr v2690 1 c2691 :: Box b1670 [v1671, .int .i64 (x2.length : Int)] :: Arr v1671 1 c1672 :: hs)) ?_ ?_
            · refine C_block <| C_seq <| R_nd ?_
              obtain ⟨x2695, hx2695, ho2694⟩ := bnd ho2694
              obtain ⟨b2696, o2697, hi2701, hc2699, ha2700⟩ := arr_at (hs := [Arr v2172 1 c2173]) (k := 0) (by decide) (H.okS (by simp)) rfl r2175 hx2695
              refine nq (Q_idx hi2701 Tryd.underlying23 ty3 rfl rfl) rfl rfl <| nq (v := .int .i64 x2695) (Q_ld (show cellsAt _ _ _ [.int .i64 x2695] from (show _ = [_] from hc2699) ▸ (ha2700 _ (Ok.subS (by simp) H.ok))) ty3 rfl (fun _ => rfl) rfl rfl) rfl rfl <| nq (Q_assign rfl) rfl rfl <| WL_nil <| x_then ?_
              obtain ⟨o2707, ho2707, ho2694⟩ := bnd ho2694
              refine C_cut (fun a w' => ∃ (x2706 : Bool), x2706 = o2707 ∧ Fr 31 a [(3, v2551), (4, .pointer (some ⟨b1670, 0, none⟩)), (6, .int .i64 x2695), (12, v2172), (13, .int .i64 (x2174.length : Int)), (14, .int .i64 x2550), (24, .bool x2706)] ∧ Hp C w' ρ (Arr v2172 1 c2173 :: Arr v2551 1 c2552 :: Box b1670 [v1671, .int .i64 (x2.length : Int)] :: Arr v1671 1 c1672 :: hs)) ?_ ?_
              · refine R_nd <| nq (Q_move rfl) rfl rfl <| nq (Q_move rfl) rfl rfl ?_
                replace H := H.front 3 rfl
                dsimp only [List.eraseIdx] at H
                replace H := H.front 3 rfl
                dsimp only [List.eraseIdx] at H
                obtain ⟨q2708, hq2708, ho2707⟩ := bnd ho2707
                refine ne (E_call fn81 rfl (c_81_1 H  r1674 hq2708)) rfl rfl ?_
                rintro _ wd2711 ⟨x2710, rfl, rfl, H⟩
                try dsimp only at ho2707
                refine nq (Q_move rfl) rfl rfl ?_
                rcases Bool.eq_false_or_eq_true x2710 with hb | hb
                · rw [hb]
                  replace ho2707 := itT hb ho2707
                  refine gq (Q_move rfl) rfl rfl rfl <| gq (Q_gtr rfl rfl) rfl rfl rfl <| nq (Q_pickT rfl rfl) rfl rfl <| WL_nil ?_
                  replace H := H.front 1 rfl
                  dsimp only [List.eraseIdx] at H
                  replace H := H.front 1 rfl
                  dsimp only [List.eraseIdx] at H
                  replace H := H.front 3 rfl
                  dsimp only [List.eraseIdx] at H
                  replace H := H.front 3 rfl
                  dsimp only [List.eraseIdx] at H
                  obtain rfl := Option.some.inj ho2707
                  refine x_A fun a hf => ⟨decide (x2695 > 0), rfl, hf.sub ⟨rfl, rfl, rfl, rfl, rfl, rfl, rfl, trivial⟩, H⟩
                · rw [hb]
                  replace ho2707 := itF hb ho2707
                  refine gs rfl rfl rfl rfl <| gs rfl rfl rfl rfl <| nq (Q_pickF rfl rfl) rfl rfl <| WL_nil ?_
                  replace H := H.front 1 rfl
                  dsimp only [List.eraseIdx] at H
                  replace H := H.front 1 rfl
                  dsimp only [List.eraseIdx] at H
                  replace H := H.front 3 rfl
                  dsimp only [List.eraseIdx] at H
                  replace H := H.front 3 rfl
                  dsimp only [List.eraseIdx] at H
                  obtain rfl := Option.some.inj ho2707
                  refine x_A fun a hf => ⟨false, rfl, hf.sub ⟨rfl, rfl, rfl, rfl, rfl, rfl, rfl, trivial⟩, H⟩
              · rintro a wd2712 ⟨x2706, rfl, hf, H⟩
                try dsimp only at ho2694
                refine CW.at hf ?_
                obtain ⟨o2725, ho2725, ho2694⟩ := bnd ho2694
                refine C_cutQ (fun a w' => ∃ (v2721 : Value) (c2722 : (List Value)) (x2723 : (List Int)), x2723 = o2725 ∧ rdL (eI .i64) ρ x2723 c2722 ∧ Fr 31 a [(3, v2721), (4, .pointer (some ⟨b1670, 0, none⟩)), (12, v2172), (13, .int .i64 (x2174.length : Int)), (14, .int .i64 x2550)] ∧ Hp C w' ρ (Arr v2172 1 c2173 :: Arr v2721 1 c2722 :: Box b1670 [v1671, .int .i64 (x2.length : Int)] :: Arr v1671 1 c1672 :: hs)) ?_ ?_
                · refine C_cond rfl (fun hb => ?_) (fun hb => ?_)
                  · replace ho2725 := itT hb ho2725
                    refine R_nd <| nq (Q_move rfl) rfl rfl <| nq (Q_move rfl) rfl rfl <| ne (E_bslice (xs := [.tmp 26]) (vs := [.int .i64 x2695]) H Tryd.underlying23 ty3 (by decide) (cs := [.int .i64 x2695]) rfl (sz_cons rfl sz_nil) rfl (by simp) (by simp) rfl rfl) rfl rfl ?_
                    rintro _ wd2727 ⟨b2726, rfl, H⟩
                    obtain ⟨x2728, hx2728, ho2725⟩ := bnd ho2725
                    obtain ⟨ha2729a, ha2729b⟩ := app_some hx2728
                    have r2731 : rdL (eI .i64) ρ x2728 (c2552 ++ ([.int .i64 x2695])) := ha2729b ▸ rdL.app r2554 (show rdL (eI .i64) ρ ([x2695]) ([.int .i64 x2695]) from ⟨([.int .i64 x2695]), _, rfl, rfl, rdL.nil⟩)
                    refine ne (E_append (k := 2) H rfl Tryd.underlying23 ty3 rfl (by decide) (by decide) rfl rfl (Src.ofArr (k := 0) H.ok rfl) (rdL.one (show rdL (eI .i64) ρ ([x2695]) ([.int .i64 x2695]) from ⟨([.int .i64 x2695]), _, rfl, rfl, rdL.nil⟩)) (app_fit r2554 (show rdL (eI .i64) ρ ([x2695]) ([.int .i64 x2695]) from ⟨([.int .i64 x2695]), _, rfl, rfl, rdL.nil⟩) ha2729a)) rfl rfl ?_
                    rintro v2730 wd2733 ⟨H, hc2732⟩
                    dsimp only [List.set] at H
                    refine nq (Q_assign rfl) rfl rfl <| WL_nil ?_
                    replace H := H.front 4 rfl
                    dsimp only [List.eraseIdx] at H
                    replace H := H.front 4 rfl
                    dsimp only [List.eraseIdx] at H
                    replace H := H.front 4 rfl
                    dsimp only [List.eraseIdx] at H
                    replace H := H.front 4 rfl
                    dsimp only [List.eraseIdx] at H
                    replace H := H.drop 4 rfl
                    dsimp only [List.eraseIdx] at H
                    obtain rfl := Option.some.inj ho2725
                    refine x_A fun a hf => ⟨v2730, (c2552 ++ ([.int .i64 x2695])), x2728, rfl, r2731, hf.sub ⟨rfl, rfl, rfl, rfl, rfl, trivial⟩, H⟩
                  · replace ho2725 := itF hb ho2725
                    refine C_skip ?_
                    replace H := H.front 3 rfl
                    dsimp only [List.eraseIdx] at H
                    replace H := H.front 3 rfl
                    dsimp only [List.eraseIdx] at H
                    replace H := H.front 3 rfl
                    dsimp only [List.eraseIdx] at H
                    replace H := H.front 3 rfl
                    dsimp only [List.eraseIdx] at H
                    obtain rfl := Option.some.inj ho2725
                    refine x_A fun a hf => ⟨v2551, c2552, x2553, rfl, r2554, hf.sub ⟨rfl, rfl, rfl, rfl, rfl, trivial⟩, H⟩
                · rintro a wd2734 ⟨v2721, c2722, x2723, rfl, r2724, hf, H⟩
                  try dsimp only at ho2694
                  refine XX.at hf <| x_block ?_
                  replace H := H.front 3 rfl
                  dsimp only [List.eraseIdx] at H
                  replace H := H.front 3 rfl
                  dsimp only [List.eraseIdx] at H
                  replace H := H.front 3 rfl
                  dsimp only [List.eraseIdx] at H
                  replace H := H.front 3 rfl
                  dsimp only [List.eraseIdx] at H
                  obtain rfl := Option.some.inj ho2694
                  refine x_A fun a hf => ⟨v2721, c2722, x2723, rfl, r2724, hf.sub ⟨rfl, rfl, rfl, rfl, rfl, trivial⟩, H⟩
            · rintro a wd2735 ⟨v2690, c2691, x2692, rfl, r2693, hf, H⟩
              try dsimp only at hB2647
              refine CW.at hf <| R_nd <| nq (Q_add rfl rfl) rfl rfl <| nq (Q_move rfl) rfl rfl <| WL_nil ?_
              replace H := H.front 3 rfl
              dsimp only [List.eraseIdx] at H
              replace H := H.front 3 rfl
              dsimp only [List.eraseIdx] at H
              replace H := H.front 3 rfl
              dsimp only [List.eraseIdx] at H
              replace H := H.front 3 rfl
              dsimp only [List.eraseIdx] at H
              obtain rfl := Option.some.inj hB2647
              refine x_A fun a hf => ⟨_, rfl, v2690, c2691, w64 (x2550 + 1), x2692, rfl, r2693, hf.sub ⟨rfl, rfl, rfl, rfl, rfl, trivial⟩, H⟩
          · replace hB2647 := itF hb hB2647
            refine C_exit <| x_then_exit <| x_then_exit <| x_block_exit ?_
            replace H := H.front 1 rfl
            dsimp only [List.eraseIdx] at H
            replace H := H.drop 1 rfl
            dsimp only [List.eraseIdx] at H
            replace H := H.drop 1 rfl
            dsimp only [List.eraseIdx] at H
            replace H := H.drop 1 rfl
            dsimp only [List.eraseIdx] at H
            obtain rfl := Option.some.inj hB2647
            obtain rfl := hO2648 _ rfl
            refine x_A fun a hf => ⟨v2551, c2552, x2553, rfl, r2554, hf.sub ⟨rfl, trivial⟩, H⟩
      · rintro a wd2736 ⟨v2454, c2455, x2456, rfl, r2457, hf, H⟩
        try dsimp only at hF
        refine XX.at hf <| x_then <| C_seq <| R_nd <| nq (Q_move rfl) rfl rfl <| nq (Q_assign rfl) rfl rfl <| WL_nil <| x_then <| C_ret ?_
        obtain rfl := Option.some.inj hF
        exact fn_ret (l := [.tmp 2]) (vs := [v2454]) rfl rfl rfl ⟨v2454, c2455, x2456, rfl, rfl, r2457, H⟩
    · try dsimp only at hF
      replace H := H.front 1 rfl
      dsimp only [List.eraseIdx] at H
      replace H := H.front 1 rfl
      dsimp only [List.eraseIdx] at H
      obtain ⟨q2737, hq2737, hF⟩ := bnd hF
      refine ne (E_call fn64 rfl (c_64_1 H gl1 r2168 hq2737)) rfl rfl ?_
      rintro _ wd2743 ⟨v2739, c2740, x2741, rfl, rfl, r2742, H⟩
      try dsimp only at hF
      refine nq (Q_lenA (k := 2) H.ok rfl r2742 (by decide) Tryd.underlying23 rfl) rfl rfl <| nq (Q_move rfl) rfl rfl <| WL_nil <| x_then ?_
      obtain ⟨o3025, ho3025, hF⟩ := bnd hF
      refine C_cutQ (fun a w' => ∃ (v3021 : Value) (c3022 : (List Value)) (x3023 : (List Int)), x3023 = o3025 ∧ rdL (eI .i64) ρ x3023 c3022 ∧ Fr 31 a [(3, v3021)] ∧ Hp C w' ρ (Arr v3021 1 c3022 :: hs)) ?_ ?_
      · refine C_block ?_
        replace H := H.front 4 rfl
        dsimp only [List.eraseIdx] at H
        replace H := H.front 4 rfl
        dsimp only [List.eraseIdx] at H
        replace H := H.front 5 rfl
        dsimp only [List.eraseIdx] at H
        replace H := H.front 5 rfl
        dsimp only [List.eraseIdx] at H
        replace H := H.drop 4 rfl
        dsimp only [List.eraseIdx] at H
        replace H := H.drop 4 rfl
        dsimp only [List.eraseIdx] at H
        replace H := H.drop 4 rfl
        dsimp only [List.eraseIdx] at H
        refine C_iter (f := fun s => F_trim_kept_l3 N x2 x1673 x2741 s.1 s.2) ho3025 (fun s a w' => ∃ (v3118 : Value) (c3119 : (List Value)) (x3117 : Int) (x3120 : (List Int)), (x3117, x3120) = s ∧ rdL (eI .i64) ρ x3120 c3119 ∧ Fr 31 a [(3, v3118), (4, .pointer (some ⟨b1670, 0, none⟩)), (12, v2739), (13, .int .i64 (x2741.length : Int)), (14, .int .i64 x3117)] ∧ Hp C w' ρ (Arr v2739 1 c2740 :: Arr v3118 1 c3119 :: Box b1670 [v1671, .int .i64 (x2.length : Int)] :: Arr v1671 1 c1672 :: hs)) ?_ ?_
        · exact fun a hf => ⟨(.slice (some ⟨b1666, 0, none⟩) 1 1), [.int .i64 0], 0, [0], rfl, (show rdL (eI .i64) ρ ([0]) ([.int .i64 0]) from ⟨([.int .i64 0]), _, rfl, rfl, rdL.nil⟩), hf.sub ⟨rfl, rfl, rfl, rfl, rfl, trivial⟩, H⟩
        · rintro s o3213 a wd3216 ⟨v3118, c3119, x3117, x3120, rfl, r3121, hf, H⟩ hB3214 hO3215
          replace hB3214 : F_trim_kept_l3 N x2 x1673 x2741 x3117 x3120 = some o3213 := hB3214
          unfold F_trim_kept_l3 at hB3214
          refine CW.at hf <| C_seq <| R_nd <| nq (Q_lss rfl rfl) rfl rfl <| WL_nil <| x_then <| C_seq ?_
          refine C_cond rfl (fun hb => ?_) (fun hb => ?_)
          · replace hB3214 := itT hb hB3214
            refine C_skip <| x_then ?_
            obtain ⟨o3261, ho3261, hB3214⟩ := bnd hB3214
            refine C_cut (fun a w' => ∃ (v3257 : Value) (c3258 : (List Value)) (x3259 : (List Int)), x3259 = o3261 ∧ rdL (eI .i64) ρ x3259 c3258 ∧ Fr 31 a [(3, v3257), (4, .pointer (some ⟨b1670, 0, none⟩)), (12, v2739), (13, .int .i64 (x2741.length : Int)), (14, .int .i64 x3117)] ∧ Hp C w' ρ (Arr v2739 1 c2740 :: Arr v3257 1 c3258 :: Box b1670 [v1671, .int .i64 (x2.length : Int)] :: Arr v1671 1 c1672 :: hs)) ?_ ?_
            · refine C_block <| C_seq <| R_nd ?_
              obtain ⟨x3262, hx3262, ho3261⟩ := bnd ho3261
              obtain ⟨b3263, o3264, hi3268, hc3266, ha3267⟩ := arr_at (hs := [Arr v2739 1 c2740]) (k := 0) (by decide) (H.okS (by simp)) rfl r2742 hx3262
              refine nq (Q_idx hi3268 Tryd.underlying23 ty3 rfl rfl) rfl rfl <| nq (v := .int .i64 x3262) (Q_ld (show cellsAt _ _ _ [.int .i64 x3262] from (show _ = [_] from hc3266) ▸ (ha3267 _ (Ok.subS (by simp) H.ok))) ty3 rfl (fun _ => rfl) rfl rfl) rfl rfl <| nq (Q_assign rfl) rfl rfl <| WL_nil <| x_then ?_
              obtain ⟨o3274, ho3274, ho3261⟩ := bnd ho3261
              refine C_cut (fun a w' => ∃ (x3273 : Bool), x3273 = o3274 ∧ Fr 31 a [(3, v3118), (4, .pointer (some ⟨b1670, 0, none⟩)), (6, .int .i64 x3262), (12, v2739), (13, .int .i64 (x2741.length : Int)), (14, .int .i64 x3117), (24, .bool x3273)] ∧ Hp C w' ρ (Arr v2739 1 c2740 :: Arr v3118 1 c3119 :: Box b1670 [v1671, .int .i64 (x2.length : Int)] :: Arr v1671 1 c1672 :: hs)) ?_ ?_
              · refine R_nd <| nq (Q_move rfl) rfl rfl <| nq (Q_move rfl) rfl rfl ?_
                replace H := H.front 3 rfl
                dsimp only [List.eraseIdx] at H
                replace H := H.front 3 rfl
                dsimp only [List.eraseIdx] at H
                obtain ⟨q3275, hq3275, ho3274⟩ := bnd ho3274
                refine ne (E_call fn81 rfl (c_81_1 H  r1674 hq3275)) rfl rfl ?_
                rintro _ wd3278 ⟨x3277, rfl, rfl, H⟩
                try dsimp only at ho3274
                refine nq (Q_move rfl) rfl rfl ?_
                rcases Bool.eq_false_or_eq_true x3277 with hb | hb
                · rw [hb]
                  replace ho3274 := itT hb ho3274
                  refine gq (Q_move rfl) rfl rfl rfl <| gq (Q_gtr rfl rfl) rfl rfl rfl <| nq (Q_pickT rfl rfl) rfl rfl <| WL_nil ?_
                  replace H := H.front 1 rfl
                  dsimp only [List.eraseIdx] at H
                  replace H := H.front 1 rfl
                  dsimp only [List.eraseIdx] at H
                  replace H := H.front 3 rfl
                  dsimp only [List.eraseIdx] at H
                  replace H := H.front 3 rfl
                  dsimp only [List.eraseIdx] at H
                  obtain rfl := Option.some.inj ho3274
                  refine x_A fun a hf => ⟨decide (x3262 > 0), rfl, hf.sub ⟨rfl, rfl, rfl, rfl, rfl, rfl, rfl, trivial⟩, H⟩
                · rw [hb]
                  replace ho3274 := itF hb ho3274
                  refine gs rfl rfl rfl rfl <| gs rfl rfl rfl rfl <| nq (Q_pickF rfl rfl) rfl rfl <| WL_nil ?_
                  replace H := H.front 1 rfl
                  dsimp only [List.eraseIdx] at H
                  replace H := H.front 1 rfl
                  dsimp only [List.eraseIdx] at H
                  replace H := H.front 3 rfl
                  dsimp only [List.eraseIdx] at H
                  replace H := H.front 3 rfl
                  dsimp only [List.eraseIdx] at H
                  obtain rfl := Option.some.inj ho3274
                  refine x_A fun a hf => ⟨false, rfl, hf.sub ⟨rfl, rfl, rfl, rfl, rfl, rfl, rfl, trivial⟩, H⟩
              · rintro a wd3279 ⟨x3273, rfl, hf, H⟩
                try dsimp only at ho3261
                refine CW.at hf ?_
                obtain ⟨o3292, ho3292, ho3261⟩ := bnd ho3261
                refine C_cutQ (fun a w' => ∃ (v3288 : Value) (c3289 : (List Value)) (x3290 : (List Int)), x3290 = o3292 ∧ rdL (eI .i64) ρ x3290 c3289 ∧ Fr 31 a [(3, v3288), (4, .pointer (some ⟨b1670, 0, none⟩)), (12, v2739), (13, .int .i64 (x2741.length : Int)), (14, .int .i64 x3117)] ∧ Hp C w' ρ (Arr v2739 1 c2740 :: Arr v3288 1 c3289 :: Box b1670 [v1671, .int .i64 (x2.length : Int)] :: Arr v1671 1 c1672 :: hs)) ?_ ?_
                · refine C_cond rfl (fun hb => ?_) (fun hb => ?_)
                  · replace ho3292 := itT hb ho3292
                    refine R_nd <| nq (Q_move rfl) rfl rfl <| nq (Q_move rfl) rfl rfl <| ne (E_bslice (xs := [.tmp 26]) (vs := [.int .i64 x3262]) H Tryd.underlying23 ty3 (by decide) (cs := [.int .i64 x3262]) rfl (sz_cons rfl sz_nil) rfl (by simp) (by simp) rfl rfl) rfl rfl ?_
                    rintro _ wd3294 ⟨b3293, rfl, H⟩
                    obtain ⟨x3295, hx3295, ho3292⟩ := bnd ho3292
                    obtain ⟨ha3296a, ha3296b⟩ := app_some hx3295
                    have r3298 : rdL (eI .i64) ρ x3295 (c3119 ++ ([.int .i64 x3262])) := ha3296b ▸ rdL.app r3121 (show rdL (eI .i64) ρ ([x3262]) ([.int .i64 x3262]) from ⟨([.int .i64 x3262]), _, rfl, rfl, rdL.nil⟩)
                    refine ne (E_append (k := 2) H rfl Tryd.underlying23 ty3 rfl (by decide) (by decide) rfl rfl (Src.ofArr (k := 0) H.ok rfl) (rdL.one (show rdL (eI .i64) ρ ([x3262]) ([.int .i64 x3262]) from ⟨([.int .i64 x3262]), _, rfl, rfl, rdL.nil⟩)) (app_fit r3121 (show rdL (eI .i64) ρ ([x3262]) ([.int .i64 x3262]) from ⟨([.int .i64 x3262]), _, rfl, rfl, rdL.nil⟩) ha3296a)) rfl rfl ?_
                    rintro v3297 wd3300 ⟨H, hc3299⟩
                    dsimp only [List.set] at H
                    refine nq (Q_assign rfl) rfl rfl <| WL_nil ?_
                    replace H := H.front 4 rfl
                    dsimp only [List.eraseIdx] at H
                    replace H := H.front 4 rfl
                    dsimp only [List.eraseIdx] at H
                    replace H := H.front 4 rfl
                    dsimp only [List.eraseIdx] at H
                    replace H := H.front 4 rfl
                    dsimp only [List.eraseIdx] at H
                    replace H := H.drop 4 rfl
                    dsimp only [List.eraseIdx] at H
                    obtain rfl := Option.some.inj ho3292
                    refine x_A fun a hf => ⟨v3297, (c3119 ++ ([.int .i64 x3262])), x3295, rfl, r3298, hf.sub ⟨rfl, rfl, rfl, rfl, rfl, trivial⟩, H⟩
                  · replace ho3292 := itF hb ho3292
                    refine C_skip ?_
                    replace H := H.front 3 rfl
                    dsimp only [List.eraseIdx] at H
                    replace H := H.front 3 rfl
                    dsimp only [List.eraseIdx] at H
                    replace H := H.front 3 rfl
                    dsimp only [List.eraseIdx] at H
                    replace H := H.front 3 rfl
                    dsimp only [List.eraseIdx] at H
                    obtain rfl := Option.some.inj ho3292
                    refine x_A fun a hf => ⟨v3118, c3119, x3120, rfl, r3121, hf.sub ⟨rfl, rfl, rfl, rfl, rfl, trivial⟩, H⟩
                · rintro a wd3301 ⟨v3288, c3289, x3290, rfl, r3291, hf, H⟩
                  try dsimp only at ho3261
                  refine XX.at hf <| x_block ?_
                  replace H := H.front 3 rfl
                  dsimp only [List.eraseIdx] at H
                  replace H := H.front 3 rfl
                  dsimp only [List.eraseIdx] at H
                  replace H := H.front 3 rfl
                  dsimp only [List.eraseIdx] at H
                  replace H := H.front 3 rfl
                  dsimp only [List.eraseIdx] at H
                  obtain rfl := Option.some.inj ho3261
                  refine x_A fun a hf => ⟨v3288, c3289, x3290, rfl, r3291, hf.sub ⟨rfl, rfl, rfl, rfl, rfl, trivial⟩, H⟩
            · rintro a wd3302 ⟨v3257, c3258, x3259, rfl, r3260, hf, H⟩
              try dsimp only at hB3214
              refine CW.at hf <| R_nd <| nq (Q_add rfl rfl) rfl rfl <| nq (Q_move rfl) rfl rfl <| WL_nil ?_
              replace H := H.front 3 rfl
              dsimp only [List.eraseIdx] at H
              replace H := H.front 3 rfl
              dsimp only [List.eraseIdx] at H
              replace H := H.front 3 rfl
              dsimp only [List.eraseIdx] at H
              replace H := H.front 3 rfl
              dsimp only [List.eraseIdx] at H
              obtain rfl := Option.some.inj hB3214
              refine x_A fun a hf => ⟨_, rfl, v3257, c3258, w64 (x3117 + 1), x3259, rfl, r3260, hf.sub ⟨rfl, rfl, rfl, rfl, rfl, trivial⟩, H⟩
          · replace hB3214 := itF hb hB3214
            refine C_exit <| x_then_exit <| x_then_exit <| x_block_exit ?_
            replace H := H.front 1 rfl
            dsimp only [List.eraseIdx] at H
            replace H := H.drop 1 rfl
            dsimp only [List.eraseIdx] at H
            replace H := H.drop 1 rfl
            dsimp only [List.eraseIdx] at H
            replace H := H.drop 1 rfl
            dsimp only [List.eraseIdx] at H
            obtain rfl := Option.some.inj hB3214
            obtain rfl := hO3215 _ rfl
            refine x_A fun a hf => ⟨v3118, c3119, x3120, rfl, r3121, hf.sub ⟨rfl, trivial⟩, H⟩
      · rintro a wd3303 ⟨v3021, c3022, x3023, rfl, r3024, hf, H⟩
        try dsimp only at hF
        refine XX.at hf <| x_then <| C_seq <| R_nd <| nq (Q_move rfl) rfl rfl <| nq (Q_assign rfl) rfl rfl <| WL_nil <| x_then <| C_ret ?_
        obtain rfl := Option.some.inj hF
        exact fn_ret (l := [.tmp 2]) (vs := [v3021]) rfl rfl rfl ⟨v3021, c3022, x3023, rfl, rfl, r3024, H⟩
theorem c_32 {N : Nat} {C : Cx} {w : World} {ρ : View} {hs : List Hl} {v1 : Value} {v4 : Value} {v7 : Value} {x2 : (List (List Int))} {x5 : (List Int)} {x8 : (List Int)} (H : Hp C w ρ (hs)) {ge0 : Value} (gl0 : GErr ρ 0 ge0) (gl1 : GTab ρ 1 .u8 tab_math_bits_deBruijn64tab) (r3 : RdSl ρ (eA 256 (eI .i64)) v1 x2) (r6 : RdSl ρ (eI .i64) v4 x5) (r9 : RdSl ρ (eI .i64) v7 x8) {r : Bool} (hF : F_trim_IsTrim N x2 x5 x8 = some r) :
    Calls Tryd.prog 32 [.agg #[v1, v4, v7]].toArray w (Rets (fun v w' => (∃ (x37 : Bool), x37 = r ∧ .bool x37 = v ∧ Hp C w' ρ (hs)))) := by
  unfold F_trim_IsTrim at hF
  have h0 : Tryd.f32.body = some _ := rfl
  refine fn_calls' Tryd.func32 h0 (n := 14) rfl (by simp) <| C_seq <| R_nd <| ne (E_box H (vs := [v1, v4, v7]) rfl rfl) rfl rfl ?_
  rintro _ wd39 ⟨b38, rfl, H⟩
  refine nq (Q_assign rfl) rfl rfl <| WL_nil <| x_then ?_
  obtain ⟨o52, ho52, hF⟩ := bnd hF
  refine C_cut (fun a w' => ∃ (x51 : Bool), x51 = o52 ∧ Fr 14 a [(2, .bool x51)] ∧ Hp C w' ρ (hs)) ?_ ?_
  · refine R_dr (.take 0 (.one 1 (.take 2 (.take 3 (.take 6 (.take 7 (.take 8 (.one 4 (.one 5 (.take 9 (.take 10 (.take 11 .done)))))))))))) (fun w' => Ok w' ρ [Box b38 [v1, v4, v7]]) (by kernel_rfl) (by kernel_rfl) (by kernel_rfl) (H.drew.okS (by simp)) ?_
    replace H := H.drew
    refine dq (v := .agg #[v1, v4, v7]) rfl (fun _ hw => Q_ldB (k := 0) (cs := [v1, v4, v7]) hw rfl ty25 rfl rfl rfl (fun h => nomatch h) rfl) rfl rfl ?_
    obtain ⟨q53, hq53, ho52⟩ := bnd ho52
    refine d1 (de rfl (E_call fn26 rfl (c_26 H  r3 r6 r9 hq53)) rfl rfl ?_)
    rintro _ wd56 ⟨x55, rfl, rfl, H⟩
    try dsimp only at ho52
    refine ⟨H.okS (by simp), ?_⟩
    refine dq rfl (fun _ _ => Q_move rfl) rfl rfl ?_
    rcases Bool.eq_false_or_eq_true x55 with hb | hb
    · rw [hb]
      replace ho52 := itT hb ho52
      refine dgq (v := .agg #[v1, v4, v7]) rfl (fun _ hw => Q_ldB (k := 0) (cs := [v1, v4, v7]) hw rfl ty25 rfl rfl rfl (fun h => nomatch h) rfl) rfl rfl rfl <| dgq (v := .pointer (some ⟨b38, 0, none⟩)) rfl (fun _ _ => Q_fld Tryd.underlying25 rfl ty22 (by decide) rfl rfl) rfl rfl rfl <| dgq (v := v1) rfl (fun _ hw => Q_ldB (k := 0) (cs := [v1]) hw rfl ty22 rfl rfl rfl (fun _ => rfl) rfl) rfl rfl rfl <| dgq rfl (fun _ _ => Q_len Tryd.underlying22 rfl r3) rfl rfl rfl ?_
      obtain ⟨q57, hq57, ho52⟩ := bnd ho52
      refine d1 (dge rfl (E_call fn62 rfl (c_62 H gl0 gl1 r3 r6 r9 hq57)) rfl rfl rfl ?_)
      rintro _ wd63 ⟨v59, c60, x61, rfl, rfl, r62, H⟩
      try dsimp only at ho52
      refine ⟨H.okS (by simp), ?_⟩
      refine d1 (dge rfl (Eff.quiet (v := .int .i64 (x61.length : Int)) (Q_lenA (k := 0) H.ok rfl r62 (by decide) Tryd.underlying23 rfl)) rfl rfl rfl ?_)
      rintro _ _ ⟨rfl, rfl⟩
      refine ⟨H.okS (by simp), ?_⟩
      refine dgq rfl (fun _ _ => Q_eql rfl rfl) rfl rfl rfl <| dq rfl (fun _ _ => Q_pickT rfl rfl) rfl rfl <| dq rfl (fun _ _ => Q_assign rfl) rfl rfl <| DL_nil ?_
      replace H := H.drop 0 rfl
      dsimp only [List.eraseIdx] at H
      replace H := H.drop 0 rfl
      dsimp only [List.eraseIdx] at H
      obtain rfl := Option.some.inj ho52
      refine x_A fun a hf => ⟨(x61.length : Int) == (x2.length : Int), rfl, hf.sub ⟨rfl, trivial⟩, H⟩
    · rw [hb]
      replace ho52 := itF hb ho52
      refine dgs rfl rfl rfl rfl rfl <| dgs rfl rfl rfl rfl rfl <| dgs rfl rfl rfl rfl rfl <| dgs rfl rfl rfl rfl rfl ?_
      refine d1 (dges rfl rfl rfl rfl rfl ?_)
      refine d1 (dges rfl rfl rfl rfl rfl ?_)
      refine dgs rfl rfl rfl rfl rfl <| dq rfl (fun _ _ => Q_pickF rfl rfl) rfl rfl <| dq rfl (fun _ _ => Q_assign rfl) rfl rfl <| DL_nil ?_
      replace H := H.drop 0 rfl
      dsimp only [List.eraseIdx] at H
      obtain rfl := Option.some.inj ho52
      refine x_A fun a hf => ⟨false, rfl, hf.sub ⟨rfl, trivial⟩, H⟩
  · rintro a wd64 ⟨x51, rfl, hf, H⟩
    try dsimp only at hF
    refine CW.at hf <| C_ret ?_
    obtain rfl := Option.some.inj hF
    exact fn_ret (l := [.tmp 2]) (vs := [.bool x51]) rfl rfl rfl ⟨x51, rfl, rfl, H⟩
theorem c_28 {N : Nat} {C : Cx} {w : World} {ρ : View} {hs : List Hl} (H : Hp C w ρ (hs)) {ge0 : Value} (gl0 : GErr ρ 0 ge0) (gl1 : GTab ρ 1 .u8 tab_math_bits_deBruijn64tab) {r : Bool} (hF : F_dofferlaw18_alive N = some r) :
    Calls Tryd.prog 28 [].toArray w (Rets (fun v w' => (∃ (x63 : Bool), x63 = r ∧ .bool x63 = v ∧ Hp C w' ρ (hs)))) := by
  unfold F_dofferlaw18_alive at hF
  have h0 : Tryd.f28.body = some _ := rfl
  refine fn_calls' Tryd.func28 h0 (n := 20) rfl (by simp) <| C_seq <| R_nd <| nq (Q_assign rfl) rfl rfl <| WL_nil <| x_then <| C_seq <| R_nd ?_
  obtain ⟨x64, hx64, hF⟩ := bnd hF
  obtain ⟨hm66a, hm66b, hm66c⟩ := mk_some hx64
  refine ne (E_make H Tryd.underlying22 ty58 (zs := (repC 256 [.int .i64 0])) rfl (by simp [repC_length]) (by decide) (by decide) rfl hm66a hm66b) rfl rfl ?_
  rintro _ wd67 ⟨b65, rfl, H⟩
  refine ne (E_bslice (xs := [.const (.int .i64 (-1))]) (vs := [.int .i64 (-1)]) H Tryd.underlying23 ty3 (by decide) (cs := [.int .i64 (-1)]) rfl (sz_cons rfl sz_nil) rfl (by simp) (by simp) rfl rfl) rfl rfl ?_
  rintro _ wd69 ⟨b68, rfl, H⟩
  refine ne (E_bslice (xs := [.const (.int .i64 0)]) (vs := [.int .i64 0]) H Tryd.underlying23 ty3 (by decide) (cs := [.int .i64 0]) rfl (sz_cons rfl sz_nil) rfl (by simp) (by simp) rfl rfl) rfl rfl ?_
  rintro _ wd71 ⟨b70, rfl, H⟩
  refine nq (v := .agg #[(.slice (some ⟨b65, 0, none⟩) (1 : Int).toNat (1 : Int).toNat), (.slice (some ⟨b68, 0, none⟩) 1 1), (.slice (some ⟨b70, 0, none⟩) 1 1)]) (Q_buildS st25.choose_spec (ps := [(0, [(.slice (some ⟨b65, 0, none⟩) (1 : Int).toNat (1 : Int).toNat)]), (1, [(.slice (some ⟨b68, 0, none⟩) 1 1)]), (2, [(.slice (some ⟨b70, 0, none⟩) 1 1)])]) rfl ⟨rfl, (arr_cells (H.ok.get (k := 2) rfl)).1, by simp, ⟨rfl, (arr_cells (H.ok.get (k := 1) rfl)).1, by simp, ⟨rfl, (arr_cells (H.ok.get (k := 0) rfl)).1, by simp, trivial⟩⟩⟩ rfl) rfl rfl <| ne (E_alloc H ty25 (zs := [.slice none 0 0, .slice none 0 0, .slice none 0 0]) rfl) rfl rfl ?_
  rintro _ wd73 ⟨b72, rfl, H⟩
  refine ne (E_stB (k := 0) (cs := [(.slice (some ⟨b65, 0, none⟩) (1 : Int).toNat (1 : Int).toNat), (.slice (some ⟨b68, 0, none⟩) 1 1), (.slice (some ⟨b70, 0, none⟩) 1 1)]) (vs' := [(.slice (some ⟨b65, 0, none⟩) (1 : Int).toNat (1 : Int).toNat), (.slice (some ⟨b68, 0, none⟩) 1 1), (.slice (some ⟨b70, 0, none⟩) 1 1)]) H rfl ty25 rfl rfl rfl rfl (one_cons (arr_cells (H.ok.get (k := 3) rfl)).2 (one_cons (arr_cells (H.ok.get (k := 2) rfl)).2 (one_cons (arr_cells (H.ok.get (k := 1) rfl)).2 one_nil))) (by simp) rfl) rfl rfl ?_
  rintro _ wd74 H
  dsimp only [List.set] at H
  refine WL_nil <| x_then ?_
  obtain ⟨o100, ho100, hF⟩ := bnd hF
  refine C_cut (fun a w' => ∃ (x99 : Bool), x99 = o100 ∧ Fr 20 a [(0, .bool x99)] ∧ Hp C w' ρ (hs)) ?_ ?_
  · refine R_nd <| nq (v := .agg #[(.slice (some ⟨b65, 0, none⟩) (1 : Int).toNat (1 : Int).toNat), (.slice (some ⟨b68, 0, none⟩) 1 1), (.slice (some ⟨b70, 0, none⟩) 1 1)]) (Q_ldB (k := 0) (cs := [(.slice (some ⟨b65, 0, none⟩) (1 : Int).toNat (1 : Int).toNat), (.slice (some ⟨b68, 0, none⟩) 1 1), (.slice (some ⟨b70, 0, none⟩) 1 1)]) H.ok rfl ty25 rfl rfl rfl (fun h => nomatch h) rfl) rfl rfl ?_
    replace H := H.front 1 rfl
    dsimp only [List.eraseIdx] at H
    replace H := H.front 2 rfl
    dsimp only [List.eraseIdx] at H
    replace H := H.front 3 rfl
    dsimp only [List.eraseIdx] at H
    obtain ⟨q101, hq101, ho100⟩ := bnd ho100
    obtain ⟨C', ρ', hl102, HA, hL, hback⟩ := Hp.lend (A := []) (L := [Arr (.slice (some ⟨b65, 0, none⟩) (1 : Int).toNat (1 : Int).toNat) 256 (repC (1 : Int).toNat (repC 256 [.int .i64 0])), Arr (.slice (some ⟨b68, 0, none⟩) 1 1) 1 ([.int .i64 (-1)]), Arr (.slice (some ⟨b70, 0, none⟩) 1 1) 1 ([.int .i64 0])]) (F := Box b72 [(.slice (some ⟨b65, 0, none⟩) (1 : Int).toNat (1 : Int).toNat), (.slice (some ⟨b68, 0, none⟩) 1 1), (.slice (some ⟨b70, 0, none⟩) 1 1)] :: hs) H
    refine ne (E_call fn30 rfl (c_30 HA (gl0.up hl102) (GTab.up hl102 gl1) (arr_rd (by decide) hl102 (hL (Arr (.slice (some ⟨b65, 0, none⟩) (1 : Int).toNat (1 : Int).toNat) 256 (repC (1 : Int).toNat (repC 256 [.int .i64 0]))) (by simp)) (hm66c ▸ rdL_rep (e := (eA 256 (eI .i64))) (ρ := ρ) (⟨by simp, rdL_rep (e:=(eI .i64)) (ρ:=ρ) (rfl) 256⟩) _)) (arr_rd (by decide) hl102 (hL (Arr (.slice (some ⟨b68, 0, none⟩) 1 1) 1 ([.int .i64 (-1)])) (by simp)) (show rdL (eI .i64) ρ ([(-1)]) ([.int .i64 (-1)]) from ⟨([.int .i64 (-1)]), _, rfl, rfl, rdL.nil⟩)) (arr_rd (by decide) hl102 (hL (Arr (.slice (some ⟨b70, 0, none⟩) 1 1) 1 ([.int .i64 0])) (by simp)) (show rdL (eI .i64) ρ ([0]) ([.int .i64 0]) from ⟨([.int .i64 0]), _, rfl, rfl, rdL.nil⟩)) hq101)) rfl rfl ?_
    rintro _ wd107 ⟨v103, c104, x105, rfl, rfl, r106, H⟩
    try dsimp only at ho100
    replace H := hback H
    replace r106 := rdL.flat (ρ := ρ') (ρ' := ρ) (flat_I _) r106
    dsimp only [List.cons_append, List.nil_append] at H
    refine ne (E_bslice (xs := [.const (.int .i64 0)]) (vs := [.int .i64 0]) H Tryd.underlying23 ty3 (by decide) (cs := [.int .i64 0]) rfl (sz_cons rfl sz_nil) rfl (by simp) (by simp) rfl rfl) rfl rfl ?_
    rintro _ wd109 ⟨b108, rfl, H⟩
    replace H := H.front 1 rfl
    dsimp only [List.eraseIdx] at H
    obtain ⟨q110, hq110, ho100⟩ := bnd ho100
    obtain ⟨C', ρ', hl111, HA, hL, hback⟩ := Hp.lend (A := []) (L := [Arr v103 1 c104, Arr (.slice (some ⟨b108, 0, none⟩) 1 1) 1 ([.int .i64 0])]) (F := Arr (.slice (some ⟨b65, 0, none⟩) (1 : Int).toNat (1 : Int).toNat) 256 (repC (1 : Int).toNat (repC 256 [.int .i64 0])) :: Arr (.slice (some ⟨b68, 0, none⟩) 1 1) 1 ([.int .i64 (-1)]) :: Arr (.slice (some ⟨b70, 0, none⟩) 1 1) 1 ([.int .i64 0]) :: Box b72 [(.slice (some ⟨b65, 0, none⟩) (1 : Int).toNat (1 : Int).toNat), (.slice (some ⟨b68, 0, none⟩) 1 1), (.slice (some ⟨b70, 0, none⟩) 1 1)] :: hs) H
    refine ne (E_call fn22 rfl (c_22 HA  (arr_rd (by decide) hl111 (hL (Arr v103 1 c104) (by simp)) r106) (arr_rd (by decide) hl111 (hL (Arr (.slice (some ⟨b108, 0, none⟩) 1 1) 1 ([.int .i64 0])) (by simp)) (show rdL (eI .i64) ρ ([0]) ([.int .i64 0]) from ⟨([.int .i64 0]), _, rfl, rfl, rdL.nil⟩)) hq110)) rfl rfl ?_
    rintro _ wd113 ⟨x112, rfl, rfl, H⟩
    try dsimp only at ho100
    replace H := hback H
    dsimp only [List.cons_append, List.nil_append] at H
    refine nq (Q_move rfl) rfl rfl ?_
    rcases Bool.eq_false_or_eq_true x112 with hb | hb
    · rw [hb]
      replace ho100 := itT hb ho100
      refine gq (v := .agg #[(.slice (some ⟨b65, 0, none⟩) (1 : Int).toNat (1 : Int).toNat), (.slice (some ⟨b68, 0, none⟩) 1 1), (.slice (some ⟨b70, 0, none⟩) 1 1)]) (Q_ldB (k := 5) (cs := [(.slice (some ⟨b65, 0, none⟩) (1 : Int).toNat (1 : Int).toNat), (.slice (some ⟨b68, 0, none⟩) 1 1), (.slice (some ⟨b70, 0, none⟩) 1 1)]) H.ok rfl ty25 rfl rfl rfl (fun h => nomatch h) rfl) rfl rfl rfl ?_
      replace H := H.front 4 rfl
      dsimp only [List.eraseIdx] at H
      replace H := H.front 4 rfl
      dsimp only [List.eraseIdx] at H
      replace H := H.front 4 rfl
      dsimp only [List.eraseIdx] at H
      obtain ⟨q114, hq114, ho100⟩ := bnd ho100
      obtain ⟨C', ρ', hl115, HA, hL, hback⟩ := Hp.lend (A := []) (L := [Arr (.slice (some ⟨b65, 0, none⟩) (1 : Int).toNat (1 : Int).toNat) 256 (repC (1 : Int).toNat (repC 256 [.int .i64 0])), Arr (.slice (some ⟨b68, 0, none⟩) 1 1) 1 ([.int .i64 (-1)]), Arr (.slice (some ⟨b70, 0, none⟩) 1 1) 1 ([.int .i64 0])]) (F := Arr v103 1 c104 :: Arr (.slice (some ⟨b108, 0, none⟩) 1 1) 1 ([.int .i64 0]) :: Box b72 [(.slice (some ⟨b65, 0, none⟩) (1 : Int).toNat (1 : Int).toNat), (.slice (some ⟨b68, 0, none⟩) 1 1), (.slice (some ⟨b70, 0, none⟩) 1 1)] :: hs) H
      refine ge (E_call fn31 rfl (c_31 HA (gl0.up hl115) (GTab.up hl115 gl1) (arr_rd (by decide) hl115 (hL (Arr (.slice (some ⟨b65, 0, none⟩) (1 : Int).toNat (1 : Int).toNat) 256 (repC (1 : Int).toNat (repC 256 [.int .i64 0]))) (by simp)) (hm66c ▸ rdL_rep (e := (eA 256 (eI .i64))) (ρ := ρ) (⟨by simp, rdL_rep (e:=(eI .i64)) (ρ:=ρ) (rfl) 256⟩) _)) (arr_rd (by decide) hl115 (hL (Arr (.slice (some ⟨b68, 0, none⟩) 1 1) 1 ([.int .i64 (-1)])) (by simp)) (show rdL (eI .i64) ρ ([(-1)]) ([.int .i64 (-1)]) from ⟨([.int .i64 (-1)]), _, rfl, rfl, rdL.nil⟩)) (arr_rd (by decide) hl115 (hL (Arr (.slice (some ⟨b70, 0, none⟩) 1 1) 1 ([.int .i64 0])) (by simp)) (show rdL (eI .i64) ρ ([0]) ([.int .i64 0]) from ⟨([.int .i64 0]), _, rfl, rfl, rdL.nil⟩)) hq114)) rfl rfl rfl ?_
      rintro _ wd120 ⟨v116, c117, x118, rfl, rfl, r119, H⟩
      try dsimp only at ho100
      replace H := hback H
      replace r119 := rdL.flat (ρ := ρ') (ρ' := ρ) (flat_I _) r119
      dsimp only [List.cons_append, List.nil_append] at H
      refine gq (Q_lenA (k := 0) H.ok rfl r119 (by decide) Tryd.underlying23 rfl) rfl rfl rfl <| gq (Q_eql rfl rfl) rfl rfl rfl <| nq (Q_pickT rfl rfl) rfl rfl <| nq (Q_move rfl) rfl rfl ?_
      rcases Bool.eq_false_or_eq_true ((x118.length : Int) == 0) with hb | hb
      · rw [hb]
        replace ho100 := itT hb ho100
        refine gq (v := .agg #[(.slice (some ⟨b65, 0, none⟩) (1 : Int).toNat (1 : Int).toNat), (.slice (some ⟨b68, 0, none⟩) 1 1), (.slice (some ⟨b70, 0, none⟩) 1 1)]) (Q_ldB (k := 6) (cs := [(.slice (some ⟨b65, 0, none⟩) (1 : Int).toNat (1 : Int).toNat), (.slice (some ⟨b68, 0, none⟩) 1 1), (.slice (some ⟨b70, 0, none⟩) 1 1)]) H.ok rfl ty25 rfl rfl rfl (fun h => nomatch h) rfl) rfl rfl rfl ?_
        replace H := H.front 3 rfl
        dsimp only [List.eraseIdx] at H
        replace H := H.front 3 rfl
        dsimp only [List.eraseIdx] at H
        replace H := H.front 3 rfl
        dsimp only [List.eraseIdx] at H
        obtain ⟨q121, hq121, ho100⟩ := bnd ho100
        obtain ⟨C', ρ', hl122, HA, hL, hback⟩ := Hp.lend (A := []) (L := [Arr (.slice (some ⟨b65, 0, none⟩) (1 : Int).toNat (1 : Int).toNat) 256 (repC (1 : Int).toNat (repC 256 [.int .i64 0])), Arr (.slice (some ⟨b68, 0, none⟩) 1 1) 1 ([.int .i64 (-1)]), Arr (.slice (some ⟨b70, 0, none⟩) 1 1) 1 ([.int .i64 0])]) (F := Arr v116 1 c117 :: Arr v103 1 c104 :: Arr (.slice (some ⟨b108, 0, none⟩) 1 1) 1 ([.int .i64 0]) :: Box b72 [(.slice (some ⟨b65, 0, none⟩) (1 : Int).toNat (1 : Int).toNat), (.slice (some ⟨b68, 0, none⟩) 1 1), (.slice (some ⟨b70, 0, none⟩) 1 1)] :: hs) H
        refine ge (E_call fn32 rfl (c_32 HA (gl0.up hl122) (GTab.up hl122 gl1) (arr_rd (by decide) hl122 (hL (Arr (.slice (some ⟨b65, 0, none⟩) (1 : Int).toNat (1 : Int).toNat) 256 (repC (1 : Int).toNat (repC 256 [.int .i64 0]))) (by simp)) (hm66c ▸ rdL_rep (e := (eA 256 (eI .i64))) (ρ := ρ) (⟨by simp, rdL_rep (e:=(eI .i64)) (ρ:=ρ) (rfl) 256⟩) _)) (arr_rd (by decide) hl122 (hL (Arr (.slice (some ⟨b68, 0, none⟩) 1 1) 1 ([.int .i64 (-1)])) (by simp)) (show rdL (eI .i64) ρ ([(-1)]) ([.int .i64 (-1)]) from ⟨([.int .i64 (-1)]), _, rfl, rfl, rdL.nil⟩)) (arr_rd (by decide) hl122 (hL (Arr (.slice (some ⟨b70, 0, none⟩) 1 1) 1 ([.int .i64 0])) (by simp)) (show rdL (eI .i64) ρ ([0]) ([.int .i64 0]) from ⟨([.int .i64 0]), _, rfl, rfl, rdL.nil⟩)) hq121)) rfl rfl rfl ?_
        rintro _ wd124 ⟨x123, rfl, rfl, H⟩
        try dsimp only at ho100
        replace H := hback H
        dsimp only [List.cons_append, List.nil_append] at H
        refine nq (Q_pickT rfl rfl) rfl rfl <| nq (Q_assign rfl) rfl rfl <| WL_nil ?_
        replace H := H.drop 0 rfl
        dsimp only [List.eraseIdx] at H
        replace H := H.drop 0 rfl
        dsimp only [List.eraseIdx] at H
        replace H := H.drop 0 rfl
        dsimp only [List.eraseIdx] at H
        replace H := H.drop 0 rfl
        dsimp only [List.eraseIdx] at H
        replace H := H.drop 0 rfl
        dsimp only [List.eraseIdx] at H
        replace H := H.drop 0 rfl
        dsimp only [List.eraseIdx] at H
        replace H := H.drop 0 rfl
        dsimp only [List.eraseIdx] at H
        obtain rfl := Option.some.inj ho100
        refine x_A fun a hf => ⟨x123, rfl, hf.sub ⟨rfl, trivial⟩, H⟩
      · rw [hb]
        replace ho100 := itF hb ho100
        refine gs rfl rfl rfl rfl <| gs rfl rfl rfl rfl <| nq (Q_pickF rfl rfl) rfl rfl <| nq (Q_assign rfl) rfl rfl <| WL_nil ?_
        replace H := H.drop 0 rfl
        dsimp only [List.eraseIdx] at H
        replace H := H.drop 0 rfl
        dsimp only [List.eraseIdx] at H
        replace H := H.drop 0 rfl
        dsimp only [List.eraseIdx] at H
        replace H := H.drop 0 rfl
        dsimp only [List.eraseIdx] at H
        replace H := H.drop 0 rfl
        dsimp only [List.eraseIdx] at H
        replace H := H.drop 0 rfl
        dsimp only [List.eraseIdx] at H
        replace H := H.drop 0 rfl
        dsimp only [List.eraseIdx] at H
        obtain rfl := Option.some.inj ho100
        refine x_A fun a hf => ⟨false, rfl, hf.sub ⟨rfl, trivial⟩, H⟩
    · rw [hb]
      replace ho100 := itF hb ho100
      refine gs rfl rfl rfl rfl <| gs rfl rfl rfl rfl <| gs rfl rfl rfl rfl <| gs rfl rfl rfl rfl <| nq (Q_pickF rfl rfl) rfl rfl <| nq (Q_move rfl) rfl rfl <| gs rfl rfl rfl rfl <| gs rfl rfl rfl rfl <| nq (Q_pickF rfl rfl) rfl rfl <| nq (Q_assign rfl) rfl rfl <| WL_nil ?_
      replace H := H.drop 0 rfl
      dsimp only [List.eraseIdx] at H
      replace H := H.drop 0 rfl
      dsimp only [List.eraseIdx] at H
      replace H := H.drop 0 rfl
      dsimp only [List.eraseIdx] at H
      replace H := H.drop 0 rfl
      dsimp only [List.eraseIdx] at H
      replace H := H.drop 0 rfl
      dsimp only [List.eraseIdx] at H
      replace H := H.drop 0 rfl
      dsimp only [List.eraseIdx] at H
      obtain rfl := Option.some.inj ho100
      refine x_A fun a hf => ⟨false, rfl, hf.sub ⟨rfl, trivial⟩, H⟩
  · rintro a wd125 ⟨x99, rfl, hf, H⟩
    try dsimp only at hF
    refine CW.at hf <| C_ret ?_
    obtain rfl := Option.some.inj hF
    exact fn_ret (l := [.tmp 0]) (vs := [.bool x99]) rfl rfl rfl ⟨x99, rfl, rfl, H⟩
theorem c_67 {N : Nat} {C : Cx} {w : World} {ρ : View} {hs : List Hl} {v : Value} {x : (List Int)} (H : Hp C w ρ (hs)) (r3 : RdSl ρ (eI .u8) v x) {r : (List Int)} (hF : F_clone_67 N x = some r) :
    Calls Tryd.prog 67 [v].toArray w (Rets (fun v w' => (∃ (v1 : Value) (c1 : List Value) (x1 : (List Int)), x1 = r ∧ v1 = v ∧ rdL (eI .u8) ρ x1 c1 ∧ Hp C w' ρ (Arr v1 1 c1 :: hs)))) := by
  unfold F_clone_67 at hF
  refine fn_calls' (args := [v]) Tryd.func67 rfl (n := 8) rfl (by simp) ?_
  refine C_seq ?_
  refine R_nd ?_
  refine nq (v := .slice none 0 0) (Q_assign rfl) rfl rfl ?_
  refine WL_nil ?_
  refine x_then ?_
  refine C_seq ?_
  refine C_seq ?_
  refine R_nd ?_
  refine nq (v := v) (Q_move rfl) rfl rfl ?_
  obtain ⟨o, c, news, rfl, hn, hs3⟩ : ∃ o c news, v = .slice o x.length c ∧ rdL (eI .u8) ρ x news ∧ (o = none → x = []) ∧ ∀ h', View.le ρ h' → Src h' v 1 news := by
    rcases r3 with ⟨ad, cap, rfl, rfl⟩ | ⟨b, o, cap, cs, rfl, _, h2, h3⟩
    · exact ⟨ad, cap, [], rfl, rdL.nil, fun _ => rfl, fun _ _ => .inl ⟨ad, cap, rfl, rfl⟩⟩
    · exact ⟨_, cap, cs, rfl, h2, fun h => (nomatch h), fun _ hl => .inr ⟨b, o, _, cap, rfl, h2.len, h3.up hl⟩⟩
  obtain ⟨hs3, hs4⟩ := hs3
  cases o with
  | none =>
    obtain rfl := hs3 rfl
    refine nq (v := .bool true) (Q_eqlS (o := none) Tryd.underlying42 rfl) rfl rfl ?_
    refine WL_nil ?_
    refine x_then ?_
    refine C_cond rfl (fun _ => ?_) (fun h => nomatch h)
    refine C_seq ?_
    refine R_nd ?_
    refine nq (v := .slice none 0 0) (Q_assign rfl) rfl rfl ?_
    refine WL_nil ?_
    refine x_then ?_
    refine C_ret ?_
    refine x_then_ret ?_
    obtain ⟨_, rfl⟩ := app_some hF
    exact fn_ret (l := [.tmp 2]) (vs := [.slice none 0 0]) rfl rfl rfl ⟨_, [], _, rfl, rfl, rdL.nil, H.nilArr 1⟩
  | some a =>
    refine nq (v := .bool false) (Q_eqlS (o := some a) Tryd.underlying42 rfl) rfl rfl ?_
    refine WL_nil ?_
    refine x_then ?_
    refine C_cond rfl (fun h => nomatch h) (fun _ => ?_)
    refine C_skip ?_
    refine x_then ?_
    obtain ⟨ha, rfl⟩ := app_some hF
    refine C_seq ?_
    refine R_nd ?_
    refine ne (E_bslice0 H Tryd.underlying42 ty5) rfl rfl ?_
    rintro _ w1 ⟨b1, rfl, H1⟩
    refine nq (Q_move rfl) rfl rfl ?_
    have hs5 := hs4 _ H1.view
    refine ne (E_append (k := 0) (cs := []) (news := news) H1 rfl Tryd.underlying42 ty5 rfl (by decide) (by decide) rfl rfl hs5 (rdL.one hn) (app_fit rdL.nil hn ha)) rfl rfl ?_
    rintro v2 w2 ⟨H2, _⟩
    refine nq (v := v2) (Q_assign rfl) rfl rfl ?_
    refine WL_nil ?_
    refine x_then ?_
    refine C_ret ?_
    exact fn_ret (l := [.tmp 2]) (vs := [v2]) rfl rfl rfl ⟨v2, _, _, rfl, rfl, rdL.app rdL.nil hn, H2⟩
theorem c_39 {N : Nat} {C : Cx} {w : World} {ρ : View} {hs : List Hl} {v1 : Value} {v4 : Value} {v7 : Value} {x2 : (List (List Int))} {x5 : (List Int)} {x8 : (List Int)} {x10 : Int} {x11 : Int} (H : Hp C w ρ (hs)) {ge0 : Value} (gl0 : GErr ρ 0 ge0) (r3 : RdSl ρ (eA 256 (eI .i64)) v1 x2) (r6 : RdSl ρ (eI .i64) v4 x5) (r9 : RdSl ρ (eI .i64) v7 x8) {r : (Unit ⊕ (List Int))} (hF : F_trim_Shortest N x2 x5 x8 x10 x11 = some r) :
    Calls Tryd.prog 39 [.agg #[v1, v4, v7], .int .i64 x10, .int .i64 x11].toArray w (Rets (fun v w' => (∃ (ρ' : View), .inl () = r ∧ .tuple [(.slice none 0 0), .bool false].toArray = v ∧ View.le ρ ρ' ∧ Hp C w' ρ' (Arr (.slice none 0 0) 1 ([]) :: hs)) ∨ (∃ (ρ' : View) (v6667 : Value) (x6668 : (List Int)), .inr x6668 = r ∧ .tuple [v6667, .bool true].toArray = v ∧ View.le ρ ρ' ∧ RdSl ρ' (eI .u8) v6667 x6668 ∧ Hp C w' ρ' (hs)))) := by
  unfold F_trim_Shortest at hF
  have h0 : Tryd.f39.body = some _ := rfl
  refine fn_calls' Tryd.func39 h0 (n := 90) rfl (by simp) <| C_seq <| R_nd <| ne (E_box H (vs := [v1, v4, v7]) rfl rfl) rfl rfl ?_
  rintro _ wd6671 ⟨b6670, rfl, H⟩
  refine nq (Q_assign rfl) rfl rfl <| nq (Q_assign rfl) rfl rfl <| WL_nil <| x_then <| C_seq ?_
  obtain ⟨o6677, ho6677, hF⟩ := bnd hF
  refine C_cut (fun a w' => ∃ (x6676 : Bool), x6676 = o6677 ∧ Fr 90 a [(1, .int .i64 x10), (2, .int .i64 x11), (3, .pointer (some ⟨b6670, 0, none⟩)), (30, .bool x6676)] ∧ Hp C w' ρ (Box b6670 [v1, v4, v7] :: hs)) ?_ ?_
  · refine R_nd <| nq (v := .agg #[v1, v4, v7]) (Q_ldB (k := 0) (cs := [v1, v4, v7]) H.ok rfl ty25 rfl rfl rfl (fun h => nomatch h) rfl) rfl rfl ?_
    obtain ⟨q6678, hq6678, ho6677⟩ := bnd ho6677
    refine ne (E_call fn26 rfl (c_26 H  r3 r6 r9 hq6678)) rfl rfl ?_
    rintro _ wd6681 ⟨x6680, rfl, rfl, H⟩
    try dsimp only at ho6677
    refine nq (Q_not rfl) rfl rfl <| nq (Q_move rfl) rfl rfl ?_
    rcases Bool.eq_false_or_eq_true (!x6680) with hb | hb
    · rw [hb]
      replace ho6677 := itT hb ho6677
      refine gs rfl rfl rfl rfl <| gs rfl rfl rfl rfl <| nq (Q_pickT rfl rfl) rfl rfl <| nq (Q_move rfl) rfl rfl <| gs rfl rfl rfl rfl <| gs rfl rfl rfl rfl <| nq (Q_pickT rfl rfl) rfl rfl <| nq (Q_move rfl) rfl rfl <| gs rfl rfl rfl rfl <| gs rfl rfl rfl rfl <| gs rfl rfl rfl rfl <| gs rfl rfl rfl rfl <| gs rfl rfl rfl rfl <| nq (Q_pickT rfl rfl) rfl rfl ?_
      refine WL_nil ?_
      obtain rfl := Option.some.inj ho6677
      refine x_A fun a hf => ⟨true, rfl, hf.sub ⟨rfl, rfl, rfl, rfl, trivial⟩, H⟩
    · rw [hb]
      replace ho6677 := itF hb ho6677
      refine gq (Q_move rfl) rfl rfl rfl <| gq (Q_eql rfl rfl) rfl rfl rfl <| nq (Q_pickF rfl rfl) rfl rfl <| nq (Q_move rfl) rfl rfl ?_
      rcases Bool.eq_false_or_eq_true (x11 == (-1)) with hb | hb
      · rw [hb]
        replace ho6677 := itT hb ho6677
        refine gs rfl rfl rfl rfl <| gs rfl rfl rfl rfl <| nq (Q_pickT rfl rfl) rfl rfl <| nq (Q_move rfl) rfl rfl <| gs rfl rfl rfl rfl <| gs rfl rfl rfl rfl <| gs rfl rfl rfl rfl <| gs rfl rfl rfl rfl <| gs rfl rfl rfl rfl <| nq (Q_pickT rfl rfl) rfl rfl <| WL_nil ?_
        obtain rfl := Option.some.inj ho6677
        refine x_A fun a hf => ⟨true, rfl, hf.sub ⟨rfl, rfl, rfl, rfl, trivial⟩, H⟩
      · rw [hb]
        replace ho6677 := itF hb ho6677
        refine gq (Q_move rfl) rfl rfl rfl <| gq (Q_lss rfl rfl) rfl rfl rfl <| nq (Q_pickF rfl rfl) rfl rfl <| nq (Q_move rfl) rfl rfl ?_
        rcases Bool.eq_false_or_eq_true (decide (x10 < 0)) with hb | hb
        · rw [hb]
          replace ho6677 := itT hb ho6677
          refine gs rfl rfl rfl rfl <| gs rfl rfl rfl rfl <| gs rfl rfl rfl rfl <| gs rfl rfl rfl rfl <| gs rfl rfl rfl rfl <| nq (Q_pickT rfl rfl) rfl rfl <| WL_nil ?_
          obtain rfl := Option.some.inj ho6677
          refine x_A fun a hf => ⟨true, rfl, hf.sub ⟨rfl, rfl, rfl, rfl, trivial⟩, H⟩
        · rw [hb]
          replace ho6677 := itF hb ho6677
          refine gq (Q_move rfl) rfl rfl rfl <| gq (v := .pointer (some ⟨b6670, 2, none⟩)) (Q_fld Tryd.underlying25 rfl ty23 (by decide) rfl rfl) rfl rfl rfl <| gq (v := v7) (Q_ldB (k := 0) (cs := [v7]) H.ok rfl ty23 rfl rfl rfl (fun _ => rfl) rfl) rfl rfl rfl <| gq (Q_len Tryd.underlying23 rfl r9) rfl rfl rfl <| gq (Q_geq rfl rfl) rfl rfl rfl <| nq (Q_pickF rfl rfl) rfl rfl <| WL_nil ?_
          obtain rfl := Option.some.inj ho6677
          refine x_A fun a hf => ⟨decide (x10 ≥ (x8.length : Int)), rfl, hf.sub ⟨rfl, rfl, rfl, rfl, trivial⟩, H⟩
  · rintro a wd6682 ⟨x6676, rfl, hf, H⟩
    try dsimp only at hF
    refine CW.at hf ?_
    refine C_cond rfl (fun hb => ?_) (fun hb => ?_)
    · replace hF := itT hb hF
      refine C_seq <| R_nd <| nq (Q_assign rfl) rfl rfl <| nq (Q_assign rfl) rfl rfl <| WL_nil <| x_then <| C_ret <| x_then_ret ?_
      have H := H.nilArr 1
      replace H := H.drop 1 rfl
      dsimp only [List.eraseIdx] at H
      obtain rfl := Option.some.inj hF
      exact fn_ret (l := [.tmp 6, .tmp 7]) (vs := [(.slice none 0 0), .bool false]) rfl rfl rfl (.inl ⟨ρ, rfl, rfl, (View.le_refl _), H⟩)
    · replace hF := itF hb hF
      refine C_skip <| x_then <| C_seq <| R_dr (.take 0 (.take 1 (.take 2 (.take 3 (.take 4 (.take 5 (.one 6 (.one 7 (.take 8 .done))))))))) (fun w' => Ok w' ρ [Box b6670 [v1, v4, v7]]) (by kernel_rfl) (by kernel_rfl) (by kernel_rfl) (H.drew.okS (by simp)) ?_
      replace H := H.drew
      refine dq (v := .agg #[v1, v4, v7]) rfl (fun _ hw => Q_ldB (k := 0) (cs := [v1, v4, v7]) hw rfl ty25 rfl rfl rfl (fun h => nomatch h) rfl) rfl rfl <| dq (v := .pointer (some ⟨b6670, 2, none⟩)) rfl (fun _ _ => Q_fld Tryd.underlying25 rfl ty23 (by decide) rfl rfl) rfl rfl <| dq (v := v7) rfl (fun _ hw => Q_ldB (k := 0) (cs := [v7]) hw rfl ty23 rfl rfl rfl (fun _ => rfl) rfl) rfl rfl <| dq rfl (fun _ _ => Q_move rfl) rfl rfl ?_
      obtain ⟨x6683, hx6683, hF⟩ := bnd hF
      obtain ⟨b6684, o6685, c6686, hc6687, ha6688, hi6689⟩ := idxR r9 hx6683
      refine dq rfl (fun _ _ => Q_idx hi6689 Tryd.underlying23 ty3 rfl rfl) rfl rfl <| dq (v := .int .i64 x6683) rfl (fun _ hw => Q_ld (show cellsAt _ _ _ [.int .i64 x6683] from (show _ = [_] from hc6687) ▸ (ha6688.up hw.view)) ty3 rfl (fun _ => rfl) rfl rfl) rfl rfl ?_
      refine d1 (de rfl (E_bslice (xs := [.tmp 36]) (vs := [.int .i64 x6683]) H Tryd.underlying23 ty3 (by decide) (cs := [.int .i64 x6683]) rfl (sz_cons rfl sz_nil) rfl (by simp) (by simp) rfl rfl) rfl rfl ?_)
      rintro _ wd6691 ⟨b6690, rfl, H⟩
      refine ⟨H.okS (by simp), ?_⟩
      obtain ⟨q6692, hq6692, hF⟩ := bnd hF
      obtain ⟨C', ρ', hl6693, HA, hL, hback⟩ := Hp.lend (A := []) (L := [Arr (.slice (some ⟨b6690, 0, none⟩) 1 1) 1 ([.int .i64 x6683])]) (F := Box b6670 [v1, v4, v7] :: hs) H
      refine d1 (de rfl (E_call fn66 rfl (c_66 HA (gl0.up hl6693) (r3.up hl6693) (r6.up hl6693) (r9.up hl6693) (arr_rd (by decide) hl6693 (hL (Arr (.slice (some ⟨b6690, 0, none⟩) 1 1) 1 ([.int .i64 x6683])) (by simp)) (show rdL (eI .i64) ρ ([x6683]) ([.int .i64 x6683]) from ⟨([.int .i64 x6683]), _, rfl, rfl, rdL.nil⟩)) hq6692)) rfl rfl ?_)
      rintro _ wd6699 (⟨rfl, rfl, H⟩ | ⟨b6694, v6695, c6696, x6697, rfl, rfl, r6698, H⟩)
      · try dsimp only at hF
        replace H := hback H
        dsimp only [List.cons_append, List.nil_append] at H
        refine ⟨H.okS (by simp), ?_⟩
        refine dq rfl (fun _ _ => Q_assign rfl) rfl rfl <| DL_nil <| x_then <| C_seq <| R_nd <| nq (v := .pointer (some ⟨b6670, 2, none⟩)) (Q_fld Tryd.underlying25 rfl ty23 (by decide) rfl rfl) rfl rfl <| nq (v := v7) (Q_ldB (k := 1) (cs := [v7]) H.ok rfl ty23 rfl rfl rfl (fun _ => rfl) rfl) rfl rfl <| nq (Q_move rfl) rfl rfl ?_
        obtain ⟨x6700, hx6700, hF⟩ := bnd hF
        obtain ⟨b6701, o6702, c6703, hc6704, ha6705, hi6706⟩ := idxR r9 hx6700
        refine nq (Q_idx hi6706 Tryd.underlying23 ty3 rfl rfl) rfl rfl <| nq (v := .int .i64 x6700) (Q_ld (show cellsAt _ _ _ [.int .i64 x6700] from (show _ = [_] from hc6704) ▸ (ha6705.up H.ok.view)) ty3 rfl (fun _ => rfl) rfl rfl) rfl rfl <| nq (v := .agg #[.int .i64 x6700, .slice none 0 0]) (Q_buildS st76.choose_spec (ps := [(0, [.int .i64 x6700])]) rfl ⟨rfl, rfl, by simp, trivial⟩ rfl) rfl rfl <| ne (E_bslice (xs := [.tmp 44]) (vs := [.agg #[.int .i64 x6700, .slice none 0 0]]) H Tryd.underlying77 ty76 (by decide) (cs := [.int .i64 x6700, .slice none 0 0]) rfl (sz_cons rfl sz_nil) rfl (by simp) (by simp) rfl rfl) rfl rfl ?_
        rintro _ wd6708 ⟨b6707, rfl, H⟩
        refine nq (Q_assign rfl) rfl rfl <| WL_nil <| x_then ?_
        obtain ⟨o7142, ho7142, hF⟩ := bnd hF
        refine C_cut (fun a w' => .inl () = o7142 ∧ Fr 90 a [] ∧ Hp C w' ρ (hs)) ?_ ?_
        · refine C_block ?_
          replace H := H.front 2 rfl
          dsimp only [List.eraseIdx] at H
          replace H := H.drop 2 rfl
          dsimp only [List.eraseIdx] at H
          refine C_iter (f := fun s => F_trim_Shortest_l0 N x2 x5 x11 s) ho7142 (fun s a w' => ∃ (v7286 : Value) (c7287 : (List Value)) (x7288 : (List (Int × (List Int)))), x7288 = s ∧ rdL (eP (eI .i64) (eL (eI .u8))) ρ x7288 c7287 ∧ Fr 90 a [(2, .int .i64 x11), (3, .pointer (some ⟨b6670, 0, none⟩)), (8, .pointer none), (9, v7286)] ∧ Hp C w' ρ (Box b6670 [v1, v4, v7] :: Arr v7286 2 c7287 :: hs)) ?_ ?_
          · exact fun a hf => ⟨(.slice (some ⟨b6707, 0, none⟩) 1 1), [.int .i64 x6700, .slice none 0 0], [(x6700, [])], rfl, (show rdL (eP (eI .i64) (eL (eI .u8))) ρ ([(x6700, [])]) ([.int .i64 x6700, .slice none 0 0]) from ⟨([.int .i64 x6700, .slice none 0 0]), _, rfl, ⟨[.int .i64 x6700], _, rfl, rfl, ⟨_, rfl, RdSl.nil⟩⟩, rdL.nil⟩), hf.sub ⟨rfl, rfl, rfl, rfl, trivial⟩, H⟩
          · rintro s o7433 a wd7436 ⟨v7286, c7287, x7288, rfl, r7289, hf, H⟩ hB7434 hO7435
            replace hB7434 : F_trim_Shortest_l0 N x2 x5 x11 x7288 = some o7433 := hB7434
            unfold F_trim_Shortest_l0 at hB7434
            refine CW.at hf <| C_seq <| C_seq <| R_nd <| nq (Q_move rfl) rfl rfl <| nq (Q_lenA (k := 1) H.ok rfl r7289 (by decide) Tryd.underlying77 rfl) rfl rfl <| nq (Q_gtr rfl rfl) rfl rfl <| WL_nil <| x_then ?_
            refine C_cond rfl (fun hb => ?_) (fun hb => ?_)
            · replace hB7434 := itT hb hB7434
              refine C_skip <| x_then <| C_block <| C_seq <| R_nd <| nq (Q_move rfl) rfl rfl ?_
              obtain ⟨x7437, hx7437, hB7434⟩ := bnd hB7434
              obtain ⟨b7438, o7439, hi7443, hc7441, ha7442⟩ := arr_at (hs := [Arr v7286 2 c7287]) (k := 0) (by decide) (H.okS (by simp)) rfl r7289 hx7437
              refine nq (Q_idx hi7443 Tryd.underlying77 ty76 rfl rfl) rfl rfl ?_
              obtain ⟨c7444, c7445, he7446, hc7447, hc7448⟩ := hc7441
              obtain ⟨v7449, he7450, r7451⟩ := hc7448
              refine nq (v := .agg #[.int .i64 x7437.1, v7449]) (Q_ld (show cellsAt _ _ _ [.int .i64 x7437.1, v7449] from cellsAt.cg (cat2 he7446 (rdI hc7447) he7450) (ha7442 _ (Ok.subS (by simp) H.ok))) ty76 rfl (fun h => nomatch h) rfl rfl) rfl rfl <| ne (E_alloc H ty76 (zs := [.int .i64 0, .slice none 0 0]) rfl) rfl rfl ?_
              rintro _ wd7453 ⟨b7452, rfl, H⟩
              refine ne (E_stB (k := 0) (cs := [.int .i64 x7437.1, v7449]) (vs' := [.int .i64 x7437.1, v7449]) H rfl ty76 rfl rfl rfl rfl (one_cons rfl (one_cons (RdSl.one r7451) one_nil)) (by simp) rfl) rfl rfl ?_
              rintro _ wd7454 H
              dsimp only [List.set] at H
              refine WL_nil <| x_then <| C_seq <| R_nd <| nq (Q_move rfl) rfl rfl ?_
              obtain ⟨x7455, hx7455, hB7434⟩ := bnd hB7434
              obtain ⟨v7457, c7460, H, r7458, hq7461⟩ := sliceW (P := Tryd.prog) (en := (eP (eI .i64) (eL (eI .u8)))) (k := 2) H rfl (by decide) r7289 hx7455
              dsimp only [List.set] at H
              refine nq (v := v7457) (hq7461 _ _ _ _ _ _ _ _ _ _ _ _ _ _ _ Tryd.underlying77 ty76 rfl ⟨_, rfl⟩ rfl) rfl rfl <| nq (Q_assign rfl) rfl rfl <| WL_nil <| x_then <| C_seq <| C_seq <| R_nd <| nq (v := .pointer (some ⟨b6670, 1, none⟩)) (Q_fld Tryd.underlying25 rfl ty23 (by decide) rfl rfl) rfl rfl <| nq (v := v4) (Q_ldB (k := 1) (cs := [v4]) H.ok rfl ty23 rfl rfl rfl (fun _ => rfl) rfl) rfl rfl <| nq (v := .pointer (some ⟨b7452, 0, none⟩)) (Q_fld Tryd.underlying76 rfl ty3 (by decide) rfl rfl) rfl rfl <| nq (v := .int .i64 x7437.1) (Q_ldB (k := 0) (cs := [.int .i64 x7437.1]) H.ok rfl ty3 rfl rfl rfl (fun _ => rfl) rfl) rfl rfl ?_
              obtain ⟨x7462, hx7462, hB7434⟩ := bnd hB7434
              obtain ⟨b7463, o7464, c7465, hc7466, ha7467, hi7468⟩ := idxR r6 hx7462
              refine nq (Q_idx hi7468 Tryd.underlying23 ty3 rfl rfl) rfl rfl <| nq (v := .int .i64 x7462) (Q_ld (show cellsAt _ _ _ [.int .i64 x7462] from (show _ = [_] from hc7466) ▸ (ha7467.up H.ok.view)) ty3 rfl (fun _ => rfl) rfl rfl) rfl rfl <| nq (Q_move rfl) rfl rfl <| nq (Q_eql rfl rfl) rfl rfl <| WL_nil <| x_then ?_
              refine C_cond rfl (fun hb => ?_) (fun hb => ?_)
              · replace hB7434 := itT hb hB7434
                refine C_seq <| R_nd <| nq (v := .pointer (some ⟨b7452, 1, none⟩)) (Q_fld Tryd.underlying76 rfl ty42 (by decide) rfl rfl) rfl rfl <| nq (v := v7449) (Q_ldB (k := 0) (cs := [v7449]) H.ok rfl ty42 rfl rfl rfl (fun _ => rfl) rfl) rfl rfl <| nq (Q_assign rfl) rfl rfl <| nq (Q_assign rfl) rfl rfl <| WL_nil <| x_then <| C_ret <| x_then_ret <| x_block_ret <| x_then_ret <| x_block_ret <| x_then_ret ?_
                replace H := H.drop 0 rfl
                dsimp only [List.eraseIdx] at H
                replace H := H.drop 0 rfl
                dsimp only [List.eraseIdx] at H
                replace H := H.drop 0 rfl
                dsimp only [List.eraseIdx] at H
                obtain rfl := Option.some.inj hB7434
                obtain rfl := hO7435 _ rfl
                obtain rfl := Option.some.inj (show some _ = some _ from hF)
                exact fn_ret (l := [.tmp 6, .tmp 7]) (vs := [v7449, .bool true]) rfl rfl rfl (.inr ⟨ρ, v7449, x7437.2, rfl, rfl, (View.le_refl _), r7451, H⟩)
              · replace hB7434 := itF hb hB7434
                refine C_skip <| x_then <| C_seq <| R_nd <| nq (v := .pointer (some ⟨b6670, 0, none⟩)) (Q_fld Tryd.underlying25 rfl ty22 (by decide) rfl rfl) rfl rfl <| nq (v := v1) (Q_ldB (k := 1) (cs := [v1]) H.ok rfl ty22 rfl rfl rfl (fun _ => rfl) rfl) rfl rfl <| nq (v := .pointer (some ⟨b7452, 0, none⟩)) (Q_fld Tryd.underlying76 rfl ty3 (by decide) rfl rfl) rfl rfl <| nq (v := .int .i64 x7437.1) (Q_ldB (k := 0) (cs := [.int .i64 x7437.1]) H.ok rfl ty3 rfl rfl rfl (fun _ => rfl) rfl) rfl rfl ?_
                obtain ⟨x7469, hx7469, hB7434⟩ := bnd hB7434
                obtain ⟨b7470, o7471, c7472, hc7473, ha7474, hi7475⟩ := idxR r3 hx7469
                refine nq (Q_idx hi7475 Tryd.underlying22 ty58 rfl rfl) rfl rfl <| nq (v := .agg c7472.toArray) (Q_ld (ha7474.up H.ok.view) ty58 ((eA 256 (eI .i64)).len hc7473) (fun h => nomatch h) rfl rfl) rfl rfl <| nq (Q_move rfl) rfl rfl <| WL_nil <| x_then ?_
                obtain ⟨o7525, ho7525, hB7434⟩ := bnd hB7434
                refine C_cutQ (fun a w' => Fr 90 a [(2, .int .i64 x11), (3, .pointer (some ⟨b6670, 0, none⟩)), (8, .pointer none), (9, v7457)] ∧ Hp C w' ρ (Box b6670 [v1, v4, v7] :: Arr v7457 2 c7460 :: hs)) ?_ ?_
                · refine C_block ?_
                  replace H := H.front 2 rfl
                  dsimp only [List.eraseIdx] at H
                  replace H := H.front 2 rfl
                  dsimp only [List.eraseIdx] at H
                  replace H := H.front 2 rfl
                  dsimp only [List.eraseIdx] at H
                  refine C_iter (f := fun s => F_trim_Shortest_l1 N x7469 s) ho7525 (fun s a w' => ∃ (x7541 : Int), x7541 = s ∧ Fr 90 a [(2, .int .i64 x11), (3, .pointer (some ⟨b6670, 0, none⟩)), (8, .pointer none), (9, v7457), (10, .pointer (some ⟨b7452, 0, none⟩)), (69, .agg c7472.toArray), (70, .int .i64 x7541)] ∧ Hp C w' ρ (Box b7452 [.int .i64 x7437.1, v7449] :: Box b6670 [v1, v4, v7] :: Arr v7457 2 c7460 :: hs)) ?_ ?_
                  · exact fun a hf => ⟨0, rfl, hf.sub ⟨rfl, rfl, rfl, rfl, rfl, rfl, rfl, trivial⟩, H⟩
                  · rintro s o7557 a wd7560 ⟨x7541, rfl, hf, H⟩ hB7558 hO7559
                    replace hB7558 : F_trim_Shortest_l1 N x7469 x7541 = some o7557 := hB7558
                    unfold F_trim_Shortest_l1 at hB7558
                    refine CW.at hf <| C_seq <| R_nd <| nq (Q_lss rfl rfl) rfl rfl <| WL_nil <| x_then <| C_seq ?_
                    refine C_cond rfl (fun hb => ?_) (fun hb => ?_)
                    · replace hB7558 := itT hb hB7558
                      refine C_skip <| x_then ?_
                      obtain ⟨o7567, ho7567, hB7558⟩ := bnd hB7558
                      refine C_cut (fun a w' => Fr 90 a [(2, .int .i64 x11), (3, .pointer (some ⟨b6670, 0, none⟩)), (8, .pointer none), (9, v7457), (10, .pointer (some ⟨b7452, 0, none⟩)), (69, .agg c7472.toArray), (70, .int .i64 x7541)] ∧ Hp C w' ρ (Box b7452 [.int .i64 x7437.1, v7449] :: Box b6670 [v1, v4, v7] :: Arr v7457 2 c7460 :: hs)) ?_ ?_
                      · refine C_block <| C_seq <| R_nd <| nq (Q_move rfl) rfl rfl ?_
                        obtain ⟨x7568, hx7568, ho7567⟩ := bnd ho7567
                        refine nq (Q_ixI hc7473.2 hc7473.1 hx7568 Tryd.underlying58 rfl rfl ty3 rfl) rfl rfl <| nq (Q_assign rfl) rfl rfl <| nq (Q_assign rfl) rfl rfl <| WL_nil <| x_then <| C_seq <| R_nd <| nq (Q_move rfl) rfl rfl <| nq (Q_move rfl) rfl rfl ?_
                        obtain ⟨q7569, hq7569, ho7567⟩ := bnd ho7567
                        refine ne (E_call fn52 rfl (c_52_1 H   hq7569)) rfl rfl ?_
                        rintro _ wd7571 ⟨rfl, rfl, H⟩
                        try dsimp only at ho7567
                        refine WL_nil <| x_then ?_
                        obtain ⟨o7572, ho7572, ho7567⟩ := bnd ho7567
                        refine C_cutQ (fun a w' => Fr 90 a [(2, .int .i64 x11), (3, .pointer (some ⟨b6670, 0, none⟩)), (8, .pointer none), (9, v7457), (10, .pointer (some ⟨b7452, 0, none⟩)), (69, .agg c7472.toArray), (70, .int .i64 x7541)] ∧ Hp C w' ρ (Box b7452 [.int .i64 x7437.1, v7449] :: Box b6670 [v1, v4, v7] :: Arr v7457 2 c7460 :: hs)) ?_ ?_
                        · refine C_cond rfl (fun h => nomatch h) (fun _ => ?_)
                          refine C_skip ?_
                          replace H := H.front 2 rfl
                          dsimp only [List.eraseIdx] at H
                          replace H := H.front 2 rfl
                          dsimp only [List.eraseIdx] at H
                          replace H := H.front 2 rfl
                          dsimp only [List.eraseIdx] at H
                          obtain rfl := Option.some.inj ho7572
                          refine x_A fun a hf => ⟨hf.sub ⟨rfl, rfl, rfl, rfl, rfl, rfl, rfl, trivial⟩, H⟩
                        · rintro a wd7573 ⟨hf, H⟩
                          try dsimp only at ho7567
                          refine XX.at hf <| x_block ?_
                          replace H := H.front 2 rfl
                          dsimp only [List.eraseIdx] at H
                          replace H := H.front 2 rfl
                          dsimp only [List.eraseIdx] at H
                          replace H := H.front 2 rfl
                          dsimp only [List.eraseIdx] at H
                          obtain rfl := Option.some.inj ho7567
                          refine x_A fun a hf => ⟨hf.sub ⟨rfl, rfl, rfl, rfl, rfl, rfl, rfl, trivial⟩, H⟩
                      · rintro a wd7574 ⟨hf, H⟩
                        try dsimp only at hB7558
                        refine CW.at hf <| R_nd <| nq (Q_add rfl rfl) rfl rfl <| nq (Q_move rfl) rfl rfl <| WL_nil ?_
                        replace H := H.front 2 rfl
                        dsimp only [List.eraseIdx] at H
                        replace H := H.front 2 rfl
                        dsimp only [List.eraseIdx] at H
                        replace H := H.front 2 rfl
                        dsimp only [List.eraseIdx] at H
                        obtain rfl := Option.some.inj hB7558
                        refine x_A fun a hf => ⟨_, rfl, w64 (x7541 + 1), rfl, hf.sub ⟨rfl, rfl, rfl, rfl, rfl, rfl, rfl, trivial⟩, H⟩
                    · replace hB7558 := itF hb hB7558
                      refine C_exit <| x_then_exit <| x_then_exit <| x_block_exit ?_
                      replace H := H.front 2 rfl
                      dsimp only [List.eraseIdx] at H
                      replace H := H.front 2 rfl
                      dsimp only [List.eraseIdx] at H
                      replace H := H.drop 2 rfl
                      dsimp only [List.eraseIdx] at H
                      obtain rfl := Option.some.inj hB7558
                      obtain rfl := hO7559 _ rfl
                      refine x_A fun a hf => ⟨hf.sub ⟨rfl, rfl, rfl, rfl, trivial⟩, H⟩
                · rintro a wd7575 ⟨hf, H⟩
                  try dsimp only at hB7434
                  refine XX.at hf <| x_block ?_
                  replace H := H.front 1 rfl
                  dsimp only [List.eraseIdx] at H
                  replace H := H.front 1 rfl
                  dsimp only [List.eraseIdx] at H
                  obtain rfl := Option.some.inj hB7434
                  refine x_A fun a hf => ⟨_, rfl, v7457, c7460, x7455, rfl, r7458, hf.sub ⟨rfl, rfl, rfl, rfl, trivial⟩, H⟩
            · replace hB7434 := itF hb hB7434
              refine C_exit <| x_then_exit <| x_then_exit <| x_block_exit ?_
              replace H := H.drop 0 rfl
              dsimp only [List.eraseIdx] at H
              replace H := H.drop 0 rfl
              dsimp only [List.eraseIdx] at H
              obtain rfl := Option.some.inj hB7434
              obtain rfl := hO7435 _ rfl
              refine x_A fun a hf => ⟨rfl, hf.sub trivial, H⟩
        · rintro a wd7576 ⟨rfl, hf, H⟩
          try dsimp only at hF
          refine CW.at hf <| C_seq <| R_nd <| nq (Q_assign rfl) rfl rfl <| nq (Q_assign rfl) rfl rfl <| WL_nil <| x_then <| C_ret ?_
          have H := H.nilArr 1
          obtain rfl := Option.some.inj hF
          exact fn_ret (l := [.tmp 6, .tmp 7]) (vs := [(.slice none 0 0), .bool false]) rfl rfl rfl (.inl ⟨ρ, rfl, rfl, (View.le_refl _), H⟩)
      · try dsimp only at hF
        replace H := hback H
        replace r6698 := rdL.flat (ρ := ρ') (ρ' := ρ) (flat_I _) r6698
        dsimp only [List.cons_append, List.nil_append] at H
        refine ⟨H.okS (by simp), ?_⟩
        refine dq rfl (fun _ _ => Q_assign rfl) rfl rfl <| DL_nil <| x_then <| C_seq <| R_nd <| nq (v := .pointer (some ⟨b6670, 2, none⟩)) (Q_fld Tryd.underlying25 rfl ty23 (by decide) rfl rfl) rfl rfl <| nq (v := v7) (Q_ldB (k := 3) (cs := [v7]) H.ok rfl ty23 rfl rfl rfl (fun _ => rfl) rfl) rfl rfl <| nq (Q_move rfl) rfl rfl ?_
        obtain ⟨x7577, hx7577, hF⟩ := bnd hF
        obtain ⟨b7578, o7579, c7580, hc7581, ha7582, hi7583⟩ := idxR r9 hx7577
        refine nq (Q_idx hi7583 Tryd.underlying23 ty3 rfl rfl) rfl rfl <| nq (v := .int .i64 x7577) (Q_ld (show cellsAt _ _ _ [.int .i64 x7577] from (show _ = [_] from hc7581) ▸ (ha7582.up H.ok.view)) ty3 rfl (fun _ => rfl) rfl rfl) rfl rfl <| nq (v := .agg #[.int .i64 x7577, .slice none 0 0]) (Q_buildS st76.choose_spec (ps := [(0, [.int .i64 x7577])]) rfl ⟨rfl, rfl, by simp, trivial⟩ rfl) rfl rfl <| ne (E_bslice (xs := [.tmp 44]) (vs := [.agg #[.int .i64 x7577, .slice none 0 0]]) H Tryd.underlying77 ty76 (by decide) (cs := [.int .i64 x7577, .slice none 0 0]) rfl (sz_cons rfl sz_nil) rfl (by simp) (by simp) rfl rfl) rfl rfl ?_
        rintro _ wd7585 ⟨b7584, rfl, H⟩
        refine nq (Q_assign rfl) rfl rfl <| WL_nil <| x_then ?_
        obtain ⟨o10453, ho10453, hF⟩ := bnd hF
        refine C_cut (fun a w' => ∃ (ρ' : View), View.le ρ ρ' ∧ .inl () = o10453 ∧ Fr 90 a [] ∧ Hp C w' ρ' (hs)) ?_ ?_
        · refine C_block ?_
          replace H := H.front 2 rfl
          dsimp only [List.eraseIdx] at H
          replace H := H.front 2 rfl
          dsimp only [List.eraseIdx] at H
          replace H := H.front 4 rfl
          dsimp only [List.eraseIdx] at H
          replace H := H.drop 4 rfl
          dsimp only [List.eraseIdx] at H
          refine C_iter (f := fun s => F_trim_Shortest_l2 N x2 x5 x11 s.1 s.2) ho10453 (fun s a w' => ∃ (ρ' : View) (c11408 : (List Value)) (v11411 : Value) (c11412 : (List Value)) (x11409 : (List Int)) (x11413 : (List (Int × (List Int)))), View.le ρ ρ' ∧ (x11409, x11413) = s ∧ rdL (eI .u64) ρ' x11409 c11408 ∧ rdL (eP (eI .i64) (eL (eI .u8))) ρ' x11413 c11412 ∧ Fr 90 a [(2, .int .i64 x11), (3, .pointer (some ⟨b6670, 0, none⟩)), (8, .pointer (some ⟨b6694, 0, none⟩)), (9, v11411)] ∧ Hp C w' ρ' (Box b6670 [v1, v4, v7] :: Box b6694 [v6695, .int .i64 (x2.length : Int)] :: Arr v6695 1 c11408 :: Arr v11411 2 c11412 :: hs)) ?_ ?_
          · exact fun a hf => ⟨ρ, c6696, (.slice (some ⟨b7584, 0, none⟩) 1 1), [.int .i64 x7577, .slice none 0 0], x6697, [(x7577, [])], (View.le_refl _), rfl, r6698, (show rdL (eP (eI .i64) (eL (eI .u8))) ρ ([(x7577, [])]) ([.int .i64 x7577, .slice none 0 0]) from ⟨([.int .i64 x7577, .slice none 0 0]), _, rfl, ⟨[.int .i64 x7577], _, rfl, rfl, ⟨_, rfl, RdSl.nil⟩⟩, rdL.nil⟩), hf.sub ⟨rfl, rfl, rfl, rfl, trivial⟩, H⟩
          · rintro s o12369 a wd12372 ⟨ρ, c11408, v11411, c11412, x11409, x11413, lw12373, rfl, r11410, r11414, hf, H⟩ hB12370 hO12371
            replace hB12370 : F_trim_Shortest_l2 N x2 x5 x11 x11409 x11413 = some o12369 := hB12370
            unfold F_trim_Shortest_l2 at hB12370
            refine CW.at hf ?_
            replace r3 := RdSl.up lw12373 r3
            replace r6 := RdSl.up lw12373 r6
            replace r9 := RdSl.up lw12373 r9
            replace gl0 := GErr.up lw12373 gl0
            refine C_seq <| C_seq <| R_nd <| nq (Q_move rfl) rfl rfl <| nq (Q_lenA (k := 3) H.ok rfl r11414 (by decide) Tryd.underlying77 rfl) rfl rfl <| nq (Q_gtr rfl rfl) rfl rfl <| WL_nil <| x_then ?_
            refine C_cond rfl (fun hb => ?_) (fun hb => ?_)
            · replace hB12370 := itT hb hB12370
              refine C_skip <| x_then <| C_block <| C_seq <| R_nd <| nq (Q_move rfl) rfl rfl ?_
              obtain ⟨x12374, hx12374, hB12370⟩ := bnd hB12370
              obtain ⟨b12375, o12376, hi12380, hc12378, ha12379⟩ := arr_at (hs := [Arr v11411 2 c11412]) (k := 0) (by decide) (H.okS (by simp)) rfl r11414 hx12374
              refine nq (Q_idx hi12380 Tryd.underlying77 ty76 rfl rfl) rfl rfl ?_
              obtain ⟨c12381, c12382, he12383, hc12384, hc12385⟩ := hc12378
              obtain ⟨v12386, he12387, r12388⟩ := hc12385
              refine nq (v := .agg #[.int .i64 x12374.1, v12386]) (Q_ld (show cellsAt _ _ _ [.int .i64 x12374.1, v12386] from cellsAt.cg (cat2 he12383 (rdI hc12384) he12387) (ha12379 _ (Ok.subS (by simp) H.ok))) ty76 rfl (fun h => nomatch h) rfl rfl) rfl rfl <| ne (E_alloc H ty76 (zs := [.int .i64 0, .slice none 0 0]) rfl) rfl rfl ?_
              rintro _ wd12390 ⟨b12389, rfl, H⟩
              refine ne (E_stB (k := 0) (cs := [.int .i64 x12374.1, v12386]) (vs' := [.int .i64 x12374.1, v12386]) H rfl ty76 rfl rfl rfl rfl (one_cons rfl (one_cons (RdSl.one r12388) one_nil)) (by simp) rfl) rfl rfl ?_
              rintro _ wd12391 H
              dsimp only [List.set] at H
              refine WL_nil <| x_then <| C_seq <| R_nd <| nq (Q_move rfl) rfl rfl ?_
              obtain ⟨x12392, hx12392, hB12370⟩ := bnd hB12370
              obtain ⟨v12394, c12397, H, r12395, hq12398⟩ := sliceW (P := Tryd.prog) (en := (eP (eI .i64) (eL (eI .u8)))) (k := 4) H rfl (by decide) r11414 hx12392
              dsimp only [List.set] at H
              refine nq (v := v12394) (hq12398 _ _ _ _ _ _ _ _ _ _ _ _ _ _ _ Tryd.underlying77 ty76 rfl ⟨_, rfl⟩ rfl) rfl rfl <| nq (Q_assign rfl) rfl rfl <| WL_nil <| x_then <| C_seq <| C_seq <| R_nd <| nq (v := .pointer (some ⟨b6670, 1, none⟩)) (Q_fld Tryd.underlying25 rfl ty23 (by decide) rfl rfl) rfl rfl <| nq (v := v4) (Q_ldB (k := 1) (cs := [v4]) H.ok rfl ty23 rfl rfl rfl (fun _ => rfl) rfl) rfl rfl <| nq (v := .pointer (some ⟨b12389, 0, none⟩)) (Q_fld Tryd.underlying76 rfl ty3 (by decide) rfl rfl) rfl rfl <| nq (v := .int .i64 x12374.1) (Q_ldB (k := 0) (cs := [.int .i64 x12374.1]) H.ok rfl ty3 rfl rfl rfl (fun _ => rfl) rfl) rfl rfl ?_
              obtain ⟨x12399, hx12399, hB12370⟩ := bnd hB12370
              obtain ⟨b12400, o12401, c12402, hc12403, ha12404, hi12405⟩ := idxR r6 hx12399
              refine nq (Q_idx hi12405 Tryd.underlying23 ty3 rfl rfl) rfl rfl <| nq (v := .int .i64 x12399) (Q_ld (show cellsAt _ _ _ [.int .i64 x12399] from (show _ = [_] from hc12403) ▸ (ha12404.up H.ok.view)) ty3 rfl (fun _ => rfl) rfl rfl) rfl rfl <| nq (Q_move rfl) rfl rfl <| nq (Q_eql rfl rfl) rfl rfl <| WL_nil <| x_then ?_
              refine C_cond rfl (fun hb => ?_) (fun hb => ?_)
              · replace hB12370 := itT hb hB12370
                refine C_seq <| R_nd <| nq (v := .pointer (some ⟨b12389, 1, none⟩)) (Q_fld Tryd.underlying76 rfl ty42 (by decide) rfl rfl) rfl rfl <| nq (v := v12386) (Q_ldB (k := 0) (cs := [v12386]) H.ok rfl ty42 rfl rfl rfl (fun _ => rfl) rfl) rfl rfl <| nq (Q_assign rfl) rfl rfl <| nq (Q_assign rfl) rfl rfl <| WL_nil <| x_then <| C_ret <| x_then_ret <| x_block_ret <| x_then_ret <| x_block_ret <| x_then_ret ?_
                replace H := H.drop 0 rfl
                dsimp only [List.eraseIdx] at H
                replace H := H.drop 0 rfl
                dsimp only [List.eraseIdx] at H
                replace H := H.drop 0 rfl
                dsimp only [List.eraseIdx] at H
                replace H := H.drop 0 rfl
                dsimp only [List.eraseIdx] at H
                replace H := H.drop 0 rfl
                dsimp only [List.eraseIdx] at H
                obtain rfl := Option.some.inj hB12370
                obtain rfl := hO12371 _ rfl
                obtain rfl := Option.some.inj (show some _ = some _ from hF)
                exact fn_ret (l := [.tmp 6, .tmp 7]) (vs := [v12386, .bool true]) rfl rfl rfl (.inr ⟨ρ, v12386, x12374.2, rfl, rfl, lw12373, r12388, H⟩)
              · replace hB12370 := itF hb hB12370
                refine C_skip <| x_then <| C_seq <| R_nd <| nq (v := .pointer (some ⟨b6670, 0, none⟩)) (Q_fld Tryd.underlying25 rfl ty22 (by decide) rfl rfl) rfl rfl <| nq (v := v1) (Q_ldB (k := 1) (cs := [v1]) H.ok rfl ty22 rfl rfl rfl (fun _ => rfl) rfl) rfl rfl <| nq (v := .pointer (some ⟨b12389, 0, none⟩)) (Q_fld Tryd.underlying76 rfl ty3 (by decide) rfl rfl) rfl rfl <| nq (v := .int .i64 x12374.1) (Q_ldB (k := 0) (cs := [.int .i64 x12374.1]) H.ok rfl ty3 rfl rfl rfl (fun _ => rfl) rfl) rfl rfl ?_
                obtain ⟨x12406, hx12406, hB12370⟩ := bnd hB12370
                obtain ⟨b12407, o12408, c12409, hc12410, ha12411, hi12412⟩ := idxR r3 hx12406
                refine nq (Q_idx hi12412 Tryd.underlying22 ty58 rfl rfl) rfl rfl <| nq (v := .agg c12409.toArray) (Q_ld (ha12411.up H.ok.view) ty58 ((eA 256 (eI .i64)).len hc12410) (fun h => nomatch h) rfl rfl) rfl rfl <| nq (Q_move rfl) rfl rfl <| WL_nil <| x_then ?_
                obtain ⟨o12869, ho12869, hB12370⟩ := bnd hB12370
                refine C_cutQ (fun a w' => ∃ (ρ' : View) (c12862 : (List Value)) (v12865 : Value) (c12866 : (List Value)) (x12863 : (List Int)) (x12867 : (List (Int × (List Int)))), View.le ρ ρ' ∧ (x12863, x12867) = o12869 ∧ rdL (eI .u64) ρ' x12863 c12862 ∧ rdL (eP (eI .i64) (eL (eI .u8))) ρ' x12867 c12866 ∧ Fr 90 a [(2, .int .i64 x11), (3, .pointer (some ⟨b6670, 0, none⟩)), (8, .pointer (some ⟨b6694, 0, none⟩)), (9, v12865)] ∧ Hp C w' ρ' (Box b6670 [v1, v4, v7] :: Box b6694 [v6695, .int .i64 (x2.length : Int)] :: Arr v6695 1 c12862 :: Arr v12865 2 c12866 :: hs)) ?_ ?_
                · refine C_block ?_
                  replace H := H.front 4 rfl
                  dsimp only [List.eraseIdx] at H
                  replace H := H.front 4 rfl
                  dsimp only [List.eraseIdx] at H
                  replace H := H.front 4 rfl
                  dsimp only [List.eraseIdx] at H
                  replace H := H.front 4 rfl
                  dsimp only [List.eraseIdx] at H
                  replace H := H.front 4 rfl
                  dsimp only [List.eraseIdx] at H
                  refine C_iter (f := fun s => F_trim_Shortest_l3 N x2 x12374 x12406 s.1 s.2.1 s.2.2) ho12869 (fun s a w' => ∃ (ρ' : View) (c13019 : (List Value)) (v13022 : Value) (c13023 : (List Value)) (x13018 : Int) (x13020 : (List Int)) (x13024 : (List (Int × (List Int)))), View.le ρ ρ' ∧ (x13018, x13020, x13024) = s ∧ rdL (eI .u64) ρ' x13020 c13019 ∧ rdL (eP (eI .i64) (eL (eI .u8))) ρ' x13024 c13023 ∧ Fr 90 a [(2, .int .i64 x11), (3, .pointer (some ⟨b6670, 0, none⟩)), (8, .pointer (some ⟨b6694, 0, none⟩)), (9, v13022), (10, .pointer (some ⟨b12389, 0, none⟩)), (69, .agg c12409.toArray), (70, .int .i64 x13018)] ∧ Hp C w' ρ' (Box b12389 [.int .i64 x12374.1, v12386] :: Box b6670 [v1, v4, v7] :: Box b6694 [v6695, .int .i64 (x2.length : Int)] :: Arr v6695 1 c13019 :: Arr v13022 2 c13023 :: hs)) ?_ ?_
                  · exact fun a hf => ⟨ρ, c11408, v12394, c12397, 0, x11409, x12392, (View.le_refl _), rfl, r11410, r12395, hf.sub ⟨rfl, rfl, rfl, rfl, rfl, rfl, rfl, trivial⟩, H⟩
                  · rintro s o13174 a wd13177 ⟨ρ, c13019, v13022, c13023, x13018, x13020, x13024, lw13178, rfl, r13021, r13025, hf, H⟩ hB13175 hO13176
                    replace hB13175 : F_trim_Shortest_l3 N x2 x12374 x12406 x13018 x13020 x13024 = some o13174 := hB13175
                    unfold F_trim_Shortest_l3 at hB13175
                    refine CW.at hf ?_
                    replace r12388 := RdSl.up lw13178 r12388
                    replace r3 := RdSl.up lw13178 r3
                    replace r6 := RdSl.up lw13178 r6
                    replace r9 := RdSl.up lw13178 r9
                    replace gl0 := GErr.up lw13178 gl0
                    refine C_seq <| R_nd <| nq (Q_lss rfl rfl) rfl rfl <| WL_nil <| x_then <| C_seq ?_
                    refine C_cond rfl (fun hb => ?_) (fun hb => ?_)
                    · replace hB13175 := itT hb hB13175
                      refine C_skip <| x_then ?_
                      obtain ⟨o13251, ho13251, hB13175⟩ := bnd hB13175
                      refine C_cut (fun a w' => ∃ (ρ' : View) (c13244 : (List Value)) (v13247 : Value) (c13248 : (List Value)) (x13245 : (List Int)) (x13249 : (List (Int × (List Int)))), View.le ρ ρ' ∧ (x13245, x13249) = o13251 ∧ rdL (eI .u64) ρ' x13245 c13244 ∧ rdL (eP (eI .i64) (eL (eI .u8))) ρ' x13249 c13248 ∧ Fr 90 a [(2, .int .i64 x11), (3, .pointer (some ⟨b6670, 0, none⟩)), (8, .pointer (some ⟨b6694, 0, none⟩)), (9, v13247), (10, .pointer (some ⟨b12389, 0, none⟩)), (69, .agg c12409.toArray), (70, .int .i64 x13018)] ∧ Hp C w' ρ' (Box b12389 [.int .i64 x12374.1, v12386] :: Box b6670 [v1, v4, v7] :: Box b6694 [v6695, .int .i64 (x2.length : Int)] :: Arr v6695 1 c13244 :: Arr v13247 2 c13248 :: hs)) ?_ ?_
                      · refine C_block <| C_seq <| R_nd <| nq (Q_move rfl) rfl rfl ?_
                        obtain ⟨x13252, hx13252, ho13251⟩ := bnd ho13251
                        refine nq (Q_ixI hc12410.2 hc12410.1 hx13252 Tryd.underlying58 rfl rfl ty3 rfl) rfl rfl <| nq (Q_assign rfl) rfl rfl <| nq (Q_assign rfl) rfl rfl <| WL_nil <| x_then <| C_seq <| R_nd <| nq (Q_move rfl) rfl rfl <| nq (Q_move rfl) rfl rfl ?_
                        replace H := H.front 3 rfl
                        dsimp only [List.eraseIdx] at H
                        replace H := H.front 3 rfl
                        dsimp only [List.eraseIdx] at H
                        obtain ⟨q13253, hq13253, ho13251⟩ := bnd ho13251
                        refine ne (E_call fn52 rfl (c_52 H  r13021 hq13253)) rfl rfl ?_
                        rintro _ wd13259 ⟨c13255, x13256, x13257, rfl, rfl, r13258, H⟩
                        try dsimp only at ho13251
                        refine WL_nil <| x_then ?_
                        obtain ⟨o13289, ho13289, ho13251⟩ := bnd ho13251
                        refine C_cutQ (fun a w' => ∃ (ρ' : View) (v13285 : Value) (c13286 : (List Value)) (x13287 : (List (Int × (List Int)))), View.le ρ ρ' ∧ x13287 = o13289 ∧ rdL (eP (eI .i64) (eL (eI .u8))) ρ' x13287 c13286 ∧ Fr 90 a [(2, .int .i64 x11), (3, .pointer (some ⟨b6670, 0, none⟩)), (8, .pointer (some ⟨b6694, 0, none⟩)), (9, v13285), (10, .pointer (some ⟨b12389, 0, none⟩)), (69, .agg c12409.toArray), (70, .int .i64 x13018)] ∧ Hp C w' ρ' (Box b12389 [.int .i64 x12374.1, v12386] :: Box b6670 [v1, v4, v7] :: Box b6694 [v6695, .int .i64 (x2.length : Int)] :: Arr v6695 1 c13255 :: Arr v13285 2 c13286 :: hs)) ?_ ?_
                        · refine C_cond rfl (fun hb => ?_) (fun hb => ?_)
                          · replace ho13289 := itT hb ho13289
                            refine R_nd <| nq (Q_move rfl) rfl rfl <| nq (Q_move rfl) rfl rfl <| nq (v := .pointer (some ⟨b12389, 1, none⟩)) (Q_fld Tryd.underlying76 rfl ty42 (by decide) rfl rfl) rfl rfl <| nq (v := v12386) (Q_ldB (k := 2) (cs := [v12386]) H.ok rfl ty42 rfl rfl rfl (fun _ => rfl) rfl) rfl rfl ?_
                            obtain ⟨q13290, hq13290, ho13289⟩ := bnd ho13289
                            refine ne (E_call fn67 rfl (c_67 H  r12388 hq13290)) rfl rfl ?_
                            rintro _ wd13296 ⟨v13292, c13293, x13294, rfl, rfl, r13295, H⟩
                            try dsimp only at ho13289
                            refine nq (Q_move rfl) rfl rfl <| nq (Q_cvI ⟨_, Tryd.underlying3⟩ Tryd.underlying5 rfl) rfl rfl <| ne (E_bslice (xs := [.tmp 83]) (vs := [.int .u8 (IntKind.wrap .u8 x13018)]) H Tryd.underlying42 ty5 (by decide) (cs := [.int .u8 (IntKind.wrap .u8 x13018)]) rfl (sz_cons rfl sz_nil) rfl (by simp) (by simp) rfl rfl) rfl rfl ?_
                            rintro _ wd13298 ⟨b13297, rfl, H⟩
                            obtain ⟨x13299, hx13299, ho13289⟩ := bnd ho13289
                            obtain ⟨ha13300a, ha13300b⟩ := app_some hx13299
                            have r13302 : rdL (eI .u8) ρ x13299 (c13293 ++ ([.int .u8 (IntKind.wrap .u8 x13018)])) := ha13300b ▸ rdL.app r13295 (show rdL (eI .u8) ρ ([IntKind.wrap .u8 x13018]) ([.int .u8 (IntKind.wrap .u8 x13018)]) from ⟨([.int .u8 (IntKind.wrap .u8 x13018)]), _, rfl, rfl, rdL.nil⟩)
                            refine ne (E_append (k := 1) H rfl Tryd.underlying42 ty5 rfl (by decide) (by decide) rfl rfl (Src.ofArr (k := 0) H.ok rfl) (rdL.one (show rdL (eI .u8) ρ ([IntKind.wrap .u8 x13018]) ([.int .u8 (IntKind.wrap .u8 x13018)]) from ⟨([.int .u8 (IntKind.wrap .u8 x13018)]), _, rfl, rfl, rdL.nil⟩)) (app_fit r13295 (show rdL (eI .u8) ρ ([IntKind.wrap .u8 x13018]) ([.int .u8 (IntKind.wrap .u8 x13018)]) from ⟨([.int .u8 (IntKind.wrap .u8 x13018)]), _, rfl, rfl, rdL.nil⟩) ha13300a)) rfl rfl ?_
                            rintro v13301 wd13304 ⟨H, hc13303⟩
                            dsimp only [List.set] at H
                            refine nq (v := .agg #[.int .i64 x13252, v13301]) (Q_buildS st76.choose_spec (ps := [(0, [.int .i64 x13252]), (1, [v13301])]) rfl ⟨rfl, rfl, by simp, ⟨rfl, (arr_cells (H.ok.get (k := 1) rfl)).1, by simp, trivial⟩⟩ rfl) rfl rfl ?_
                            replace H := H.front 1 rfl
                            dsimp only [List.eraseIdx] at H
                            obtain ⟨ρ, lw13305, H, r13306⟩ := Hp.frz (en := (eI .u8)) H (by decide) r13302
                            replace r12388 := RdSl.up lw13305 r12388
                            replace r3 := RdSl.up lw13305 r3
                            replace r6 := RdSl.up lw13305 r6
                            replace r9 := RdSl.up lw13305 r9
                            replace r13258 := rdL.up lw13305 r13258
                            replace r13025 := rdL.up lw13305 r13025
                            replace gl0 := GErr.up lw13305 gl0
                            refine ne (E_bslice (xs := [.tmp 86]) (vs := [.agg #[.int .i64 x13252, v13301]]) H Tryd.underlying77 ty76 (by decide) (cs := [.int .i64 x13252, v13301]) rfl (sz_cons rfl sz_nil) rfl (by simp) (by simp) rfl rfl) rfl rfl ?_
                            rintro _ wd13308 ⟨b13307, rfl, H⟩
                            obtain ⟨x13309, hx13309, ho13289⟩ := bnd ho13289
                            obtain ⟨ha13310a, ha13310b⟩ := app_some hx13309
                            have r13312 : rdL (eP (eI .i64) (eL (eI .u8))) ρ x13309 (c13023 ++ ([.int .i64 x13252, v13301])) := ha13310b ▸ rdL.app r13025 (show rdL (eP (eI .i64) (eL (eI .u8))) ρ ([(x13252, x13299)]) ([.int .i64 x13252, v13301]) from ⟨([.int .i64 x13252, v13301]), _, rfl, ⟨[.int .i64 x13252], _, rfl, rfl, ⟨_, rfl, r13306⟩⟩, rdL.nil⟩)
                            refine ne (E_append (k := 6) H rfl Tryd.underlying77 ty76 rfl (by decide) (by decide) rfl rfl (Src.ofArr (k := 0) H.ok rfl) (rdL.one (show rdL (eP (eI .i64) (eL (eI .u8))) ρ ([(x13252, x13299)]) ([.int .i64 x13252, v13301]) from ⟨([.int .i64 x13252, v13301]), _, rfl, ⟨[.int .i64 x13252], _, rfl, rfl, ⟨_, rfl, r13306⟩⟩, rdL.nil⟩)) (app_fit r13025 (show rdL (eP (eI .i64) (eL (eI .u8))) ρ ([(x13252, x13299)]) ([.int .i64 x13252, v13301]) from ⟨([.int .i64 x13252, v13301]), _, rfl, ⟨[.int .i64 x13252], _, rfl, rfl, ⟨_, rfl, r13306⟩⟩, rdL.nil⟩) ha13310a)) rfl rfl ?_
                            rintro v13311 wd13314 ⟨H, hc13313⟩
                            dsimp only [List.set] at H
                            refine nq (Q_assign rfl) rfl rfl <| WL_nil ?_
                            replace H := H.front 6 rfl
                            dsimp only [List.eraseIdx] at H
                            replace H := H.front 4 rfl
                            dsimp only [List.eraseIdx] at H
                            replace H := H.front 4 rfl
                            dsimp only [List.eraseIdx] at H
                            replace H := H.front 6 rfl
                            dsimp only [List.eraseIdx] at H
                            replace H := H.front 6 rfl
                            dsimp only [List.eraseIdx] at H
                            replace H := H.drop 5 rfl
                            dsimp only [List.eraseIdx] at H
                            replace H := H.drop 5 rfl
                            dsimp only [List.eraseIdx] at H
                            obtain rfl := Option.some.inj ho13289
                            refine x_A fun a hf => ⟨ρ, v13311, (c13023 ++ ([.int .i64 x13252, v13301])), x13309, lw13305, rfl, r13312, hf.sub ⟨rfl, rfl, rfl, rfl, rfl, rfl, rfl, trivial⟩, H⟩
                          · replace ho13289 := itF hb ho13289
                            refine C_skip ?_
                            replace H := H.front 4 rfl
                            dsimp only [List.eraseIdx] at H
                            replace H := H.front 2 rfl
                            dsimp only [List.eraseIdx] at H
                            replace H := H.front 2 rfl
                            dsimp only [List.eraseIdx] at H
                            replace H := H.front 4 rfl
                            dsimp only [List.eraseIdx] at H
                            replace H := H.front 4 rfl
                            dsimp only [List.eraseIdx] at H
                            obtain rfl := Option.some.inj ho13289
                            refine x_A fun a hf => ⟨ρ, v13022, c13023, x13024, (View.le_refl _), rfl, r13025, hf.sub ⟨rfl, rfl, rfl, rfl, rfl, rfl, rfl, trivial⟩, H⟩
                        · rintro a wd13315 ⟨ρ, v13285, c13286, x13287, lw13316, rfl, r13288, hf, H⟩
                          try dsimp only at ho13251
                          replace r12388 := RdSl.up lw13316 r12388
                          replace r3 := RdSl.up lw13316 r3
                          replace r6 := RdSl.up lw13316 r6
                          replace r9 := RdSl.up lw13316 r9
                          replace r13258 := rdL.up lw13316 r13258
                          replace gl0 := GErr.up lw13316 gl0
                          refine XX.at hf <| x_block ?_
                          replace H := H.front 4 rfl
                          dsimp only [List.eraseIdx] at H
                          replace H := H.front 4 rfl
                          dsimp only [List.eraseIdx] at H
                          replace H := H.front 4 rfl
                          dsimp only [List.eraseIdx] at H
                          replace H := H.front 4 rfl
                          dsimp only [List.eraseIdx] at H
                          replace H := H.front 4 rfl
                          dsimp only [List.eraseIdx] at H
                          obtain rfl := Option.some.inj ho13251
                          refine x_A fun a hf => ⟨ρ, c13255, v13285, c13286, x13256, x13287, lw13316, rfl, r13258, r13288, hf.sub ⟨rfl, rfl, rfl, rfl, rfl, rfl, rfl, trivial⟩, H⟩
                      · rintro a wd13317 ⟨ρ, c13244, v13247, c13248, x13245, x13249, lw13318, rfl, r13246, r13250, hf, H⟩
                        try dsimp only at hB13175
                        replace r12388 := RdSl.up lw13318 r12388
                        replace r3 := RdSl.up lw13318 r3
                        replace r6 := RdSl.up lw13318 r6
                        replace r9 := RdSl.up lw13318 r9
                        replace gl0 := GErr.up lw13318 gl0
                        refine CW.at hf <| R_nd <| nq (Q_add rfl rfl) rfl rfl <| nq (Q_move rfl) rfl rfl <| WL_nil ?_
                        replace H := H.front 4 rfl
                        dsimp only [List.eraseIdx] at H
                        replace H := H.front 4 rfl
                        dsimp only [List.eraseIdx] at H
                        replace H := H.front 4 rfl
                        dsimp only [List.eraseIdx] at H
                        replace H := H.front 4 rfl
                        dsimp only [List.eraseIdx] at H
                        replace H := H.front 4 rfl
                        dsimp only [List.eraseIdx] at H
                        obtain rfl := Option.some.inj hB13175
                        refine x_A fun a hf => ⟨_, rfl, ρ, c13244, v13247, c13248, w64 (x13018 + 1), x13245, x13249, (View.le_trans lw13178 lw13318), rfl, r13246, r13250, hf.sub ⟨rfl, rfl, rfl, rfl, rfl, rfl, rfl, trivial⟩, H⟩
                    · replace hB13175 := itF hb hB13175
                      refine C_exit <| x_then_exit <| x_then_exit <| x_block_exit ?_
                      replace H := H.front 4 rfl
                      dsimp only [List.eraseIdx] at H
                      replace H := H.front 4 rfl
                      dsimp only [List.eraseIdx] at H
                      replace H := H.front 4 rfl
                      dsimp only [List.eraseIdx] at H
                      replace H := H.front 4 rfl
                      dsimp only [List.eraseIdx] at H
                      replace H := H.drop 4 rfl
                      dsimp only [List.eraseIdx] at H
                      obtain rfl := Option.some.inj hB13175
                      obtain rfl := hO13176 _ rfl
                      refine x_A fun a hf => ⟨ρ, c13019, v13022, c13023, x13020, x13024, lw13178, rfl, r13021, r13025, hf.sub ⟨rfl, rfl, rfl, rfl, trivial⟩, H⟩
                · rintro a wd13319 ⟨ρ, c12862, v12865, c12866, x12863, x12867, lw13320, rfl, r12864, r12868, hf, H⟩
                  try dsimp only at hB12370
                  replace r3 := RdSl.up lw13320 r3
                  replace r6 := RdSl.up lw13320 r6
                  replace r9 := RdSl.up lw13320 r9
                  replace gl0 := GErr.up lw13320 gl0
                  refine XX.at hf <| x_block ?_
                  replace H := H.front 3 rfl
                  dsimp only [List.eraseIdx] at H
                  replace H := H.front 3 rfl
                  dsimp only [List.eraseIdx] at H
                  replace H := H.front 3 rfl
                  dsimp only [List.eraseIdx] at H
                  replace H := H.front 3 rfl
                  dsimp only [List.eraseIdx] at H
                  obtain rfl := Option.some.inj hB12370
                  refine x_A fun a hf => ⟨_, rfl, ρ, c12862, v12865, c12866, x12863, x12867, (View.le_trans lw12373 lw13320), rfl, r12864, r12868, hf.sub ⟨rfl, rfl, rfl, rfl, trivial⟩, H⟩
            · replace hB12370 := itF hb hB12370
              refine C_exit <| x_then_exit <| x_then_exit <| x_block_exit ?_
              replace H := H.drop 0 rfl
              dsimp only [List.eraseIdx] at H
              replace H := H.drop 0 rfl
              dsimp only [List.eraseIdx] at H
              replace H := H.drop 0 rfl
              dsimp only [List.eraseIdx] at H
              replace H := H.drop 0 rfl
              dsimp only [List.eraseIdx] at H
              obtain rfl := Option.some.inj hB12370
              obtain rfl := hO12371 _ rfl
              refine x_A fun a hf => ⟨ρ, lw12373, rfl, hf.sub trivial, H⟩
        · rintro a wd13321 ⟨ρ, lw13322, rfl, hf, H⟩
          try dsimp only at hF
          replace gl0 := GErr.up lw13322 gl0
          refine CW.at hf <| C_seq <| R_nd <| nq (Q_assign rfl) rfl rfl <| nq (Q_assign rfl) rfl rfl <| WL_nil <| x_then <| C_ret ?_
          have H := H.nilArr 1
          obtain rfl := Option.some.inj hF
          exact fn_ret (l := [.tmp 6, .tmp 7]) (vs := [(.slice none 0 0), .bool false]) rfl rfl rfl (.inl ⟨ρ, rfl, rfl, lw13322, H⟩)
theorem c_68 {N : Nat} {C : Cx} {w : World} {ρ : View} {hs : List Hl} {v1 : Value} {v4 : Value} {v7 : Value} {x2 : (List (List Int))} {x5 : (List Int)} {x8 : (List Int)} {x10 : Int} (H : Hp C w ρ (hs)) (r3 : RdSl ρ (eA 256 (eI .i64)) v1 x2) (r6 : RdSl ρ (eI .i64) v4 x5) (_r9 : RdSl ρ (eI .i64) v7 x8) {r : (List Int)} (hF : F_dofferref18_Steps N x2 x5 x8 x10 = some r) :
    Calls Tryd.prog 68 [.agg #[v1, v4, v7], .int .i64 x10].toArray w (Rets (fun v w' => (∃ (v29193 : Value) (c29194 : (List Value)) (x29195 : (List Int)), x29195 = r ∧ v29193 = v ∧ rdL (eI .i64) ρ x29195 c29194 ∧ Hp C w' ρ (Arr v29193 1 c29194 :: hs)))) := by
  unfold F_dofferref18_Steps at hF
  have h0 : Tryd.f68.body = some _ := rfl
  refine fn_calls' Tryd.func68 h0 (n := 79) rfl (by simp) <| C_seq <| R_nd <| ne (E_box H (vs := [v1, v4, v7]) rfl rfl) rfl rfl ?_
  rintro _ wd29198 ⟨b29197, rfl, H⟩
  refine nq (Q_assign rfl) rfl rfl <| WL_nil <| x_then <| C_seq <| R_nd <| nq (v := .pointer (some ⟨b29197, 0, none⟩)) (Q_fld Tryd.underlying29 rfl ty27 (by decide) rfl rfl) rfl rfl <| nq (v := v1) (Q_ldB (k := 0) (cs := [v1]) H.ok rfl ty27 rfl rfl rfl (fun _ => rfl) rfl) rfl rfl <| nq (Q_len Tryd.underlying27 rfl r3) rfl rfl ?_
  obtain ⟨x29199, hx29199, hF⟩ := bnd hF
  obtain ⟨hm29201a, hm29201b, hm29201c⟩ := mk_some hx29199
  refine ne (E_make H Tryd.underlying23 ty3 (zs := [.int .i64 0]) rfl rfl (by decide) (by decide) rfl hm29201a hm29201b) rfl rfl ?_
  rintro _ wd29202 ⟨b29200, rfl, H⟩
  refine nq (Q_assign rfl) rfl rfl <| WL_nil <| x_then <| C_seq <| C_seq <| R_nd <| nq (Q_move rfl) rfl rfl <| nq (Q_lenA (en := (eI .i64)) (k := 0) H.ok rfl (hm29201c ▸ rdL_rep (e := (eI .i64)) (ρ := ρ) (rfl) _) (by decide) Tryd.underlying23 rfl) rfl rfl <| nq (Q_move rfl) rfl rfl <| WL_nil <| x_then ?_
  obtain ⟨o29507, ho29507, hF⟩ := bnd hF
  refine C_cutQ (fun a w' => ∃ (c29504 : (List Value)) (x29505 : (List Int)), x29505 = o29507 ∧ rdL (eI .i64) ρ x29505 c29504 ∧ Fr 79 a [(2, .pointer (some ⟨b29197, 0, none⟩)), (5, (.slice (some ⟨b29200, 0, none⟩) (x2.length : Int).toNat (x2.length : Int).toNat))] ∧ Hp C w' ρ (Box b29197 [v1, v4, v7] :: Arr (.slice (some ⟨b29200, 0, none⟩) (x2.length : Int).toNat (x2.length : Int).toNat) 1 c29504 :: hs)) ?_ ?_
  · refine C_block ?_
    replace H := H.front 1 rfl
    dsimp only [List.eraseIdx] at H
    refine C_iter (f := fun s => F_dofferref18_Steps_l0 N x5 x10 x29199 s.1 s.2) ho29507 (fun s a w' => ∃ (c29608 : (List Value)) (x29607 : Int) (x29609 : (List Int)), (x29607, x29609) = s ∧ rdL (eI .i64) ρ x29609 c29608 ∧ Fr 79 a [(1, .int .i64 x10), (2, .pointer (some ⟨b29197, 0, none⟩)), (5, (.slice (some ⟨b29200, 0, none⟩) (x2.length : Int).toNat (x2.length : Int).toNat)), (18, .int .i64 (x29199.length : Int)), (19, .int .i64 x29607)] ∧ Hp C w' ρ (Box b29197 [v1, v4, v7] :: Arr (.slice (some ⟨b29200, 0, none⟩) (x2.length : Int).toNat (x2.length : Int).toNat) 1 c29608 :: hs)) ?_ ?_
    · exact fun a hf => ⟨(repC (x2.length : Int).toNat [.int .i64 0]), 0, x29199, rfl, (hm29201c ▸ rdL_rep (e := (eI .i64)) (ρ := ρ) (rfl) _), hf.sub ⟨rfl, rfl, rfl, rfl, rfl, trivial⟩, H⟩
    · rintro s o29710 a wd29713 ⟨c29608, x29607, x29609, rfl, r29610, hf, H⟩ hB29711 hO29712
      replace hB29711 : F_dofferref18_Steps_l0 N x5 x10 x29199 x29607 x29609 = some o29710 := hB29711
      unfold F_dofferref18_Steps_l0 at hB29711
      refine CW.at hf <| C_seq <| R_nd <| nq (Q_lss rfl rfl) rfl rfl <| WL_nil <| x_then <| C_seq ?_
      refine C_cond rfl (fun hb => ?_) (fun hb => ?_)
      · replace hB29711 := itT hb hB29711
        refine C_skip <| x_then ?_
        obtain ⟨o29762, ho29762, hB29711⟩ := bnd hB29711
        refine C_cut (fun a w' => ∃ (c29759 : (List Value)) (x29760 : (List Int)), x29760 = o29762 ∧ rdL (eI .i64) ρ x29760 c29759 ∧ Fr 79 a [(1, .int .i64 x10), (2, .pointer (some ⟨b29197, 0, none⟩)), (5, (.slice (some ⟨b29200, 0, none⟩) (x2.length : Int).toNat (x2.length : Int).toNat)), (18, .int .i64 (x29199.length : Int)), (19, .int .i64 x29607)] ∧ Hp C w' ρ (Box b29197 [v1, v4, v7] :: Arr (.slice (some ⟨b29200, 0, none⟩) (x2.length : Int).toNat (x2.length : Int).toNat) 1 c29759 :: hs)) ?_ ?_
        · refine C_block <| C_seq <| R_nd <| nq (Q_move rfl) rfl rfl <| nq (Q_assign rfl) rfl rfl <| WL_nil <| x_then <| C_seq <| R_nd <| nq (Q_move rfl) rfl rfl <| nq (Q_move rfl) rfl rfl ?_
          obtain ⟨x29763, hx29763, ho29762⟩ := bnd ho29762
          obtain ⟨b29764, o29765, hi29769, hc29767, ha29768⟩ := arr_at (hs := [Arr (.slice (some ⟨b29200, 0, none⟩) (x2.length : Int).toNat (x2.length : Int).toNat) 1 c29608]) (k := 0) (by decide) (H.okS (by simp)) rfl r29610 hx29763
          refine nq (Q_idx hi29769 Tryd.underlying23 ty3 rfl rfl) rfl rfl ?_
          obtain ⟨x29770, hx29770, ho29762⟩ := bnd ho29762
          obtain ⟨hs29771a, hs29771b, hs29771c⟩ := setI_some hx29770
          have r29772 : rdL (eI .i64) ρ x29770 (setC c29608 (x29607.toNat * 1 + 0) [.int .i64 (-1)]) := hs29771c ▸ rdL.set r29610 hs29771b (rfl)
          refine ne (E_stA (k := 1) (j := 0) (c := [.int .i64 (-1)]) H rfl ty3 hi29769 rfl rfl rfl rfl (one_cons rfl one_nil) (by decide)) rfl rfl ?_
          rintro _ wd29773 H
          dsimp only [List.set] at H
          refine WL_nil <| x_then <| C_seq <| R_nd <| nq (v := .pointer (some ⟨b29197, 1, none⟩)) (Q_fld Tryd.underlying29 rfl ty23 (by decide) rfl rfl) rfl rfl <| nq (v := v4) (Q_ldB (k := 0) (cs := [v4]) H.ok rfl ty23 rfl rfl rfl (fun _ => rfl) rfl) rfl rfl <| nq (Q_move rfl) rfl rfl ?_
          obtain ⟨x29774, hx29774, ho29762⟩ := bnd ho29762
          obtain ⟨b29775, o29776, c29777, hc29778, ha29779, hi29780⟩ := idxR r6 hx29774
          refine nq (Q_idx hi29780 Tryd.underlying23 ty3 rfl rfl) rfl rfl <| nq (v := .int .i64 x29774) (Q_ld (show cellsAt _ _ _ [.int .i64 x29774] from (show _ = [_] from hc29778) ▸ (ha29779.up H.ok.view)) ty3 rfl (fun _ => rfl) rfl rfl) rfl rfl <| nq (Q_move rfl) rfl rfl <| nq (Q_eql rfl rfl) rfl rfl <| WL_nil <| x_then ?_
          obtain ⟨o29795, ho29795, ho29762⟩ := bnd ho29762
          refine C_cutQ (fun a w' => ∃ (c29792 : (List Value)) (x29793 : (List Int)), x29793 = o29795 ∧ rdL (eI .i64) ρ x29793 c29792 ∧ Fr 79 a [(1, .int .i64 x10), (2, .pointer (some ⟨b29197, 0, none⟩)), (5, (.slice (some ⟨b29200, 0, none⟩) (x2.length : Int).toNat (x2.length : Int).toNat)), (18, .int .i64 (x29199.length : Int)), (19, .int .i64 x29607)] ∧ Hp C w' ρ (Box b29197 [v1, v4, v7] :: Arr (.slice (some ⟨b29200, 0, none⟩) (x2.length : Int).toNat (x2.length : Int).toNat) 1 c29792 :: hs)) ?_ ?_
          · refine C_cond rfl (fun hb => ?_) (fun hb => ?_)
            · replace ho29795 := itT hb ho29795
              refine R_nd <| nq (Q_move rfl) rfl rfl <| nq (Q_move rfl) rfl rfl ?_
              obtain ⟨x29796, hx29796, ho29795⟩ := bnd ho29795
              obtain ⟨b29797, o29798, hi29802, hc29800, ha29801⟩ := arr_at (hs := [Arr (.slice (some ⟨b29200, 0, none⟩) (x2.length : Int).toNat (x2.length : Int).toNat) 1 (setC c29608 (x29607.toNat * 1 + 0) [.int .i64 (-1)])]) (k := 0) (by decide) (H.okS (by simp)) rfl r29772 hx29796
              refine nq (Q_idx hi29802 Tryd.underlying23 ty3 rfl rfl) rfl rfl ?_
              obtain ⟨x29803, hx29803, ho29795⟩ := bnd ho29795
              obtain ⟨hs29804a, hs29804b, hs29804c⟩ := setI_some hx29803
              have r29805 : rdL (eI .i64) ρ x29803 (setC (setC c29608 (x29607.toNat * 1 + 0) [.int .i64 (-1)]) (x29607.toNat * 1 + 0) [.int .i64 0]) := hs29804c ▸ rdL.set r29772 hs29804b (rfl)
              refine ne (E_stA (k := 1) (j := 0) (c := [.int .i64 0]) H rfl ty3 hi29802 rfl rfl rfl rfl (one_cons rfl one_nil) (by decide)) rfl rfl ?_
              rintro _ wd29806 H
              dsimp only [List.set] at H
              refine WL_nil ?_
              replace H := H.front 1 rfl
              dsimp only [List.eraseIdx] at H
              replace H := H.front 1 rfl
              dsimp only [List.eraseIdx] at H
              obtain rfl := Option.some.inj ho29795
              refine x_A fun a hf => ⟨(setC (setC c29608 (x29607.toNat * 1 + 0) [.int .i64 (-1)]) (x29607.toNat * 1 + 0) [.int .i64 0]), x29803, rfl, r29805, hf.sub ⟨rfl, rfl, rfl, rfl, rfl, trivial⟩, H⟩
            · replace ho29795 := itF hb ho29795
              refine C_skip ?_
              replace H := H.front 1 rfl
              dsimp only [List.eraseIdx] at H
              replace H := H.front 1 rfl
              dsimp only [List.eraseIdx] at H
              obtain rfl := Option.some.inj ho29795
              refine x_A fun a hf => ⟨(setC c29608 (x29607.toNat * 1 + 0) [.int .i64 (-1)]), x29770, rfl, r29772, hf.sub ⟨rfl, rfl, rfl, rfl, rfl, trivial⟩, H⟩
          · rintro a wd29807 ⟨c29792, x29793, rfl, r29794, hf, H⟩
            try dsimp only at ho29762
            refine XX.at hf <| x_block ?_
            replace H := H.front 1 rfl
            dsimp only [List.eraseIdx] at H
            replace H := H.front 1 rfl
            dsimp only [List.eraseIdx] at H
            obtain rfl := Option.some.inj ho29762
            refine x_A fun a hf => ⟨c29792, x29793, rfl, r29794, hf.sub ⟨rfl, rfl, rfl, rfl, rfl, trivial⟩, H⟩
        · rintro a wd29808 ⟨c29759, x29760, rfl, r29761, hf, H⟩
          try dsimp only at hB29711
          refine CW.at hf <| R_nd <| nq (Q_add rfl rfl) rfl rfl <| nq (Q_move rfl) rfl rfl <| WL_nil ?_
          replace H := H.front 1 rfl
          dsimp only [List.eraseIdx] at H
          replace H := H.front 1 rfl
          dsimp only [List.eraseIdx] at H
          obtain rfl := Option.some.inj hB29711
          refine x_A fun a hf => ⟨_, rfl, c29759, w64 (x29607 + 1), x29760, rfl, r29761, hf.sub ⟨rfl, rfl, rfl, rfl, rfl, trivial⟩, H⟩
      · replace hB29711 := itF hb hB29711
        refine C_exit <| x_then_exit <| x_then_exit <| x_block_exit ?_
        replace H := H.front 1 rfl
        dsimp only [List.eraseIdx] at H
        replace H := H.front 1 rfl
        dsimp only [List.eraseIdx] at H
        obtain rfl := Option.some.inj hB29711
        obtain rfl := hO29712 _ rfl
        refine x_A fun a hf => ⟨c29608, x29609, rfl, r29610, hf.sub ⟨rfl, rfl, trivial⟩, H⟩
  · rintro a wd29809 ⟨c29504, x29505, rfl, r29506, hf, H⟩
    try dsimp only at hF
    refine XX.at hf <| x_then <| C_seq <| C_seq <| R_nd <| nq (Q_assign rfl) rfl rfl <| WL_nil <| x_then ?_
    obtain ⟨o44094, ho44094, hF⟩ := bnd hF
    refine C_cutQ (fun a w' => ∃ (c44091 : (List Value)) (x44092 : (List Int)), x44092 = o44094 ∧ rdL (eI .i64) ρ x44092 c44091 ∧ Fr 79 a [(5, (.slice (some ⟨b29200, 0, none⟩) (x2.length : Int).toNat (x2.length : Int).toNat))] ∧ Hp C w' ρ (Arr (.slice (some ⟨b29200, 0, none⟩) (x2.length : Int).toNat (x2.length : Int).toNat) 1 c44091 :: hs)) ?_ ?_
    · refine C_block ?_
      replace H := H.front 1 rfl
      dsimp only [List.eraseIdx] at H
      replace H := H.front 1 rfl
      dsimp only [List.eraseIdx] at H
      refine C_iter (f := fun s => F_dofferref18_Steps_l1 N x2 s.1 s.2) ho44094 (fun s a w' => ∃ (c48854 : (List Value)) (x48855 : (List Int)) (x48857 : Int), (x48855, x48857) = s ∧ rdL (eI .i64) ρ x48855 c48854 ∧ Fr 79 a [(2, .pointer (some ⟨b29197, 0, none⟩)), (5, (.slice (some ⟨b29200, 0, none⟩) (x2.length : Int).toNat (x2.length : Int).toNat)), (7, .int .i64 x48857)] ∧ Hp C w' ρ (Box b29197 [v1, v4, v7] :: Arr (.slice (some ⟨b29200, 0, none⟩) (x2.length : Int).toNat (x2.length : Int).toNat) 1 c48854 :: hs)) ?_ ?_
      · exact fun a hf => ⟨c29504, x29505, 0, rfl, r29506, hf.sub ⟨rfl, rfl, rfl, trivial⟩, H⟩
      · rintro s o53617 a wd53620 ⟨c48854, x48855, x48857, rfl, r48856, hf, H⟩ hB53618 hO53619
        replace hB53618 : F_dofferref18_Steps_l1 N x2 x48855 x48857 = some o53617 := hB53618
        unfold F_dofferref18_Steps_l1 at hB53618
        refine CW.at hf <| C_seq <| C_seq <| R_nd <| nq (Q_move rfl) rfl rfl <| nq (v := .pointer (some ⟨b29197, 0, none⟩)) (Q_fld Tryd.underlying29 rfl ty27 (by decide) rfl rfl) rfl rfl <| nq (v := v1) (Q_ldB (k := 0) (cs := [v1]) H.ok rfl ty27 rfl rfl rfl (fun _ => rfl) rfl) rfl rfl <| nq (Q_len Tryd.underlying27 rfl r3) rfl rfl <| nq (Q_lss rfl rfl) rfl rfl <| WL_nil <| x_then ?_
        refine C_cond rfl (fun hb => ?_) (fun hb => ?_)
        · replace hB53618 := itT hb hB53618
          refine C_skip <| x_then <| C_seq <| C_block <| C_seq <| R_nd <| ne (E_bslice0 H Tryd.underlying23 ty3) rfl rfl ?_
          rintro _ wd53622 ⟨b53621, rfl, H⟩
          refine nq (Q_move rfl) rfl rfl ?_
          obtain ⟨x53623, hx53623, hB53618⟩ := bnd hB53618
          obtain ⟨ha53624a, ha53624b⟩ := app_some hx53623
          have r53626 : rdL (eI .i64) ρ x53623 (([]) ++ c48854) := ha53624b ▸ rdL.app rdL.nil r48856
          refine ne (E_append (k := 0) H rfl Tryd.underlying23 ty3 rfl (by decide) (by decide) rfl rfl (Src.ofArr (k := 2) H.ok rfl) (rdL.one r48856) (app_fit rdL.nil r48856 ha53624a)) rfl rfl ?_
          rintro v53625 wd53628 ⟨H, hc53627⟩
          dsimp only [List.set] at H
          refine nq (Q_assign rfl) rfl rfl <| WL_nil <| x_then <| C_seq <| R_nd <| nq (v := .pointer (some ⟨b29197, 0, none⟩)) (Q_fld Tryd.underlying29 rfl ty27 (by decide) rfl rfl) rfl rfl <| nq (v := v1) (Q_ldB (k := 1) (cs := [v1]) H.ok rfl ty27 rfl rfl rfl (fun _ => rfl) rfl) rfl rfl <| nq (Q_len Tryd.underlying27 rfl r3) rfl rfl <| nq (Q_move rfl) rfl rfl <| WL_nil <| x_then ?_
          obtain ⟨o56003, ho56003, hB53618⟩ := bnd hB53618
          refine C_cutQ (fun a w' => ∃ (c56000 : (List Value)) (x56001 : (List Int)), x56001 = o56003 ∧ rdL (eI .i64) ρ x56001 c56000 ∧ Fr 79 a [(2, .pointer (some ⟨b29197, 0, none⟩)), (5, (.slice (some ⟨b29200, 0, none⟩) (x2.length : Int).toNat (x2.length : Int).toNat)), (7, .int .i64 x48857)] ∧ Hp C w' ρ (Box b29197 [v1, v4, v7] :: Arr (.slice (some ⟨b29200, 0, none⟩) (x2.length : Int).toNat (x2.length : Int).toNat) 1 c56000 :: hs)) ?_ ?_
          · refine C_block ?_
            replace H := H.front 2 rfl
            dsimp only [List.eraseIdx] at H
            replace H := H.front 2 rfl
            dsimp only [List.eraseIdx] at H
            refine C_iter (f := fun s => F_dofferref18_Steps_l2 N x2 x48857 x53623 s.1 s.2) ho56003 (fun s a w' => ∃ (c56794 : (List Value)) (x56793 : Int) (x56795 : (List Int)), (x56793, x56795) = s ∧ rdL (eI .i64) ρ x56795 c56794 ∧ Fr 79 a [(2, .pointer (some ⟨b29197, 0, none⟩)), (5, (.slice (some ⟨b29200, 0, none⟩) (x2.length : Int).toNat (x2.length : Int).toNat)), (7, .int .i64 x48857), (8, v53625), (47, v1), (48, .int .i64 (x2.length : Int)), (49, .int .i64 x56793)] ∧ Hp C w' ρ (Box b29197 [v1, v4, v7] :: Arr (.slice (some ⟨b29200, 0, none⟩) (x2.length : Int).toNat (x2.length : Int).toNat) 1 c56794 :: Arr v53625 1 (([]) ++ c48854) :: hs)) ?_ ?_
            · exact fun a hf => ⟨c48854, 0, x48855, rfl, r48856, hf.sub ⟨rfl, rfl, rfl, rfl, rfl, rfl, rfl, trivial⟩, H⟩
            · rintro s o57586 a wd57589 ⟨c56794, x56793, x56795, rfl, r56796, hf, H⟩ hB57587 hO57588
              replace hB57587 : F_dofferref18_Steps_l2 N x2 x48857 x53623 x56793 x56795 = some o57586 := hB57587
              unfold F_dofferref18_Steps_l2 at hB57587
              refine CW.at hf <| C_seq <| R_nd <| nq (Q_lss rfl rfl) rfl rfl <| WL_nil <| x_then <| C_seq ?_
              refine C_cond rfl (fun hb => ?_) (fun hb => ?_)
              · replace hB57587 := itT hb hB57587
                refine C_skip <| x_then <| C_seq <| C_block <| C_seq <| R_nd <| nq (Q_move rfl) rfl rfl ?_
                obtain ⟨x57590, hx57590, hB57587⟩ := bnd hB57587
                obtain ⟨b57591, o57592, c57593, hc57594, ha57595, hi57596⟩ := idxR r3 hx57590
                refine nq (Q_idx hi57596 Tryd.underlying27 ty57 rfl rfl) rfl rfl <| nq (v := .agg c57593.toArray) (Q_ld (ha57595.up H.ok.view) ty57 ((eA 256 (eI .i64)).len hc57594) (fun h => nomatch h) rfl rfl) rfl rfl <| ne (E_allocA (N := 256) (n := 1) (zs := (repC 256 [.int .i64 0])) H ty57 rfl (by simp [repC_length])) rfl rfl ?_
                rintro _ wd57598 ⟨b57597, rfl, H⟩
                refine nq (Q_assign rfl) rfl rfl <| ne (E_stW (k := 0) H rfl ty57 rfl rfl (rdL.one hc57594.2) (arr_clen (rdL_rep (e:=(eI .i64)) (ρ:=ρ) (rfl) 256) List.length_replicate) (arr_clen hc57594.2 hc57594.1)) rfl rfl ?_
                rintro _ wd57599 H
                dsimp only [List.set] at H
                refine WL_nil <| x_then <| C_seq <| R_nd <| nq (Q_ldW (k := 0) H.ok rfl ty57 rfl (arr_clen hc57594.2 hc57594.1)) rfl rfl <| nq (Q_move rfl) rfl rfl <| WL_nil <| x_then ?_
                obtain ⟨o57988, ho57988, hB57587⟩ := bnd hB57587
                refine C_cutQ (fun a w' => ∃ (c57985 : (List Value)) (x57986 : (List Int)), x57986 = o57988 ∧ rdL (eI .i64) ρ x57986 c57985 ∧ Fr 79 a [(2, .pointer (some ⟨b29197, 0, none⟩)), (5, (.slice (some ⟨b29200, 0, none⟩) (x2.length : Int).toNat (x2.length : Int).toNat)), (7, .int .i64 x48857), (8, v53625), (47, v1), (48, .int .i64 (x2.length : Int)), (49, .int .i64 x56793)] ∧ Hp C w' ρ (Box b29197 [v1, v4, v7] :: Arr (.slice (some ⟨b29200, 0, none⟩) (x2.length : Int).toNat (x2.length : Int).toNat) 1 c57985 :: Arr v53625 1 (([]) ++ c48854) :: hs)) ?_ ?_
                · refine C_block ?_
                  replace H := H.front 3 rfl
                  dsimp only [List.eraseIdx] at H
                  replace H := H.front 3 rfl
                  dsimp only [List.eraseIdx] at H
                  replace H := H.front 3 rfl
                  dsimp only [List.eraseIdx] at H
                  replace H := H.drop 3 rfl
                  dsimp only [List.eraseIdx] at H
                  refine C_iter (f := fun s => F_dofferref18_Steps_l3 N x48857 x53623 x56793 x57590 s.1 s.2) ho57988 (fun s a w' => ∃ (c58116 : (List Value)) (x58117 : (List Int)) (x58119 : Int), (x58117, x58119) = s ∧ rdL (eI .i64) ρ x58117 c58116 ∧ Fr 79 a [(2, .pointer (some ⟨b29197, 0, none⟩)), (5, (.slice (some ⟨b29200, 0, none⟩) (x2.length : Int).toNat (x2.length : Int).toNat)), (7, .int .i64 x48857), (8, v53625), (9, .int .i64 x56793), (47, v1), (48, .int .i64 (x2.length : Int)), (49, .int .i64 x56793), (54, .agg c57593.toArray), (55, .int .i64 x58119)] ∧ Hp C w' ρ (Box b29197 [v1, v4, v7] :: Arr (.slice (some ⟨b29200, 0, none⟩) (x2.length : Int).toNat (x2.length : Int).toNat) 1 c58116 :: Arr v53625 1 (([]) ++ c48854) :: hs)) ?_ ?_
                  · exact fun a hf => ⟨c56794, x56795, 0, rfl, r56796, hf.sub ⟨rfl, rfl, rfl, rfl, rfl, rfl, rfl, rfl, rfl, rfl, trivial⟩, H⟩
                  · rintro s o58247 a wd58250 ⟨c58116, x58117, x58119, rfl, r58118, hf, H⟩ hB58248 hO58249
                    replace hB58248 : F_dofferref18_Steps_l3 N x48857 x53623 x56793 x57590 x58117 x58119 = some o58247 := hB58248
                    unfold F_dofferref18_Steps_l3 at hB58248
                    refine CW.at hf <| C_seq <| R_nd <| nq (Q_lss rfl rfl) rfl rfl <| WL_nil <| x_then <| C_seq ?_
                    refine C_cond rfl (fun hb => ?_) (fun hb => ?_)
                    · replace hB58248 := itT hb hB58248
                      refine C_skip <| x_then ?_
                      obtain ⟨o58313, ho58313, hB58248⟩ := bnd hB58248
                      refine C_cut (fun a w' => ∃ (c58310 : (List Value)) (x58311 : (List Int)), x58311 = o58313 ∧ rdL (eI .i64) ρ x58311 c58310 ∧ Fr 79 a [(2, .pointer (some ⟨b29197, 0, none⟩)), (5, (.slice (some ⟨b29200, 0, none⟩) (x2.length : Int).toNat (x2.length : Int).toNat)), (7, .int .i64 x48857), (8, v53625), (9, .int .i64 x56793), (47, v1), (48, .int .i64 (x2.length : Int)), (49, .int .i64 x56793), (54, .agg c57593.toArray), (55, .int .i64 x58119)] ∧ Hp C w' ρ (Box b29197 [v1, v4, v7] :: Arr (.slice (some ⟨b29200, 0, none⟩) (x2.length : Int).toNat (x2.length : Int).toNat) 1 c58310 :: Arr v53625 1 (([]) ++ c48854) :: hs)) ?_ ?_
                      · refine C_block <| C_seq <| R_nd ?_
                        obtain ⟨x58314, hx58314, ho58313⟩ := bnd ho58313
                        refine nq (Q_ixI hc57594.2 hc57594.1 hx58314 Tryd.underlying57 rfl rfl ty3 rfl) rfl rfl <| nq (Q_assign rfl) rfl rfl <| WL_nil <| x_then ?_
                        obtain ⟨o58330, ho58330, ho58313⟩ := bnd ho58313
                        refine C_cut (fun a w' => ∃ (x58329 : Bool), x58329 = o58330 ∧ Fr 79 a [(2, .pointer (some ⟨b29197, 0, none⟩)), (5, (.slice (some ⟨b29200, 0, none⟩) (x2.length : Int).toNat (x2.length : Int).toNat)), (7, .int .i64 x48857), (8, v53625), (9, .int .i64 x56793), (47, v1), (48, .int .i64 (x2.length : Int)), (49, .int .i64 x56793), (54, .agg c57593.toArray), (55, .int .i64 x58119), (70, .bool x58329)] ∧ Hp C w' ρ (Box b29197 [v1, v4, v7] :: Arr (.slice (some ⟨b29200, 0, none⟩) (x2.length : Int).toNat (x2.length : Int).toNat) 1 c58116 :: Arr v53625 1 (([]) ++ c48854) :: hs)) ?_ ?_
                        · refine R_nd <| nq (Q_move rfl) rfl rfl <| nq (Q_move rfl) rfl rfl ?_
                          obtain ⟨x58331, hx58331, ho58330⟩ := bnd ho58330
                          obtain ⟨b58332, o58333, hi58337, hc58335, ha58336⟩ := arr_at (hs := [Arr v53625 1 (([]) ++ c48854)]) (k := 0) (by decide) (H.okS (by simp)) rfl r53626 hx58331
                          refine nq (Q_idx hi58337 Tryd.underlying23 ty3 rfl rfl) rfl rfl <| nq (v := .int .i64 x58331) (Q_ld (show cellsAt _ _ _ [.int .i64 x58331] from (show _ = [_] from hc58335) ▸ (ha58336 _ (Ok.subS (by simp) H.ok))) ty3 rfl (fun _ => rfl) rfl rfl) rfl rfl <| nq (Q_lss rfl rfl) rfl rfl <| nq (Q_move rfl) rfl rfl ?_
                          rcases Bool.eq_false_or_eq_true (decide (x58331 < 0)) with hb | hb
                          · rw [hb]
                            replace ho58330 := itT hb ho58330
                            refine gq (Q_move rfl) rfl rfl rfl <| gq (Q_move rfl) rfl rfl rfl ?_
                            obtain ⟨x58338, hx58338, ho58330⟩ := bnd ho58330
                            obtain ⟨b58339, o58340, hi58344, hc58342, ha58343⟩ := arr_at (hs := [Arr v53625 1 (([]) ++ c48854)]) (k := 0) (by decide) (H.okS (by simp)) rfl r53626 hx58338
                            refine gq (Q_idx hi58344 Tryd.underlying23 ty3 rfl rfl) rfl rfl rfl <| gq (v := .int .i64 x58338) (Q_ld (show cellsAt _ _ _ [.int .i64 x58338] from (show _ = [_] from hc58342) ▸ (ha58343 _ (Ok.subS (by simp) H.ok))) ty3 rfl (fun _ => rfl) rfl rfl) rfl rfl rfl <| gq (Q_move rfl) rfl rfl rfl <| gq (Q_eql rfl rfl) rfl rfl rfl <| nq (Q_pickT rfl rfl) rfl rfl <| WL_nil ?_
                            replace H := H.front 2 rfl
                            dsimp only [List.eraseIdx] at H
                            replace H := H.front 2 rfl
                            dsimp only [List.eraseIdx] at H
                            replace H := H.front 2 rfl
                            dsimp only [List.eraseIdx] at H
                            obtain rfl := Option.some.inj ho58330
                            refine x_A fun a hf => ⟨x58338 == x48857, rfl, hf.sub ⟨rfl, rfl, rfl, rfl, rfl, rfl, rfl, rfl, rfl, rfl, rfl, trivial⟩, H⟩
                          · rw [hb]
                            replace ho58330 := itF hb ho58330
                            refine gs rfl rfl rfl rfl <| gs rfl rfl rfl rfl <| gs rfl rfl rfl rfl <| gs rfl rfl rfl rfl <| gs rfl rfl rfl rfl <| gs rfl rfl rfl rfl <| nq (Q_pickF rfl rfl) rfl rfl <| WL_nil ?_
                            replace H := H.front 2 rfl
                            dsimp only [List.eraseIdx] at H
                            replace H := H.front 2 rfl
                            dsimp only [List.eraseIdx] at H
                            replace H := H.front 2 rfl
                            dsimp only [List.eraseIdx] at H
                            obtain rfl := Option.some.inj ho58330
                            refine x_A fun a hf => ⟨false, rfl, hf.sub ⟨rfl, rfl, rfl, rfl, rfl, rfl, rfl, rfl, rfl, rfl, rfl, trivial⟩, H⟩
                        · rintro a wd58345 ⟨x58329, rfl, hf, H⟩
                          try dsimp only at ho58313
                          refine CW.at hf ?_
                          obtain ⟨o58360, ho58360, ho58313⟩ := bnd ho58313
                          refine C_cutQ (fun a w' => ∃ (c58357 : (List Value)) (x58358 : (List Int)), x58358 = o58360 ∧ rdL (eI .i64) ρ x58358 c58357 ∧ Fr 79 a [(2, .pointer (some ⟨b29197, 0, none⟩)), (5, (.slice (some ⟨b29200, 0, none⟩) (x2.length : Int).toNat (x2.length : Int).toNat)), (7, .int .i64 x48857), (8, v53625), (9, .int .i64 x56793), (47, v1), (48, .int .i64 (x2.length : Int)), (49, .int .i64 x56793), (54, .agg c57593.toArray), (55, .int .i64 x58119)] ∧ Hp C w' ρ (Box b29197 [v1, v4, v7] :: Arr (.slice (some ⟨b29200, 0, none⟩) (x2.length : Int).toNat (x2.length : Int).toNat) 1 c58357 :: Arr v53625 1 (([]) ++ c48854) :: hs)) ?_ ?_
                          · refine C_cond rfl (fun hb => ?_) (fun hb => ?_)
                            · replace ho58360 := itT hb ho58360
                              refine R_nd <| nq (Q_move rfl) rfl rfl <| nq (Q_move rfl) rfl rfl <| nq (Q_move rfl) rfl rfl <| nq (Q_add rfl rfl) rfl rfl ?_
                              obtain ⟨x58361, hx58361, ho58360⟩ := bnd ho58360
                              obtain ⟨b58362, o58363, hi58367, hc58365, ha58366⟩ := arr_at (hs := [Arr (.slice (some ⟨b29200, 0, none⟩) (x2.length : Int).toNat (x2.length : Int).toNat) 1 c58116]) (k := 0) (by decide) (H.okS (by simp)) rfl r58118 hx58361
                              refine nq (Q_idx hi58367 Tryd.underlying23 ty3 rfl rfl) rfl rfl ?_
                              obtain ⟨x58368, hx58368, ho58360⟩ := bnd ho58360
                              obtain ⟨hs58369a, hs58369b, hs58369c⟩ := setI_some hx58368
                              have r58370 : rdL (eI .i64) ρ x58368 (setC c58116 (x56793.toNat * 1 + 0) [.int .i64 (w64 (x48857 + 1))]) := hs58369c ▸ rdL.set r58118 hs58369b (rfl)
                              refine ne (E_stA (k := 1) (j := 0) (c := [.int .i64 (w64 (x48857 + 1))]) H rfl ty3 hi58367 rfl rfl rfl rfl (one_cons rfl one_nil) (by decide)) rfl rfl ?_
                              rintro _ wd58371 H
                              dsimp only [List.set] at H
                              refine WL_nil ?_
                              replace H := H.front 2 rfl
                              dsimp only [List.eraseIdx] at H
                              replace H := H.front 2 rfl
                              dsimp only [List.eraseIdx] at H
                              replace H := H.front 2 rfl
                              dsimp only [List.eraseIdx] at H
                              obtain rfl := Option.some.inj ho58360
                              refine x_A fun a hf => ⟨(setC c58116 (x56793.toNat * 1 + 0) [.int .i64 (w64 (x48857 + 1))]), x58368, rfl, r58370, hf.sub ⟨rfl, rfl, rfl, rfl, rfl, rfl, rfl, rfl, rfl, rfl, trivial⟩, H⟩
                            · replace ho58360 := itF hb ho58360
                              refine C_skip ?_
                              replace H := H.front 2 rfl
                              dsimp only [List.eraseIdx] at H
                              replace H := H.front 2 rfl
                              dsimp only [List.eraseIdx] at H
                              replace H := H.front 2 rfl
                              dsimp only [List.eraseIdx] at H
                              obtain rfl := Option.some.inj ho58360
                              refine x_A fun a hf => ⟨c58116, x58117, rfl, r58118, hf.sub ⟨rfl, rfl, rfl, rfl, rfl, rfl, rfl, rfl, rfl, rfl, trivial⟩, H⟩
                          · rintro a wd58372 ⟨c58357, x58358, rfl, r58359, hf, H⟩
                            try dsimp only at ho58313
                            refine XX.at hf <| x_block ?_
                            replace H := H.front 2 rfl
                            dsimp only [List.eraseIdx] at H
                            replace H := H.front 2 rfl
                            dsimp only [List.eraseIdx] at H
                            replace H := H.front 2 rfl
                            dsimp only [List.eraseIdx] at H
                            obtain rfl := Option.some.inj ho58313
                            refine x_A fun a hf => ⟨c58357, x58358, rfl, r58359, hf.sub ⟨rfl, rfl, rfl, rfl, rfl, rfl, rfl, rfl, rfl, rfl, trivial⟩, H⟩
                      · rintro a wd58373 ⟨c58310, x58311, rfl, r58312, hf, H⟩
                        try dsimp only at hB58248
                        refine CW.at hf <| R_nd <| nq (Q_add rfl rfl) rfl rfl <| nq (Q_move rfl) rfl rfl <| WL_nil ?_
                        replace H := H.front 2 rfl
                        dsimp only [List.eraseIdx] at H
                        replace H := H.front 2 rfl
                        dsimp only [List.eraseIdx] at H
                        replace H := H.front 2 rfl
                        dsimp only [List.eraseIdx] at H
                        obtain rfl := Option.some.inj hB58248
                        refine x_A fun a hf => ⟨_, rfl, c58310, x58311, w64 (x58119 + 1), rfl, r58312, hf.sub ⟨rfl, rfl, rfl, rfl, rfl, rfl, rfl, rfl, rfl, rfl, trivial⟩, H⟩
                    · replace hB58248 := itF hb hB58248
                      refine C_exit <| x_then_exit <| x_then_exit <| x_block_exit ?_
                      replace H := H.front 2 rfl
                      dsimp only [List.eraseIdx] at H
                      replace H := H.front 2 rfl
                      dsimp only [List.eraseIdx] at H
                      replace H := H.front 2 rfl
                      dsimp only [List.eraseIdx] at H
                      obtain rfl := Option.some.inj hB58248
                      obtain rfl := hO58249 _ rfl
                      refine x_A fun a hf => ⟨c58116, x58117, rfl, r58118, hf.sub ⟨rfl, rfl, rfl, rfl, rfl, rfl, rfl, trivial⟩, H⟩
                · rintro a wd58374 ⟨c57985, x57986, rfl, r57987, hf, H⟩
                  try dsimp only at hB57587
                  refine XX.at hf <| x_block <| x_then <| R_nd <| nq (Q_add rfl rfl) rfl rfl <| nq (Q_move rfl) rfl rfl <| WL_nil ?_
                  replace H := H.front 2 rfl
                  dsimp only [List.eraseIdx] at H
                  replace H := H.front 2 rfl
                  dsimp only [List.eraseIdx] at H
                  replace H := H.front 2 rfl
                  dsimp only [List.eraseIdx] at H
                  obtain rfl := Option.some.inj hB57587
                  refine x_A fun a hf => ⟨_, rfl, c57985, w64 (x56793 + 1), x57986, rfl, r57987, hf.sub ⟨rfl, rfl, rfl, rfl, rfl, rfl, rfl, trivial⟩, H⟩
              · replace hB57587 := itF hb hB57587
                refine C_exit <| x_then_exit <| x_then_exit <| x_block_exit ?_
                replace H := H.front 1 rfl
                dsimp only [List.eraseIdx] at H
                replace H := H.front 1 rfl
                dsimp only [List.eraseIdx] at H
                replace H := H.drop 2 rfl
                dsimp only [List.eraseIdx] at H
                obtain rfl := Option.some.inj hB57587
                obtain rfl := hO57588 _ rfl
                refine x_A fun a hf => ⟨c56794, x56795, rfl, r56796, hf.sub ⟨rfl, rfl, rfl, trivial⟩, H⟩
          · rintro a wd58375 ⟨c56000, x56001, rfl, r56002, hf, H⟩
            try dsimp only at hB53618
            refine XX.at hf <| x_block <| x_then <| R_nd <| nq (Q_move rfl) rfl rfl <| nq (Q_add rfl rfl) rfl rfl <| nq (Q_assign rfl) rfl rfl <| WL_nil ?_
            replace H := H.front 1 rfl
            dsimp only [List.eraseIdx] at H
            replace H := H.front 1 rfl
            dsimp only [List.eraseIdx] at H
            obtain rfl := Option.some.inj hB53618
            refine x_A fun a hf => ⟨_, rfl, c56000, x56001, w64 (x48857 + 1), rfl, r56002, hf.sub ⟨rfl, rfl, rfl, trivial⟩, H⟩
        · replace hB53618 := itF hb hB53618
          refine C_exit <| x_then_exit <| x_then_exit <| x_block_exit ?_
          replace H := H.front 1 rfl
          dsimp only [List.eraseIdx] at H
          replace H := H.drop 1 rfl
          dsimp only [List.eraseIdx] at H
          obtain rfl := Option.some.inj hB53618
          obtain rfl := hO53619 _ rfl
          refine x_A fun a hf => ⟨c48854, x48855, rfl, r48856, hf.sub ⟨rfl, trivial⟩, H⟩
    · rintro a wd58376 ⟨c44091, x44092, rfl, r44093, hf, H⟩
      try dsimp only at hF
      refine XX.at hf <| x_then <| C_seq <| R_nd <| nq (Q_move rfl) rfl rfl <| nq (Q_assign rfl) rfl rfl <| WL_nil <| x_then <| C_ret ?_
      obtain rfl := Option.some.inj hF
      exact fn_ret (l := [.tmp 4]) (vs := [(.slice (some ⟨b29200, 0, none⟩) (x2.length : Int).toNat (x2.length : Int).toNat)]) rfl rfl rfl ⟨(.slice (some ⟨b29200, 0, none⟩) (x2.length : Int).toNat (x2.length : Int).toNat), c44091, x44092, rfl, rfl, r44093, H⟩
theorem c_40 {N : Nat} {C : Cx} {w : World} {ρ : View} {hs : List Hl} {v1 : Value} {v4 : Value} {v7 : Value} {x2 : (List (List Int))} {x5 : (List Int)} {x8 : (List Int)} {x10 : Int} {x11 : Int} (H : Hp C w ρ (hs)) (r3 : RdSl ρ (eA 256 (eI .i64)) v1 x2) (r6 : RdSl ρ (eI .i64) v4 x5) (r9 : RdSl ρ (eI .i64) v7 x8) {r : ((List Int) × Bool)} (hF : F_dofferref18_Shortest N x2 x5 x8 x10 x11 = some r) :
    Calls Tryd.prog 40 [.agg #[v1, v4, v7], .int .i64 x10, .int .i64 x11].toArray w (Rets (fun v w' => (∃ (v1908 : Value) (c1909 : (List Value)) (x1910 : (List Int)) (x1912 : Bool), (x1910, x1912) = r ∧ .tuple [v1908, .bool x1912].toArray = v ∧ rdL (eI .u8) ρ x1910 c1909 ∧ Hp C w' ρ (Arr v1908 1 c1909 :: hs)))) := by
  unfold F_dofferref18_Shortest at hF
  have h0 : Tryd.f40.body = some _ := rfl
  refine fn_calls' Tryd.func40 h0 (n := 77) rfl (by simp) <| C_seq <| R_nd <| ne (E_box H (vs := [v1, v4, v7]) rfl rfl) rfl rfl ?_
  rintro _ wd1914 ⟨b1913, rfl, H⟩
  refine nq (Q_assign rfl) rfl rfl <| nq (Q_assign rfl) rfl rfl <| WL_nil <| x_then <| C_seq ?_
  obtain ⟨o1916, ho1916, hF⟩ := bnd hF
  refine C_cut (fun a w' => ∃ (x1915 : Bool), x1915 = o1916 ∧ Fr 77 a [(1, .int .i64 x10), (2, .int .i64 x11), (3, .pointer (some ⟨b1913, 0, none⟩)), (24, .bool x1915)] ∧ Hp C w' ρ (Box b1913 [v1, v4, v7] :: hs)) ?_ ?_
  · refine R_nd <| nq (Q_move rfl) rfl rfl <| nq (Q_lss rfl rfl) rfl rfl <| nq (Q_move rfl) rfl rfl ?_
    rcases Bool.eq_false_or_eq_true (decide (x11 < 0)) with hb | hb
    · rw [hb]
      replace ho1916 := itT hb ho1916
      refine gs rfl rfl rfl rfl <| gs rfl rfl rfl rfl <| nq (Q_pickT rfl rfl) rfl rfl <| nq (Q_move rfl) rfl rfl <| gs rfl rfl rfl rfl <| gs rfl rfl rfl rfl <| gs rfl rfl rfl rfl <| gs rfl rfl rfl rfl <| gs rfl rfl rfl rfl <| nq (Q_pickT rfl rfl) rfl rfl <| WL_nil ?_
      obtain rfl := Option.some.inj ho1916
      refine x_A fun a hf => ⟨true, rfl, hf.sub ⟨rfl, rfl, rfl, rfl, trivial⟩, H⟩
    · rw [hb]
      replace ho1916 := itF hb ho1916
      refine gq (Q_move rfl) rfl rfl rfl <| gq (Q_lss rfl rfl) rfl rfl rfl <| nq (Q_pickF rfl rfl) rfl rfl <| nq (Q_move rfl) rfl rfl ?_
      rcases Bool.eq_false_or_eq_true (decide (x10 < 0)) with hb | hb
      · rw [hb]
        replace ho1916 := itT hb ho1916
        refine gs rfl rfl rfl rfl <| gs rfl rfl rfl rfl <| gs rfl rfl rfl rfl <| gs rfl rfl rfl rfl <| gs rfl rfl rfl rfl <| nq (Q_pickT rfl rfl) rfl rfl <| WL_nil ?_
        obtain rfl := Option.some.inj ho1916
        refine x_A fun a hf => ⟨true, rfl, hf.sub ⟨rfl, rfl, rfl, rfl, trivial⟩, H⟩
      · rw [hb]
        replace ho1916 := itF hb ho1916
        refine gq (Q_move rfl) rfl rfl rfl <| gq (v := .pointer (some ⟨b1913, 2, none⟩)) (Q_fld Tryd.underlying29 rfl ty23 (by decide) rfl rfl) rfl rfl rfl <| gq (v := v7) (Q_ldB (k := 0) (cs := [v7]) H.ok rfl ty23 rfl rfl rfl (fun _ => rfl) rfl) rfl rfl rfl <| gq (Q_len Tryd.underlying23 rfl r9) rfl rfl rfl <| gq (Q_geq rfl rfl) rfl rfl rfl <| nq (Q_pickF rfl rfl) rfl rfl <| WL_nil ?_
        obtain rfl := Option.some.inj ho1916
        refine x_A fun a hf => ⟨decide (x10 ≥ (x8.length : Int)), rfl, hf.sub ⟨rfl, rfl, rfl, rfl, trivial⟩, H⟩
  · rintro a wd1917 ⟨x1915, rfl, hf, H⟩
    try dsimp only at hF
    refine CW.at hf ?_
    refine C_cond rfl (fun hb => ?_) (fun hb => ?_)
    · replace hF := itT hb hF
      refine C_seq <| R_nd <| nq (Q_assign rfl) rfl rfl <| nq (Q_assign rfl) rfl rfl <| WL_nil <| x_then <| C_ret <| x_then_ret ?_
      have H := H.nilArr 1
      replace H := H.drop 1 rfl
      dsimp only [List.eraseIdx] at H
      obtain rfl := Option.some.inj hF
      exact fn_ret (l := [.tmp 6, .tmp 7]) (vs := [(.slice none 0 0), .bool false]) rfl rfl rfl ⟨(.slice none 0 0), [], [], false, rfl, rfl, rdL.nil, H⟩
    · replace hF := itF hb hF
      refine C_skip <| x_then <| C_seq <| R_nd <| nq (v := .agg #[v1, v4, v7]) (Q_ldB (k := 0) (cs := [v1, v4, v7]) H.ok rfl ty29 rfl rfl rfl (fun h => nomatch h) rfl) rfl rfl <| nq (Q_move rfl) rfl rfl ?_
      obtain ⟨q1918, hq1918, hF⟩ := bnd hF
      refine ne (E_call fn68 rfl (c_68 H  r3 r6 r9 hq1918)) rfl rfl ?_
      rintro _ wd1924 ⟨v1920, c1921, x1922, rfl, rfl, r1923, H⟩
      try dsimp only at hF
      refine nq (Q_assign rfl) rfl rfl <| WL_nil <| x_then <| C_seq <| R_nd <| nq (v := .pointer (some ⟨b1913, 2, none⟩)) (Q_fld Tryd.underlying29 rfl ty23 (by decide) rfl rfl) rfl rfl <| nq (v := v7) (Q_ldB (k := 1) (cs := [v7]) H.ok rfl ty23 rfl rfl rfl (fun _ => rfl) rfl) rfl rfl <| nq (Q_move rfl) rfl rfl ?_
      obtain ⟨x1925, hx1925, hF⟩ := bnd hF
      obtain ⟨b1926, o1927, c1928, hc1929, ha1930, hi1931⟩ := idxR r9 hx1925
      refine nq (Q_idx hi1931 Tryd.underlying23 ty3 rfl rfl) rfl rfl <| nq (v := .int .i64 x1925) (Q_ld (show cellsAt _ _ _ [.int .i64 x1925] from (show _ = [_] from hc1929) ▸ (ha1930.up H.ok.view)) ty3 rfl (fun _ => rfl) rfl rfl) rfl rfl <| nq (Q_assign rfl) rfl rfl <| WL_nil <| x_then <| C_seq <| C_seq <| R_nd <| nq (Q_move rfl) rfl rfl <| nq (Q_move rfl) rfl rfl ?_
      obtain ⟨x1932, hx1932, hF⟩ := bnd hF
      obtain ⟨b1933, o1934, hi1938, hc1936, ha1937⟩ := arr_at (hs := [Arr v1920 1 c1921]) (k := 0) (by decide) (H.okS (by simp)) rfl r1923 hx1932
      refine nq (Q_idx hi1938 Tryd.underlying23 ty3 rfl rfl) rfl rfl <| nq (v := .int .i64 x1932) (Q_ld (show cellsAt _ _ _ [.int .i64 x1932] from (show _ = [_] from hc1936) ▸ (ha1937 _ (Ok.subS (by simp) H.ok))) ty3 rfl (fun _ => rfl) rfl rfl) rfl rfl <| nq (Q_lss rfl rfl) rfl rfl <| WL_nil <| x_then ?_
      refine C_cond rfl (fun hb => ?_) (fun hb => ?_)
      · replace hF := itT hb hF
        refine C_seq <| R_nd <| nq (Q_assign rfl) rfl rfl <| nq (Q_assign rfl) rfl rfl <| WL_nil <| x_then <| C_ret <| x_then_ret ?_
        have H := H.nilArr 1
        replace H := H.drop 1 rfl
        dsimp only [List.eraseIdx] at H
        replace H := H.drop 1 rfl
        dsimp only [List.eraseIdx] at H
        obtain rfl := Option.some.inj hF
        exact fn_ret (l := [.tmp 6, .tmp 7]) (vs := [(.slice none 0 0), .bool false]) rfl rfl rfl ⟨(.slice none 0 0), [], [], false, rfl, rfl, rdL.nil, H⟩
      · replace hF := itF hb hF
        refine C_skip <| x_then <| C_seq <| R_nd <| ne (E_bslice0 H Tryd.underlying42 ty5) rfl rfl ?_
        rintro _ wd1940 ⟨b1939, rfl, H⟩
        refine nq (Q_assign rfl) rfl rfl <| WL_nil <| x_then ?_
        obtain ⟨o2876, ho2876, hF⟩ := bnd hF
        refine C_cut (fun a w' => ∃ (v2872 : Value) (c2873 : (List Value)) (x2874 : (List Int)), x2874 = o2876 ∧ rdL (eI .u8) ρ x2874 c2873 ∧ Fr 77 a [(10, v2872)] ∧ Hp C w' ρ (Arr v2872 1 c2873 :: hs)) ?_ ?_
        · refine C_block ?_
          replace H := H.front 1 rfl
          dsimp only [List.eraseIdx] at H
          replace H := H.front 2 rfl
          dsimp only [List.eraseIdx] at H
          replace H := H.front 2 rfl
          dsimp only [List.eraseIdx] at H
          refine C_iter (f := fun s => F_dofferref18_Shortest_l0 N x2 x1922 s.1 s.2) ho2876 (fun s a w' => ∃ (v3186 : Value) (c3187 : (List Value)) (x3188 : (List Int)) (x3190 : Int), (x3188, x3190) = s ∧ rdL (eI .u8) ρ x3188 c3187 ∧ Fr 77 a [(3, .pointer (some ⟨b1913, 0, none⟩)), (8, v1920), (9, .int .i64 x3190), (10, v3186)] ∧ Hp C w' ρ (Arr v3186 1 c3187 :: Box b1913 [v1, v4, v7] :: Arr v1920 1 c1921 :: hs)) ?_ ?_
          · exact fun a hf => ⟨(.slice (some ⟨b1939, 0, none⟩) 0 0), [], [], x1925, rfl, rdL.nil, hf.sub ⟨rfl, rfl, rfl, rfl, trivial⟩, H⟩
          · rintro s o3500 a wd3503 ⟨v3186, c3187, x3188, x3190, rfl, r3189, hf, H⟩ hB3501 hO3502
            replace hB3501 : F_dofferref18_Shortest_l0 N x2 x1922 x3188 x3190 = some o3500 := hB3501
            unfold F_dofferref18_Shortest_l0 at hB3501
            refine CW.at hf <| C_seq <| C_seq <| R_nd <| nq (Q_move rfl) rfl rfl <| nq (Q_move rfl) rfl rfl ?_
            obtain ⟨x3504, hx3504, hB3501⟩ := bnd hB3501
            obtain ⟨b3505, o3506, hi3510, hc3508, ha3509⟩ := arr_at (hs := [Arr v1920 1 c1921]) (k := 0) (by decide) (H.okS (by simp)) rfl r1923 hx3504
            refine nq (Q_idx hi3510 Tryd.underlying23 ty3 rfl rfl) rfl rfl <| nq (v := .int .i64 x3504) (Q_ld (show cellsAt _ _ _ [.int .i64 x3504] from (show _ = [_] from hc3508) ▸ (ha3509 _ (Ok.subS (by simp) H.ok))) ty3 rfl (fun _ => rfl) rfl rfl) rfl rfl <| nq (Q_gtr rfl rfl) rfl rfl <| WL_nil <| x_then ?_
            refine C_cond rfl (fun hb => ?_) (fun hb => ?_)
            · replace hB3501 := itT hb hB3501
              refine C_skip <| x_then <| C_block <| C_seq <| R_nd <| nq (Q_assign rfl) rfl rfl <| WL_nil <| x_then ?_
              obtain ⟨o3661, ho3661, hB3501⟩ := bnd hB3501
              refine C_cutQ (fun a w' => ∃ (v3656 : Value) (c3657 : (List Value)) (x3658 : (List Int)) (x3660 : Int), (x3658, x3660) = o3661 ∧ rdL (eI .u8) ρ x3658 c3657 ∧ Fr 77 a [(3, .pointer (some ⟨b1913, 0, none⟩)), (8, v1920), (9, .int .i64 x3660), (10, v3656)] ∧ Hp C w' ρ (Arr v3656 1 c3657 :: Box b1913 [v1, v4, v7] :: Arr v1920 1 c1921 :: hs)) ?_ ?_
              · refine C_block ?_
                replace H := H.front 2 rfl
                dsimp only [List.eraseIdx] at H
                replace H := H.front 2 rfl
                dsimp only [List.eraseIdx] at H
                replace H := H.front 2 rfl
                dsimp only [List.eraseIdx] at H
                refine C_iter (f := fun s => F_dofferref18_Shortest_l1 N x2 x1922 x3188 x3190 s) ho3661 (fun s a w' => ∃ (x3709 : Int), x3709 = s ∧ Fr 77 a [(3, .pointer (some ⟨b1913, 0, none⟩)), (8, v1920), (9, .int .i64 x3190), (10, v3186), (11, .int .i64 x3709)] ∧ Hp C w' ρ (Arr v3186 1 c3187 :: Box b1913 [v1, v4, v7] :: Arr v1920 1 c1921 :: hs)) ?_ ?_
                · exact fun a hf => ⟨0, rfl, hf.sub ⟨rfl, rfl, rfl, rfl, rfl, trivial⟩, H⟩
                · rintro s o3757 a wd3760 ⟨x3709, rfl, hf, H⟩ hB3758 hO3759
                  replace hB3758 : F_dofferref18_Shortest_l1 N x2 x1922 x3188 x3190 x3709 = some o3757 := hB3758
                  unfold F_dofferref18_Shortest_l1 at hB3758
                  refine CW.at hf <| C_seq <| C_seq <| R_nd <| nq (Q_move rfl) rfl rfl <| nq (Q_lss rfl rfl) rfl rfl <| WL_nil <| x_then ?_
                  refine C_cond rfl (fun hb => ?_) (fun hb => ?_)
                  · replace hB3758 := itT hb hB3758
                    refine C_skip <| x_then <| C_seq <| C_block <| C_seq <| R_dr (.take 0 (.take 1 (.take 2 (.take 3 (.take 4 (.take 5 (.take 6 (.take 7 (.take 8 (.take 9 (.take 10 (.take 11 (.take 12 (.take 13 (.take 14 (.take 15 .done)))))))))))))))) (fun w' => Ok w' ρ [Arr v3186 1 c3187, Box b1913 [v1, v4, v7], Arr v1920 1 c1921]) (by kernel_rfl) (by kernel_rfl) (by kernel_rfl) (H.drew.okS (by simp)) ?_
                    replace H := H.drew
                    refine dq rfl (fun _ _ => Q_move rfl) rfl rfl <| dq (v := .pointer (some ⟨b1913, 0, none⟩)) rfl (fun _ _ => Q_fld Tryd.underlying29 rfl ty27 (by decide) rfl rfl) rfl rfl <| dq (v := v1) rfl (fun _ hw => Q_ldB (k := 1) (cs := [v1]) hw rfl ty27 rfl rfl rfl (fun _ => rfl) rfl) rfl rfl <| dq rfl (fun _ _ => Q_move rfl) rfl rfl <| dq rfl (fun _ _ => Q_move rfl) rfl rfl ?_
                    obtain ⟨x3761, hx3761, hB3758⟩ := bnd hB3758
                    obtain ⟨b3762, o3763, c3764, hc3765, ha3766, hi3767⟩ := idxR r3 hx3761
                    refine dq rfl (fun _ _ => Q_idx hi3767 Tryd.underlying27 ty57 rfl rfl) rfl rfl ?_
                    obtain ⟨x3768, hx3768, hB3758⟩ := bnd hB3758
                    have hn3769 := idx_lt hc3765.1 hx3768
                    refine dq rfl (fun _ _ => Q_idxA hn3769.1 hn3769.2 Tryd.underlying57 ty3 rfl rfl) rfl rfl ?_
                    obtain ⟨c3770, hc3771, ha3772, _⟩ := arrR hc3765 ha3766 hx3768
                    refine dq (v := .int .i64 x3768) rfl (fun _ hw => Q_ld (show cellsAt _ _ _ [.int .i64 x3768] from (show _ = [_] from hc3771) ▸ (ha3772.up hw.view)) ty3 rfl (fun _ => rfl) rfl rfl) rfl rfl ?_
                    obtain ⟨x3773, hx3773, hB3758⟩ := bnd hB3758
                    obtain ⟨b3774, o3775, hi3779, hc3777, ha3778⟩ := arr_at (hs := [Arr v1920 1 c1921]) (k := 0) (by decide) (H.okS (by simp)) rfl r1923 hx3773
                    refine dq rfl (fun _ _ => Q_idx hi3779 Tryd.underlying23 ty3 rfl rfl) rfl rfl <| dq (v := .int .i64 x3773) rfl (fun _ hw => Q_ld (show cellsAt _ _ _ [.int .i64 x3773] from (show _ = [_] from hc3777) ▸ (ha3778 _ (Ok.subS (by simp) hw))) ty3 rfl (fun _ => rfl) rfl rfl) rfl rfl <| dq rfl (fun _ _ => Q_move rfl) rfl rfl <| dq rfl (fun _ _ => Q_move rfl) rfl rfl ?_
                    obtain ⟨x3780, hx3780, hB3758⟩ := bnd hB3758
                    obtain ⟨b3781, o3782, hi3786, hc3784, ha3785⟩ := arr_at (hs := [Arr v1920 1 c1921]) (k := 0) (by decide) (H.okS (by simp)) rfl r1923 hx3780
                    refine dq rfl (fun _ _ => Q_idx hi3786 Tryd.underlying23 ty3 rfl rfl) rfl rfl <| dq (v := .int .i64 x3780) rfl (fun _ hw => Q_ld (show cellsAt _ _ _ [.int .i64 x3780] from (show _ = [_] from hc3784) ▸ (ha3785 _ (Ok.subS (by simp) hw))) ty3 rfl (fun _ => rfl) rfl rfl) rfl rfl <| dq rfl (fun _ _ => Q_sub rfl rfl) rfl rfl <| dq rfl (fun _ _ => Q_eql rfl rfl) rfl rfl <| DL_nil <| x_then ?_
                    refine C_cond rfl (fun hb => ?_) (fun hb => ?_)
                    · replace hB3758 := itT hb hB3758
                      refine C_seq <| R_nd <| nq (Q_move rfl) rfl rfl <| nq (Q_move rfl) rfl rfl <| nq (Q_cvI ⟨_, Tryd.underlying3⟩ Tryd.underlying5 rfl) rfl rfl <| ne (E_bslice (xs := [.tmp 66]) (vs := [.int .u8 (IntKind.wrap .u8 x3709)]) H Tryd.underlying42 ty5 (by decide) (cs := [.int .u8 (IntKind.wrap .u8 x3709)]) rfl (sz_cons rfl sz_nil) rfl (by simp) (by simp) rfl rfl) rfl rfl ?_
                      rintro _ wd3788 ⟨b3787, rfl, H⟩
                      obtain ⟨x3789, hx3789, hB3758⟩ := bnd hB3758
                      obtain ⟨ha3790a, ha3790b⟩ := app_some hx3789
                      have r3792 : rdL (eI .u8) ρ x3789 (c3187 ++ ([.int .u8 (IntKind.wrap .u8 x3709)])) := ha3790b ▸ rdL.app r3189 (show rdL (eI .u8) ρ ([IntKind.wrap .u8 x3709]) ([.int .u8 (IntKind.wrap .u8 x3709)]) from ⟨([.int .u8 (IntKind.wrap .u8 x3709)]), _, rfl, rfl, rdL.nil⟩)
                      refine ne (E_append (k := 1) H rfl Tryd.underlying42 ty5 rfl (by decide) (by decide) rfl rfl (Src.ofArr (k := 0) H.ok rfl) (rdL.one (show rdL (eI .u8) ρ ([IntKind.wrap .u8 x3709]) ([.int .u8 (IntKind.wrap .u8 x3709)]) from ⟨([.int .u8 (IntKind.wrap .u8 x3709)]), _, rfl, rfl, rdL.nil⟩)) (app_fit r3189 (show rdL (eI .u8) ρ ([IntKind.wrap .u8 x3709]) ([.int .u8 (IntKind.wrap .u8 x3709)]) from ⟨([.int .u8 (IntKind.wrap .u8 x3709)]), _, rfl, rfl, rdL.nil⟩) ha3790a)) rfl rfl ?_
                      rintro v3791 wd3794 ⟨H, hc3793⟩
                      dsimp only [List.set] at H
                      refine nq (Q_assign rfl) rfl rfl <| WL_nil <| x_then <| C_seq <| R_nd <| nq (v := .pointer (some ⟨b1913, 0, none⟩)) (Q_fld Tryd.underlying29 rfl ty27 (by decide) rfl rfl) rfl rfl <| nq (v := v1) (Q_ldB (k := 2) (cs := [v1]) H.ok rfl ty27 rfl rfl rfl (fun _ => rfl) rfl) rfl rfl <| nq (Q_move rfl) rfl rfl <| nq (Q_move rfl) rfl rfl ?_
                      obtain ⟨x3795, hx3795, hB3758⟩ := bnd hB3758
                      obtain ⟨b3796, o3797, c3798, hc3799, ha3800, hi3801⟩ := idxR r3 hx3795
                      refine nq (Q_idx hi3801 Tryd.underlying27 ty57 rfl rfl) rfl rfl ?_
                      obtain ⟨x3802, hx3802, hB3758⟩ := bnd hB3758
                      have hn3803 := idx_lt hc3799.1 hx3802
                      refine nq (Q_idxA hn3803.1 hn3803.2 Tryd.underlying57 ty3 rfl rfl) rfl rfl ?_
                      obtain ⟨c3804, hc3805, ha3806, _⟩ := arrR hc3799 ha3800 hx3802
                      refine nq (v := .int .i64 x3802) (Q_ld (show cellsAt _ _ _ [.int .i64 x3802] from (show _ = [_] from hc3805) ▸ (ha3806.up H.ok.view)) ty3 rfl (fun _ => rfl) rfl rfl) rfl rfl <| nq (Q_assign rfl) rfl rfl <| WL_nil <| x_then <| C_exit <| x_block_other rfl <| x_then_exit <| x_then_exit <| x_block_exit ?_
                      replace H := H.front 3 rfl
                      dsimp only [List.eraseIdx] at H
                      replace H := H.front 3 rfl
                      dsimp only [List.eraseIdx] at H
                      replace H := H.front 3 rfl
                      dsimp only [List.eraseIdx] at H
                      replace H := H.drop 3 rfl
                      dsimp only [List.eraseIdx] at H
                      obtain rfl := Option.some.inj hB3758
                      obtain rfl := hO3759 _ rfl
                      refine x_A fun a hf => ⟨v3791, (c3187 ++ ([.int .u8 (IntKind.wrap .u8 x3709)])), x3789, x3802, rfl, r3792, hf.sub ⟨rfl, rfl, rfl, rfl, trivial⟩, H⟩
                    · replace hB3758 := itF hb hB3758
                      refine C_skip <| x_block <| x_then <| R_nd <| nq (Q_move rfl) rfl rfl <| nq (Q_add rfl rfl) rfl rfl <| nq (Q_assign rfl) rfl rfl <| WL_nil ?_
                      replace H := H.front 2 rfl
                      dsimp only [List.eraseIdx] at H
                      replace H := H.front 2 rfl
                      dsimp only [List.eraseIdx] at H
                      replace H := H.front 2 rfl
                      dsimp only [List.eraseIdx] at H
                      obtain rfl := Option.some.inj hB3758
                      refine x_A fun a hf => ⟨_, rfl, w64 (x3709 + 1), rfl, hf.sub ⟨rfl, rfl, rfl, rfl, rfl, trivial⟩, H⟩
                  · replace hB3758 := itF hb hB3758
                    refine C_exit <| x_then_exit <| x_then_exit <| x_block_exit ?_
                    replace H := H.front 2 rfl
                    dsimp only [List.eraseIdx] at H
                    replace H := H.front 2 rfl
                    dsimp only [List.eraseIdx] at H
                    replace H := H.front 2 rfl
                    dsimp only [List.eraseIdx] at H
                    obtain rfl := Option.some.inj hB3758
                    obtain rfl := hO3759 _ rfl
                    refine x_A fun a hf => ⟨v3186, c3187, x3188, x3190, rfl, r3189, hf.sub ⟨rfl, rfl, rfl, rfl, trivial⟩, H⟩
              · rintro a wd3807 ⟨v3656, c3657, x3658, x3660, rfl, r3659, hf, H⟩
                try dsimp only at hB3501
                refine XX.at hf <| x_block ?_
                replace H := H.front 2 rfl
                dsimp only [List.eraseIdx] at H
                replace H := H.front 2 rfl
                dsimp only [List.eraseIdx] at H
                replace H := H.front 2 rfl
                dsimp only [List.eraseIdx] at H
                obtain rfl := Option.some.inj hB3501
                refine x_A fun a hf => ⟨_, rfl, v3656, c3657, x3658, x3660, rfl, r3659, hf.sub ⟨rfl, rfl, rfl, rfl, trivial⟩, H⟩
            · replace hB3501 := itF hb hB3501
              refine C_exit <| x_then_exit <| x_then_exit <| x_block_exit ?_
              replace H := H.drop 1 rfl
              dsimp only [List.eraseIdx] at H
              replace H := H.drop 1 rfl
              dsimp only [List.eraseIdx] at H
              obtain rfl := Option.some.inj hB3501
              obtain rfl := hO3502 _ rfl
              refine x_A fun a hf => ⟨v3186, c3187, x3188, rfl, r3189, hf.sub ⟨rfl, trivial⟩, H⟩
        · rintro a wd3808 ⟨v2872, c2873, x2874, rfl, r2875, hf, H⟩
          try dsimp only at hF
          refine CW.at hf <| C_seq <| R_nd <| nq (Q_move rfl) rfl rfl <| nq (Q_assign rfl) rfl rfl <| nq (Q_assign rfl) rfl rfl <| WL_nil <| x_then <| C_ret ?_
          obtain rfl := Option.some.inj hF
          exact fn_ret (l := [.tmp 6, .tmp 7]) (vs := [v2872, .bool true]) rfl rfl rfl ⟨v2872, c2873, x2874, true, rfl, rfl, r2875, H⟩
theorem c_7 {N : Nat} {C : Cx} {w : World} {ρ : View} {hs : List Hl} {v1 : Value} {v4 : Value} {v7 : Value} {x2 : (List (List Int))} {x5 : (List Int)} {x8 : (List Int)} {x10 : Int} {x11 : Int} (H : Hp C w ρ (hs)) {ge0 : Value} (gl0 : GErr ρ 0 ge0) (gl1 : GTab ρ 1 .u8 tab_math_bits_deBruijn64tab) (r3 : RdSl ρ (eA 256 (eI .i64)) v1 x2) (r6 : RdSl ρ (eI .i64) v4 x5) (r9 : RdSl ρ (eI .i64) v7 x8) {r : Bool} (hF : F_dofferlaw18_TrimShortest N x2 x5 x8 x10 x11 = some r) :
    Calls Tryd.prog 7 [.agg #[v1, v4, v7], .int .i64 x10, .int .i64 x11].toArray w (Rets (fun v w' => (∃ (ρ' : View) (x87 : Bool), x87 = r ∧ .bool x87 = v ∧ View.le ρ ρ' ∧ Hp C w' ρ' (hs)))) := by
  unfold F_dofferlaw18_TrimShortest at hF
  have h0 : Tryd.f7.body = some _ := rfl
  refine fn_calls' Tryd.func7 h0 (n := 68) rfl (by simp) <| C_seq <| R_nd <| ne (E_box H (vs := [v1, v4, v7]) rfl rfl) rfl rfl ?_
  rintro _ wd89 ⟨b88, rfl, H⟩
  refine nq (Q_assign rfl) rfl rfl <| WL_nil <| x_then <| C_seq <| C_seq <| R_nd ?_
  obtain ⟨q90, hq90, hF⟩ := bnd hF
  refine ne (E_call fn28 rfl (c_28 H gl0 gl1  hq90)) rfl rfl ?_
  rintro _ wd93 ⟨x92, rfl, rfl, H⟩
  try dsimp only at hF
  refine nq (Q_not rfl) rfl rfl <| WL_nil <| x_then ?_
  refine C_cond rfl (fun hb => ?_) (fun hb => ?_)
  · replace hF := itT hb hF
    refine C_seq <| R_nd <| nq (Q_assign rfl) rfl rfl <| WL_nil <| x_then <| C_ret <| x_then_ret ?_
    replace H := H.drop 0 rfl
    dsimp only [List.eraseIdx] at H
    obtain rfl := Option.some.inj hF
    exact fn_ret (l := [.tmp 6]) (vs := [.bool false]) rfl rfl rfl ⟨ρ, false, rfl, rfl, (View.le_refl _), H⟩
  · replace hF := itF hb hF
    refine C_skip <| x_then <| C_seq <| R_nd <| nq (v := .agg #[v1, v4, v7]) (Q_ldB (k := 0) (cs := [v1, v4, v7]) H.ok rfl ty25 rfl rfl rfl (fun h => nomatch h) rfl) rfl rfl ?_
    obtain ⟨q94, hq94, hF⟩ := bnd hF
    refine ne (E_call fn15 rfl (c_15 H  r3 r6 r9 hq94)) rfl rfl ?_
    rintro _ wd101 ⟨v96, c97, x98, x99, rfl, rfl, r100, H⟩
    try dsimp only at hF
    refine nq (Q_move rfl) rfl rfl <| nq (Q_extract rfl rfl) rfl rfl <| nq (Q_extract rfl rfl) rfl rfl <| ne (E_alloc H ty29 (zs := [.slice none 0 0, .slice none 0 0, .slice none 0 0]) rfl) rfl rfl ?_
    rintro _ wd103 ⟨b102, rfl, H⟩
    refine ne (E_stB (k := 0) (cs := [v96, v4, v7]) (vs' := [v96, v4, v7]) H rfl ty29 rfl rfl rfl rfl (one_cons (arr_cells (H.ok.get (k := 1) rfl)).2 (one_cons (RdSl.one r6) (one_cons (RdSl.one r9) one_nil))) (by simp) rfl) rfl rfl ?_
    rintro _ wd104 H
    dsimp only [List.set] at H
    refine nq (Q_assign rfl) rfl rfl <| WL_nil <| x_then <| C_seq <| C_seq <| R_nd <| nq (Q_move rfl) rfl rfl <| nq (Q_not rfl) rfl rfl <| WL_nil <| x_then ?_
    refine C_cond rfl (fun hb => ?_) (fun hb => ?_)
    · replace hF := itT hb hF
      refine C_seq <| R_nd <| nq (Q_assign rfl) rfl rfl <| WL_nil <| x_then <| C_ret <| x_then_ret ?_
      replace H := H.drop 0 rfl
      dsimp only [List.eraseIdx] at H
      replace H := H.drop 0 rfl
      dsimp only [List.eraseIdx] at H
      replace H := H.drop 0 rfl
      dsimp only [List.eraseIdx] at H
      obtain rfl := Option.some.inj hF
      exact fn_ret (l := [.tmp 6]) (vs := [.bool true]) rfl rfl rfl ⟨ρ, true, rfl, rfl, (View.le_refl _), H⟩
    · replace hF := itF hb hF
      refine C_skip <| x_then <| C_seq <| R_nd <| nq (v := .agg #[v1, v4, v7]) (Q_ldB (k := 2) (cs := [v1, v4, v7]) H.ok rfl ty25 rfl rfl rfl (fun h => nomatch h) rfl) rfl rfl <| nq (Q_move rfl) rfl rfl <| nq (Q_move rfl) rfl rfl ?_
      obtain ⟨q105, hq105, hF⟩ := bnd hF
      refine ne (E_call fn39 rfl (c_39 H gl0 r3 r6 r9 hq105)) rfl rfl ?_
      rintro _ wd112 (⟨ρ, rfl, rfl, lw107, H⟩ | ⟨ρ, v108, x109, rfl, rfl, lw110, r111, H⟩)
      · try dsimp only at hF
        replace r3 := RdSl.up lw107 r3
        replace r6 := RdSl.up lw107 r6
        replace r9 := RdSl.up lw107 r9
        replace r100 := rdL.up lw107 r100
        replace gl0 := GErr.up lw107 gl0
        replace gl1 := GTab.up lw107 gl1
        refine nq (Q_move rfl) rfl rfl <| nq (Q_extract rfl rfl) rfl rfl <| nq (Q_extract rfl rfl) rfl rfl <| nq (Q_assign rfl) rfl rfl <| nq (Q_assign rfl) rfl rfl <| WL_nil <| x_then <| C_seq <| C_seq <| R_nd <| nq (v := .agg #[v96, v4, v7]) (Q_ldB (k := 1) (cs := [v96, v4, v7]) H.ok rfl ty29 rfl rfl rfl (fun h => nomatch h) rfl) rfl rfl ?_
        replace H := H.front 2 rfl
        dsimp only [List.eraseIdx] at H
        obtain ⟨q113, hq113, hF⟩ := bnd hF
        obtain ⟨C', ρ', hl114, HA, hL, hback⟩ := Hp.lend (A := []) (L := [Arr v96 256 c97]) (F := Arr (.slice none 0 0) 1 ([]) :: Box b102 [v96, v4, v7] :: Box b88 [v1, v4, v7] :: hs) H
        refine ne (E_call fn17 rfl (c_17 HA  (arr_rd (by decide) hl114 (hL (Arr v96 256 c97) (by simp)) r100) (r6.up hl114) (r9.up hl114) hq113)) rfl rfl ?_
        rintro _ wd116 ⟨x115, rfl, rfl, H⟩
        try dsimp only at hF
        replace H := hback H
        dsimp only [List.cons_append, List.nil_append] at H
        refine nq (Q_not rfl) rfl rfl <| WL_nil <| x_then ?_
        refine C_cond rfl (fun hb => ?_) (fun hb => ?_)
        · replace hF := itT hb hF
          obtain ⟨o117, ho117, hF⟩ := bnd hF
          refine C_cut (fun a w' => Fr 68 a [(6, .bool ((([] : List Int).length : Int) == 0))] ∧ Hp C w' ρ (hs)) ?_ ?_
          · refine R_nd <| nq (Q_move rfl) rfl rfl <| nq (Q_not rfl) rfl rfl <| nq (Q_move rfl) rfl rfl <| gq (Q_move rfl) rfl rfl rfl <| gq (Q_lenA (en := (eI .u8)) (k := 1) H.ok rfl rdL.nil (by decide) Tryd.underlying42 rfl) rfl rfl rfl <| gq (Q_eql rfl rfl) rfl rfl rfl <| nq (Q_pickT rfl rfl) rfl rfl <| nq (Q_assign rfl) rfl rfl <| WL_nil ?_
            replace H := H.drop 0 rfl
            dsimp only [List.eraseIdx] at H
            replace H := H.drop 0 rfl
            dsimp only [List.eraseIdx] at H
            replace H := H.drop 0 rfl
            dsimp only [List.eraseIdx] at H
            replace H := H.drop 0 rfl
            dsimp only [List.eraseIdx] at H
            obtain rfl := Option.some.inj ho117
            refine x_A fun a hf => ⟨hf.sub ⟨rfl, trivial⟩, H⟩
          · rintro a wd118 ⟨hf, H⟩
            try dsimp only at hF
            refine CW.at hf <| C_ret <| x_then_ret ?_
            obtain rfl := Option.some.inj hF
            exact fn_ret (l := [.tmp 6]) (vs := [.bool ((([] : List Int).length : Int) == 0)]) rfl rfl rfl ⟨ρ, (([] : List Int).length : Int) == 0, rfl, rfl, lw107, H⟩
        · replace hF := itF hb hF
          refine C_skip <| x_then <| C_seq <| R_nd <| nq (v := .agg #[v96, v4, v7]) (Q_ldB (k := 2) (cs := [v96, v4, v7]) H.ok rfl ty29 rfl rfl rfl (fun h => nomatch h) rfl) rfl rfl <| nq (Q_move rfl) rfl rfl <| nq (Q_move rfl) rfl rfl ?_
          obtain ⟨q119, hq119, hF⟩ := bnd hF
          obtain ⟨C', ρ', hl120, HA, hL, hback⟩ := Hp.lend (A := []) (L := [Arr v96 256 c97]) (F := Arr (.slice none 0 0) 1 ([]) :: Box b102 [v96, v4, v7] :: Box b88 [v1, v4, v7] :: hs) H
          refine ne (E_call fn40 rfl (c_40 HA  (arr_rd (by decide) hl120 (hL (Arr v96 256 c97) (by simp)) r100) (r6.up hl120) (r9.up hl120) hq119)) rfl rfl ?_
          rintro _ wd126 ⟨v121, c122, x123, x124, rfl, rfl, r125, H⟩
          try dsimp only at hF
          replace H := hback H
          replace r125 := rdL.flat (ρ := ρ') (ρ' := ρ) (flat_I _) r125
          dsimp only [List.cons_append, List.nil_append] at H
          refine nq (Q_move rfl) rfl rfl <| nq (Q_extract rfl rfl) rfl rfl <| nq (Q_extract rfl rfl) rfl rfl <| nq (Q_assign rfl) rfl rfl <| nq (Q_assign rfl) rfl rfl <| WL_nil <| x_then ?_
          obtain ⟨o130, ho130, hF⟩ := bnd hF
          refine C_cut (fun a w' => ∃ (x129 : Bool), x129 = o130 ∧ Fr 68 a [(6, .bool x129)] ∧ Hp C w' ρ (hs)) ?_ ?_
          · refine R_nd <| nq (Q_move rfl) rfl rfl <| nq (Q_move rfl) rfl rfl <| nq (v := .bool (false == x124)) (Q_eqlB Tryd.underlying4 rfl rfl) rfl rfl <| nq (Q_move rfl) rfl rfl ?_
            rcases Bool.eq_false_or_eq_true (false == x124) with hb | hb
            · rw [hb]
              replace ho130 := itT hb ho130
              refine gq (Q_move rfl) rfl rfl rfl <| ge (E_bstrA (k := 2) H rfl rdL.nil Tryd.underlying42 Tryd.underlying5 Tryd.underlying9 rfl) rfl rfl rfl ?_
              rintro _ wd131 ⟨rfl, rfl⟩
              refine gq (Q_move rfl) rfl rfl rfl <| ge (E_bstrA (k := 0) H rfl r125 Tryd.underlying42 Tryd.underlying5 Tryd.underlying9 rfl) rfl rfl rfl ?_
              rintro _ wd132 ⟨rfl, rfl⟩
              refine gq (v := .bool ((bstr ([])).toList == (bstr x123).toList)) (Q_eqlStr Tryd.underlying9 rfl rfl) rfl rfl rfl <| nq (Q_pickT rfl rfl) rfl rfl <| nq (Q_move rfl) rfl rfl ?_
              rcases Bool.eq_false_or_eq_true ((bstr ([])).toList == (bstr x123).toList) with hb | hb
              · rw [hb]
                replace ho130 := itT hb ho130
                refine gq (Q_move rfl) rfl rfl rfl <| gq (Q_not rfl) rfl rfl rfl <| gq (Q_move rfl) rfl rfl rfl <| gs rfl rfl rfl rfl <| gs rfl rfl rfl rfl <| gs rfl rfl rfl rfl <| gs rfl rfl rfl rfl <| gs rfl rfl rfl rfl <| gs rfl rfl rfl rfl <| gq (Q_pickT rfl rfl) rfl rfl rfl <| nq (Q_pickT rfl rfl) rfl rfl <| nq (Q_assign rfl) rfl rfl <| WL_nil ?_
                replace H := H.drop 0 rfl
                dsimp only [List.eraseIdx] at H
                replace H := H.drop 0 rfl
                dsimp only [List.eraseIdx] at H
                replace H := H.drop 0 rfl
                dsimp only [List.eraseIdx] at H
                replace H := H.drop 0 rfl
                dsimp only [List.eraseIdx] at H
                replace H := H.drop 0 rfl
                dsimp only [List.eraseIdx] at H
                obtain rfl := Option.some.inj ho130
                refine x_A fun a hf => ⟨true, rfl, hf.sub ⟨rfl, trivial⟩, H⟩
              · rw [hb]
                replace ho130 := itF hb ho130
                refine gs rfl rfl rfl rfl <| gs rfl rfl rfl rfl <| gs rfl rfl rfl rfl <| gsu rfl ⟨_, _, rfl, rfl, rfl⟩ rfl <| gsu rfl ⟨_, _, rfl, rfl, rfl⟩ rfl <| gsu rfl ⟨_, _, rfl, rfl, rfl⟩ rfl <| gsu rfl ⟨_, _, rfl, rfl, rfl⟩ rfl <| gsu rfl ⟨_, _, rfl, rfl, rfl⟩ rfl <| gsu rfl ⟨_, _, rfl, rfl, rfl⟩ rfl <| gs rfl rfl rfl rfl <| nq (Q_pickF rfl rfl) rfl rfl <| nq (Q_assign rfl) rfl rfl <| WL_nil ?_
                replace H := H.drop 0 rfl
                dsimp only [List.eraseIdx] at H
                replace H := H.drop 0 rfl
                dsimp only [List.eraseIdx] at H
                replace H := H.drop 0 rfl
                dsimp only [List.eraseIdx] at H
                replace H := H.drop 0 rfl
                dsimp only [List.eraseIdx] at H
                replace H := H.drop 0 rfl
                dsimp only [List.eraseIdx] at H
                obtain rfl := Option.some.inj ho130
                refine x_A fun a hf => ⟨false, rfl, hf.sub ⟨rfl, trivial⟩, H⟩
            · rw [hb]
              replace ho130 := itF hb ho130
              refine gs rfl rfl rfl rfl <| gs rfl rfl rfl rfl <| gs rfl rfl rfl rfl <| gs rfl rfl rfl rfl <| gs rfl rfl rfl rfl <| nq (Q_pickF rfl rfl) rfl rfl <| nq (Q_move rfl) rfl rfl <| gs rfl rfl rfl rfl <| gs rfl rfl rfl rfl <| gs rfl rfl rfl rfl <| gsu rfl ⟨_, _, rfl, rfl, rfl⟩ rfl <| gsu rfl ⟨_, _, rfl, rfl, rfl⟩ rfl <| gsu rfl ⟨_, _, rfl, rfl, rfl⟩ rfl <| gsu rfl ⟨_, _, rfl, rfl, rfl⟩ rfl ?_
              refine gsu rfl ⟨_, _, rfl, rfl, rfl⟩ rfl <| gsu rfl ⟨_, _, rfl, rfl, rfl⟩ rfl <| gs rfl rfl rfl rfl <| nq (Q_pickF rfl rfl) rfl rfl <| nq (Q_assign rfl) rfl rfl <| WL_nil ?_
              replace H := H.drop 0 rfl
              dsimp only [List.eraseIdx] at H
              replace H := H.drop 0 rfl
              dsimp only [List.eraseIdx] at H
              replace H := H.drop 0 rfl
              dsimp only [List.eraseIdx] at H
              replace H := H.drop 0 rfl
              dsimp only [List.eraseIdx] at H
              replace H := H.drop 0 rfl
              dsimp only [List.eraseIdx] at H
              obtain rfl := Option.some.inj ho130
              refine x_A fun a hf => ⟨false, rfl, hf.sub ⟨rfl, trivial⟩, H⟩
          · rintro a wd133 ⟨x129, rfl, hf, H⟩
            try dsimp only at hF
            refine CW.at hf <| C_ret ?_
            obtain rfl := Option.some.inj hF
            exact fn_ret (l := [.tmp 6]) (vs := [.bool x129]) rfl rfl rfl ⟨ρ, x129, rfl, rfl, lw107, H⟩
      · try dsimp only at hF
        replace r3 := RdSl.up lw110 r3
        replace r6 := RdSl.up lw110 r6
        replace r9 := RdSl.up lw110 r9
        replace r100 := rdL.up lw110 r100
        replace gl0 := GErr.up lw110 gl0
        replace gl1 := GTab.up lw110 gl1
        refine nq (Q_move rfl) rfl rfl <| nq (Q_extract rfl rfl) rfl rfl <| nq (Q_extract rfl rfl) rfl rfl <| nq (Q_assign rfl) rfl rfl <| nq (Q_assign rfl) rfl rfl <| WL_nil <| x_then <| C_seq <| C_seq <| R_nd <| nq (v := .agg #[v96, v4, v7]) (Q_ldB (k := 0) (cs := [v96, v4, v7]) H.ok rfl ty29 rfl rfl rfl (fun h => nomatch h) rfl) rfl rfl ?_
        replace H := H.front 1 rfl
        dsimp only [List.eraseIdx] at H
        obtain ⟨q134, hq134, hF⟩ := bnd hF
        obtain ⟨C', ρ', hl135, HA, hL, hback⟩ := Hp.lend (A := []) (L := [Arr v96 256 c97]) (F := Box b102 [v96, v4, v7] :: Box b88 [v1, v4, v7] :: hs) H
        refine ne (E_call fn17 rfl (c_17 HA  (arr_rd (by decide) hl135 (hL (Arr v96 256 c97) (by simp)) r100) (r6.up hl135) (r9.up hl135) hq134)) rfl rfl ?_
        rintro _ wd137 ⟨x136, rfl, rfl, H⟩
        try dsimp only at hF
        replace H := hback H
        dsimp only [List.cons_append, List.nil_append] at H
        refine nq (Q_not rfl) rfl rfl <| WL_nil <| x_then ?_
        refine C_cond rfl (fun hb => ?_) (fun hb => ?_)
        · replace hF := itT hb hF
          obtain ⟨o138, ho138, hF⟩ := bnd hF
          refine C_cut (fun a w' => Fr 68 a [(6, .bool false)] ∧ Hp C w' ρ (hs)) ?_ ?_
          · refine R_nd <| nq (Q_move rfl) rfl rfl <| nq (Q_not rfl) rfl rfl <| nq (Q_move rfl) rfl rfl <| gs rfl rfl rfl rfl <| gs rfl rfl rfl rfl <| gs rfl rfl rfl rfl <| nq (Q_pickF rfl rfl) rfl rfl <| nq (Q_assign rfl) rfl rfl <| WL_nil ?_
            replace H := H.drop 0 rfl
            dsimp only [List.eraseIdx] at H
            replace H := H.drop 0 rfl
            dsimp only [List.eraseIdx] at H
            replace H := H.drop 0 rfl
            dsimp only [List.eraseIdx] at H
            obtain rfl := Option.some.inj ho138
            refine x_A fun a hf => ⟨hf.sub ⟨rfl, trivial⟩, H⟩
          · rintro a wd139 ⟨hf, H⟩
            try dsimp only at hF
            refine CW.at hf <| C_ret <| x_then_ret ?_
            obtain rfl := Option.some.inj hF
            exact fn_ret (l := [.tmp 6]) (vs := [.bool false]) rfl rfl rfl ⟨ρ, false, rfl, rfl, lw110, H⟩
        · replace hF := itF hb hF
          refine C_skip <| x_then <| C_seq <| R_nd <| nq (v := .agg #[v96, v4, v7]) (Q_ldB (k := 1) (cs := [v96, v4, v7]) H.ok rfl ty29 rfl rfl rfl (fun h => nomatch h) rfl) rfl rfl <| nq (Q_move rfl) rfl rfl <| nq (Q_move rfl) rfl rfl ?_
          obtain ⟨q140, hq140, hF⟩ := bnd hF
          obtain ⟨C', ρ', hl141, HA, hL, hback⟩ := Hp.lend (A := []) (L := [Arr v96 256 c97]) (F := Box b102 [v96, v4, v7] :: Box b88 [v1, v4, v7] :: hs) H
          refine ne (E_call fn40 rfl (c_40 HA  (arr_rd (by decide) hl141 (hL (Arr v96 256 c97) (by simp)) r100) (r6.up hl141) (r9.up hl141) hq140)) rfl rfl ?_
          rintro _ wd147 ⟨v142, c143, x144, x145, rfl, rfl, r146, H⟩
          try dsimp only at hF
          replace H := hback H
          replace r146 := rdL.flat (ρ := ρ') (ρ' := ρ) (flat_I _) r146
          dsimp only [List.cons_append, List.nil_append] at H
          refine nq (Q_move rfl) rfl rfl <| nq (Q_extract rfl rfl) rfl rfl <| nq (Q_extract rfl rfl) rfl rfl <| nq (Q_assign rfl) rfl rfl <| nq (Q_assign rfl) rfl rfl <| WL_nil <| x_then ?_
          obtain ⟨o155, ho155, hF⟩ := bnd hF
          refine C_cut (fun a w' => ∃ (x154 : Bool), x154 = o155 ∧ Fr 68 a [(6, .bool x154)] ∧ Hp C w' ρ (hs)) ?_ ?_
          · refine R_nd <| nq (Q_move rfl) rfl rfl <| nq (Q_move rfl) rfl rfl <| nq (v := .bool (true == x145)) (Q_eqlB Tryd.underlying4 rfl rfl) rfl rfl <| nq (Q_move rfl) rfl rfl ?_
            rcases Bool.eq_false_or_eq_true (true == x145) with hb | hb
            · rw [hb]
              replace ho155 := itT hb ho155
              refine gq (Q_move rfl) rfl rfl rfl <| ge (E_bstrR H Tryd.underlying42 Tryd.underlying5 Tryd.underlying9 rfl r111) rfl rfl rfl ?_
              rintro _ wd156 ⟨rfl, rfl⟩
              refine gq (Q_move rfl) rfl rfl rfl <| ge (E_bstrA (k := 0) H rfl r146 Tryd.underlying42 Tryd.underlying5 Tryd.underlying9 rfl) rfl rfl rfl ?_
              rintro _ wd157 ⟨rfl, rfl⟩
              refine gq (v := .bool ((bstr x109).toList == (bstr x144).toList)) (Q_eqlStr Tryd.underlying9 rfl rfl) rfl rfl rfl <| nq (Q_pickT rfl rfl) rfl rfl <| nq (Q_move rfl) rfl rfl ?_
              rcases Bool.eq_false_or_eq_true ((bstr x109).toList == (bstr x144).toList) with hb | hb
              · rw [hb]
                replace ho155 := itT hb ho155
                refine gq (Q_move rfl) rfl rfl rfl <| gq (Q_not rfl) rfl rfl rfl <| gq (Q_move rfl) rfl rfl rfl <| gq (v := .agg #[v1, v4, v7]) (Q_ldB (k := 3) (cs := [v1, v4, v7]) H.ok rfl ty25 rfl rfl rfl (fun h => nomatch h) rfl) rfl rfl rfl <| gq (Q_move rfl) rfl rfl rfl <| gq (Q_move rfl) rfl rfl rfl ?_
                obtain ⟨q158, hq158, ho155⟩ := bnd ho155
                refine ge (E_call fn27 rfl (c_27 H  r3 r6 r9 r111 hq158)) rfl rfl rfl ?_
                rintro _ wd161 ⟨x160, rfl, rfl, H⟩
                try dsimp only at ho155
                refine gq (Q_move rfl) rfl rfl rfl <| gq (Q_eql rfl rfl) rfl rfl rfl <| gq (Q_pickF rfl rfl) rfl rfl rfl <| nq (Q_pickT rfl rfl) rfl rfl <| nq (Q_assign rfl) rfl rfl <| WL_nil ?_
                replace H := H.drop 0 rfl
                dsimp only [List.eraseIdx] at H
                replace H := H.drop 0 rfl
                dsimp only [List.eraseIdx] at H
                replace H := H.drop 0 rfl
                dsimp only [List.eraseIdx] at H
                replace H := H.drop 0 rfl
                dsimp only [List.eraseIdx] at H
                obtain rfl := Option.some.inj ho155
                refine x_A fun a hf => ⟨x160 == x11, rfl, hf.sub ⟨rfl, trivial⟩, H⟩
              · rw [hb]
                replace ho155 := itF hb ho155
                refine gs rfl rfl rfl rfl <| gs rfl rfl rfl rfl <| gs rfl rfl rfl rfl <| gsu rfl ⟨_, _, rfl, rfl, rfl⟩ rfl <| gsu rfl ⟨_, _, rfl, rfl, rfl⟩ rfl <| gsu rfl ⟨_, _, rfl, rfl, rfl⟩ rfl <| gsu rfl ⟨_, _, rfl, rfl, rfl⟩ rfl <| gsu rfl ⟨_, _, rfl, rfl, rfl⟩ rfl <| gsu rfl ⟨_, _, rfl, rfl, rfl⟩ rfl <| gs rfl rfl rfl rfl <| nq (Q_pickF rfl rfl) rfl rfl <| nq (Q_assign rfl) rfl rfl <| WL_nil ?_
                replace H := H.drop 0 rfl
                dsimp only [List.eraseIdx] at H
                replace H := H.drop 0 rfl
                dsimp only [List.eraseIdx] at H
                replace H := H.drop 0 rfl
                dsimp only [List.eraseIdx] at H
                replace H := H.drop 0 rfl
                dsimp only [List.eraseIdx] at H
                obtain rfl := Option.some.inj ho155
                refine x_A fun a hf => ⟨false, rfl, hf.sub ⟨rfl, trivial⟩, H⟩
            · rw [hb]
              replace ho155 := itF hb ho155
              refine gs rfl rfl rfl rfl <| gs rfl rfl rfl rfl <| gs rfl rfl rfl rfl <| gs rfl rfl rfl rfl <| gs rfl rfl rfl rfl <| nq (Q_pickF rfl rfl) rfl rfl <| nq (Q_move rfl) rfl rfl <| gs rfl rfl rfl rfl <| gs rfl rfl rfl rfl <| gs rfl rfl rfl rfl <| gsu rfl ⟨_, _, rfl, rfl, rfl⟩ rfl <| gsu rfl ⟨_, _, rfl, rfl, rfl⟩ rfl <| gsu rfl ⟨_, _, rfl, rfl, rfl⟩ rfl <| gsu rfl ⟨_, _, rfl, rfl, rfl⟩ rfl ?_
              refine gsu rfl ⟨_, _, rfl, rfl, rfl⟩ rfl <| gsu rfl ⟨_, _, rfl, rfl, rfl⟩ rfl <| gs rfl rfl rfl rfl <| nq (Q_pickF rfl rfl) rfl rfl <| nq (Q_assign rfl) rfl rfl <| WL_nil ?_
              replace H := H.drop 0 rfl
              dsimp only [List.eraseIdx] at H
              replace H := H.drop 0 rfl
              dsimp only [List.eraseIdx] at H
              replace H := H.drop 0 rfl
              dsimp only [List.eraseIdx] at H
              replace H := H.drop 0 rfl
              dsimp only [List.eraseIdx] at H
              obtain rfl := Option.some.inj ho155
              refine x_A fun a hf => ⟨false, rfl, hf.sub ⟨rfl, trivial⟩, H⟩
          · rintro a wd162 ⟨x154, rfl, hf, H⟩
            try dsimp only at hF
            refine CW.at hf <| C_ret ?_
            obtain rfl := Option.some.inj hF
            exact fn_ret (l := [.tmp 6]) (vs := [.bool x154]) rfl rfl rfl ⟨ρ, x154, rfl, rfl, lw110, H⟩
end Go.Proofs.YteiaphkejkgfkaaDoor
