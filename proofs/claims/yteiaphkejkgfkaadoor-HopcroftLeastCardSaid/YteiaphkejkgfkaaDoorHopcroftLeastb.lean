/-
  The walks of the law HopcroftLeast, printed by my program, part 2: each function of the code computes its pure function.
-/
import Derived.Test.YteiaphkejkgfkaaDoorHopcroftLeasta
namespace Go.Proofs.YteiaphkejkgfkaaDoor
open Go Go.Eng
set_option maxRecDepth 100000
theorem c_62 {N : Nat} {C : Cx} {w : World} {ρ : View} {hs : List Hl} {v1 : Value} {v4 : Value} {v7 : Value} {x2 : (List (List Int))} {x5 : (List Int)} {x8 : (List Int)} (H : Hp C w ρ (hs)) {ge0 : Value} (gl0 : GErr ρ 0 ge0) (gl1 : GTab ρ 1 .u8 tab_math_bits_deBruijn64tab) (r3 : RdSl ρ (eA 256 (eI .i64)) v1 x2) (r6 : RdSl ρ (eI .i64) v4 x5) (r9 : RdSl ρ (eI .i64) v7 x8) {r : (List Int)} (hF : F_trim_kept N x2 x5 x8 = some r) :
    Calls Tryd.prog 62 [.agg #[v1, v4, v7]].toArray w (Rets (fun v w' => (∃ (v1660 : Value) (c1661 : (List Value)) (x1662 : (List Int)), x1662 = r ∧ v1660 = v ∧ rdL (eI .i64) ρ x1662 c1661 ∧ Hp C w' ρ (Arr v1660 1 c1661 :: hs)))) := by
  unfold F_trim_kept at hF
  have h0 : Tryd.f62.body = some _ := rfl
  refine fn_calls' Tryd.func62 h0 (n := 31) rfl (by simp) <| C_seq <| R_nd <| ne (E_box H (vs := [v1, v4, v7]) rfl rfl) rfl rfl ?_
  rintro _ wd1665 ⟨b1664, rfl, H⟩
  refine nq (Q_assign rfl) rfl rfl <| WL_nil <| x_then <| C_seq <| R_nd <| ne (E_bslice (xs := [.const (.int .i64 0)]) (vs := [.int .i64 0]) H Tryd.underlying23 ty3 (by decide) (cs := [.int .i64 0]) rfl (sz_cons rfl sz_nil) rfl (by simp) (by simp) rfl rfl) rfl rfl ?_
  rintro _ wd1667 ⟨b1666, rfl, H⟩
  refine nq (Q_assign rfl) rfl rfl <| WL_nil <| x_then <| C_seq <| R_nd <| nq (v := .agg #[v1, v4, v7]) (Q_ldB (k := 1) (cs := [v1, v4, v7]) H.ok rfl ty25 rfl rfl rfl (fun h => nomatch h) rfl) rfl rfl ?_
  obtain ⟨q1668, hq1668, hF⟩ := bnd hF
  refine ne (E_call fn63 rfl (c_63 H gl0 r3 r6 r9 hq1668)) rfl rfl ?_
  rintro _ wd1675 (⟨rfl, rfl, H⟩ | ⟨b1670, v1671, c1672, x1673, rfl, rfl, r1674, H⟩)
  · try dsimp only at hF
    refine nq (Q_assign rfl) rfl rfl <| WL_nil <| x_then <| C_seq <| C_seq <| R_nd <| nq (v := .agg #[v1, v4, v7]) (Q_ldB (k := 1) (cs := [v1, v4, v7]) H.ok rfl ty25 rfl rfl rfl (fun h => nomatch h) rfl) rfl rfl ?_
    obtain ⟨q1676, hq1676, hF⟩ := bnd hF
    refine ne (E_call fn65 rfl (c_65 H gl0 r3 r6 r9 hq1676)) rfl rfl ?_
    rintro _ wd1683 (⟨rfl, rfl, H⟩ | ⟨b1678, v1679, c1680, x1681, rfl, rfl, r1682, H⟩)
    · try dsimp only at hF
      obtain ⟨q1684, hq1684, hF⟩ := bnd hF
      refine ne (E_call fn64 rfl (c_64 H   hq1684)) rfl rfl ?_
      rintro _ wd1690 ⟨v1686, c1687, x1688, rfl, rfl, r1689, H⟩
      try dsimp only at hF
      refine nq (Q_lenA (k := 0) H.ok rfl r1689 (by decide) Tryd.underlying23 rfl) rfl rfl <| nq (Q_move rfl) rfl rfl <| WL_nil <| x_then ?_
      obtain ⟨o1806, ho1806, hF⟩ := bnd hF
      refine C_cutQ (fun a w' => Fr 31 a [(3, (.slice (some ⟨b1666, 0, none⟩) 1 1))] ∧ Hp C w' ρ (Arr (.slice (some ⟨b1666, 0, none⟩) 1 1) 1 ([.int .i64 0]) :: hs)) ?_ ?_
      · refine C_block ?_
        replace H := H.front 1 rfl
        dsimp only [List.eraseIdx] at H
        replace H := H.front 1 rfl
        dsimp only [List.eraseIdx] at H
        replace H := H.drop 2 rfl
        dsimp only [List.eraseIdx] at H
        refine C_iter (f := fun s => F_trim_kept_l0 N x1688 s) ho1806 (fun s a w' => ∃ (x1844 : Int), x1844 = s ∧ Fr 31 a [(3, (.slice (some ⟨b1666, 0, none⟩) 1 1)), (4, .pointer none), (12, v1686), (13, .int .i64 (x1688.length : Int)), (14, .int .i64 x1844)] ∧ Hp C w' ρ (Arr v1686 1 c1687 :: Arr (.slice (some ⟨b1666, 0, none⟩) 1 1) 1 ([.int .i64 0]) :: hs)) ?_ ?_
        · exact fun a hf => ⟨0, rfl, hf.sub ⟨rfl, rfl, rfl, rfl, rfl, trivial⟩, H⟩
        · rintro s o1882 a wd1885 ⟨x1844, rfl, hf, H⟩ hB1883 hO1884
          replace hB1883 : F_trim_kept_l0 N x1688 x1844 = some o1882 := hB1883
          unfold F_trim_kept_l0 at hB1883
          refine CW.at hf <| C_seq <| R_nd <| nq (Q_lss rfl rfl) rfl rfl <| WL_nil <| x_then <| C_seq ?_
          refine C_cond rfl (fun hb => ?_) (fun hb => ?_)
          · replace hB1883 := itT hb hB1883
            refine C_skip <| x_then ?_
            obtain ⟨o1903, ho1903, hB1883⟩ := bnd hB1883
            refine C_cut (fun a w' => Fr 31 a [(3, (.slice (some ⟨b1666, 0, none⟩) 1 1)), (4, .pointer none), (12, v1686), (13, .int .i64 (x1688.length : Int)), (14, .int .i64 x1844), (22, undef), (23, undef)] ∧ Hp C w' ρ (Arr v1686 1 c1687 :: Arr (.slice (some ⟨b1666, 0, none⟩) 1 1) 1 ([.int .i64 0]) :: hs)) ?_ ?_
            · refine C_block <| C_seq <| R_nd ?_
              obtain ⟨x1904, hx1904, ho1903⟩ := bnd ho1903
              obtain ⟨b1905, o1906, hi1910, hc1908, ha1909⟩ := arr_at (hs := [Arr v1686 1 c1687]) (k := 0) (by decide) (H.okS (by simp)) rfl r1689 hx1904
              refine nq (Q_idx hi1910 Tryd.underlying23 ty3 rfl rfl) rfl rfl <| nq (v := .int .i64 x1904) (Q_ld (show cellsAt _ _ _ [.int .i64 x1904] from (show _ = [_] from hc1908) ▸ (ha1909 _ (Ok.subS (by simp) H.ok))) ty3 rfl (fun _ => rfl) rfl rfl) rfl rfl <| nq (Q_assign rfl) rfl rfl <| WL_nil <| x_then ?_
              obtain ⟨o1914, ho1914, ho1903⟩ := bnd ho1903
              refine C_cut (fun a w' => Fr 31 a [(3, (.slice (some ⟨b1666, 0, none⟩) 1 1)), (4, .pointer none), (6, .int .i64 x1904), (12, v1686), (13, .int .i64 (x1688.length : Int)), (14, .int .i64 x1844), (22, undef), (23, undef), (24, .bool false)] ∧ Hp C w' ρ (Arr v1686 1 c1687 :: Arr (.slice (some ⟨b1666, 0, none⟩) 1 1) 1 ([.int .i64 0]) :: hs)) ?_ ?_
              · refine R_nd <| nq (Q_move rfl) rfl rfl <| nq (Q_move rfl) rfl rfl ?_
                obtain ⟨q1915, hq1915, ho1914⟩ := bnd ho1914
                refine ne (E_call fn81 rfl (c_81 H   hq1915)) rfl rfl ?_
                rintro _ wd1917 ⟨rfl, rfl, H⟩
                try dsimp only at ho1914
                refine nq (Q_move rfl) rfl rfl <| gs rfl rfl rfl rfl <| gs rfl rfl rfl rfl <| nq (Q_pickF rfl rfl) rfl rfl <| WL_nil ?_
                replace H := H.front 1 rfl
                dsimp only [List.eraseIdx] at H
                replace H := H.front 1 rfl
                dsimp only [List.eraseIdx] at H
                obtain rfl := Option.some.inj ho1914
                refine x_A fun a hf => ⟨hf.sub ⟨rfl, rfl, rfl, rfl, rfl, rfl, rfl, rfl, rfl, trivial⟩, H⟩
              · rintro a wd1918 ⟨hf, H⟩
                try dsimp only at ho1903
                refine CW.at hf ?_
                obtain ⟨o1919, ho1919, ho1903⟩ := bnd ho1903
                refine C_cutQ (fun a w' => Fr 31 a [(3, (.slice (some ⟨b1666, 0, none⟩) 1 1)), (4, .pointer none), (12, v1686), (13, .int .i64 (x1688.length : Int)), (14, .int .i64 x1844), (22, undef), (23, undef)] ∧ Hp C w' ρ (Arr v1686 1 c1687 :: Arr (.slice (some ⟨b1666, 0, none⟩) 1 1) 1 ([.int .i64 0]) :: hs)) ?_ ?_
                · refine C_cond rfl (fun h => nomatch h) (fun _ => ?_)
                  refine C_skip ?_
                  replace H := H.front 1 rfl
                  dsimp only [List.eraseIdx] at H
                  replace H := H.front 1 rfl
                  dsimp only [List.eraseIdx] at H
                  obtain rfl := Option.some.inj ho1919
                  refine x_A fun a hf => ⟨hf.sub ⟨rfl, rfl, rfl, rfl, rfl, rfl, rfl, trivial⟩, H⟩
                · rintro a wd1920 ⟨hf, H⟩
                  try dsimp only at ho1903
                  refine XX.at hf <| x_block ?_
                  replace H := H.front 1 rfl
                  dsimp only [List.eraseIdx] at H
                  replace H := H.front 1 rfl
                  dsimp only [List.eraseIdx] at H
                  obtain rfl := Option.some.inj ho1903
                  refine x_A fun a hf => ⟨hf.sub ⟨rfl, rfl, rfl, rfl, rfl, rfl, rfl, trivial⟩, H⟩
            · rintro a wd1921 ⟨hf, H⟩
              try dsimp only at hB1883
              refine CW.at hf <| R_nd <| nq (Q_add rfl rfl) rfl rfl <| nq (Q_move rfl) rfl rfl <| WL_nil ?_
              replace H := H.front 1 rfl
              dsimp only [List.eraseIdx] at H
              replace H := H.front 1 rfl
              dsimp only [List.eraseIdx] at H
              obtain rfl := Option.some.inj hB1883
              refine x_A fun a hf => ⟨_, rfl, w64 (x1844 + 1), rfl, hf.sub ⟨rfl, rfl, rfl, rfl, rfl, trivial⟩, H⟩
          · replace hB1883 := itF hb hB1883
            refine C_exit <| x_then_exit <| x_then_exit <| x_block_exit ?_
            replace H := H.front 1 rfl
            dsimp only [List.eraseIdx] at H
            replace H := H.drop 1 rfl
            dsimp only [List.eraseIdx] at H
            obtain rfl := Option.some.inj hB1883
            obtain rfl := hO1884 _ rfl
            refine x_A fun a hf => ⟨hf.sub ⟨rfl, trivial⟩, H⟩
      · rintro a wd1922 ⟨hf, H⟩
        try dsimp only at hF
        refine XX.at hf <| x_then <| C_seq <| R_nd <| nq (Q_move rfl) rfl rfl <| nq (Q_assign rfl) rfl rfl <| WL_nil <| x_then <| C_ret ?_
        obtain rfl := Option.some.inj hF
        exact fn_ret (l := [.tmp 2]) (vs := [(.slice (some ⟨b1666, 0, none⟩) 1 1)]) rfl rfl rfl ⟨(.slice (some ⟨b1666, 0, none⟩) 1 1), [.int .i64 0], [0], rfl, rfl, (show rdL (eI .i64) ρ ([0]) ([.int .i64 0]) from ⟨([.int .i64 0]), _, rfl, rfl, rdL.nil⟩), H⟩
    · try dsimp only at hF
      replace H := H.front 1 rfl
      dsimp only [List.eraseIdx] at H
      replace H := H.front 1 rfl
      dsimp only [List.eraseIdx] at H
      obtain ⟨q1923, hq1923, hF⟩ := bnd hF
      refine ne (E_call fn64 rfl (c_64_1 H gl1 r1682 hq1923)) rfl rfl ?_
      rintro _ wd1929 ⟨v1925, c1926, x1927, rfl, rfl, r1928, H⟩
      try dsimp only at hF
      refine nq (Q_lenA (k := 2) H.ok rfl r1928 (by decide) Tryd.underlying23 rfl) rfl rfl <| nq (Q_move rfl) rfl rfl <| WL_nil <| x_then ?_
      obtain ⟨o2045, ho2045, hF⟩ := bnd hF
      refine C_cutQ (fun a w' => Fr 31 a [(3, (.slice (some ⟨b1666, 0, none⟩) 1 1))] ∧ Hp C w' ρ (Arr (.slice (some ⟨b1666, 0, none⟩) 1 1) 1 ([.int .i64 0]) :: hs)) ?_ ?_
      · refine C_block ?_
        replace H := H.front 3 rfl
        dsimp only [List.eraseIdx] at H
        replace H := H.front 3 rfl
        dsimp only [List.eraseIdx] at H
        replace H := H.drop 2 rfl
        dsimp only [List.eraseIdx] at H
        replace H := H.drop 2 rfl
        dsimp only [List.eraseIdx] at H
        replace H := H.drop 2 rfl
        dsimp only [List.eraseIdx] at H
        refine C_iter (f := fun s => F_trim_kept_l1 N x1927 s) ho2045 (fun s a w' => ∃ (x2083 : Int), x2083 = s ∧ Fr 31 a [(3, (.slice (some ⟨b1666, 0, none⟩) 1 1)), (4, .pointer none), (12, v1925), (13, .int .i64 (x1927.length : Int)), (14, .int .i64 x2083)] ∧ Hp C w' ρ (Arr v1925 1 c1926 :: Arr (.slice (some ⟨b1666, 0, none⟩) 1 1) 1 ([.int .i64 0]) :: hs)) ?_ ?_
        · exact fun a hf => ⟨0, rfl, hf.sub ⟨rfl, rfl, rfl, rfl, rfl, trivial⟩, H⟩
        · rintro s o2121 a wd2124 ⟨x2083, rfl, hf, H⟩ hB2122 hO2123
          replace hB2122 : F_trim_kept_l1 N x1927 x2083 = some o2121 := hB2122
          unfold F_trim_kept_l1 at hB2122
          refine CW.at hf <| C_seq <| R_nd <| nq (Q_lss rfl rfl) rfl rfl <| WL_nil <| x_then <| C_seq ?_
          refine C_cond rfl (fun hb => ?_) (fun hb => ?_)
          · replace hB2122 := itT hb hB2122
            refine C_skip <| x_then ?_
            obtain ⟨o2142, ho2142, hB2122⟩ := bnd hB2122
            refine C_cut (fun a w' => Fr 31 a [(3, (.slice (some ⟨b1666, 0, none⟩) 1 1)), (4, .pointer none), (12, v1925), (13, .int .i64 (x1927.length : Int)), (14, .int .i64 x2083), (22, undef), (23, undef)] ∧ Hp C w' ρ (Arr v1925 1 c1926 :: Arr (.slice (some ⟨b1666, 0, none⟩) 1 1) 1 ([.int .i64 0]) :: hs)) ?_ ?_
            · refine C_block <| C_seq <| R_nd ?_
              obtain ⟨x2143, hx2143, ho2142⟩ := bnd ho2142
              obtain ⟨b2144, o2145, hi2149, hc2147, ha2148⟩ := arr_at (hs := [Arr v1925 1 c1926]) (k := 0) (by decide) (H.okS (by simp)) rfl r1928 hx2143
              refine nq (Q_idx hi2149 Tryd.underlying23 ty3 rfl rfl) rfl rfl <| nq (v := .int .i64 x2143) (Q_ld (show cellsAt _ _ _ [.int .i64 x2143] from (show _ = [_] from hc2147) ▸ (ha2148 _ (Ok.subS (by simp) H.ok))) ty3 rfl (fun _ => rfl) rfl rfl) rfl rfl <| nq (Q_assign rfl) rfl rfl <| WL_nil <| x_then ?_
              obtain ⟨o2153, ho2153, ho2142⟩ := bnd ho2142
              refine C_cut (fun a w' => Fr 31 a [(3, (.slice (some ⟨b1666, 0, none⟩) 1 1)), (4, .pointer none), (6, .int .i64 x2143), (12, v1925), (13, .int .i64 (x1927.length : Int)), (14, .int .i64 x2083), (22, undef), (23, undef), (24, .bool false)] ∧ Hp C w' ρ (Arr v1925 1 c1926 :: Arr (.slice (some ⟨b1666, 0, none⟩) 1 1) 1 ([.int .i64 0]) :: hs)) ?_ ?_
              · refine R_nd <| nq (Q_move rfl) rfl rfl <| nq (Q_move rfl) rfl rfl ?_
                obtain ⟨q2154, hq2154, ho2153⟩ := bnd ho2153
                refine ne (E_call fn81 rfl (c_81 H   hq2154)) rfl rfl ?_
                rintro _ wd2156 ⟨rfl, rfl, H⟩
                try dsimp only at ho2153
                refine nq (Q_move rfl) rfl rfl <| gs rfl rfl rfl rfl <| gs rfl rfl rfl rfl <| nq (Q_pickF rfl rfl) rfl rfl <| WL_nil ?_
                replace H := H.front 1 rfl
                dsimp only [List.eraseIdx] at H
                replace H := H.front 1 rfl
                dsimp only [List.eraseIdx] at H
                obtain rfl := Option.some.inj ho2153
                refine x_A fun a hf => ⟨hf.sub ⟨rfl, rfl, rfl, rfl, rfl, rfl, rfl, rfl, rfl, trivial⟩, H⟩
              · rintro a wd2157 ⟨hf, H⟩
                try dsimp only at ho2142
                refine CW.at hf ?_
                obtain ⟨o2158, ho2158, ho2142⟩ := bnd ho2142
                refine C_cutQ (fun a w' => Fr 31 a [(3, (.slice (some ⟨b1666, 0, none⟩) 1 1)), (4, .pointer none), (12, v1925), (13, .int .i64 (x1927.length : Int)), (14, .int .i64 x2083), (22, undef), (23, undef)] ∧ Hp C w' ρ (Arr v1925 1 c1926 :: Arr (.slice (some ⟨b1666, 0, none⟩) 1 1) 1 ([.int .i64 0]) :: hs)) ?_ ?_
                · refine C_cond rfl (fun h => nomatch h) (fun _ => ?_)
                  refine C_skip ?_
                  replace H := H.front 1 rfl
                  dsimp only [List.eraseIdx] at H
                  replace H := H.front 1 rfl
                  dsimp only [List.eraseIdx] at H
                  obtain rfl := Option.some.inj ho2158
                  refine x_A fun a hf => ⟨hf.sub ⟨rfl, rfl, rfl, rfl, rfl, rfl, rfl, trivial⟩, H⟩
                · rintro a wd2159 ⟨hf, H⟩
                  try dsimp only at ho2142
                  refine XX.at hf <| x_block ?_
                  replace H := H.front 1 rfl
                  dsimp only [List.eraseIdx] at H
                  replace H := H.front 1 rfl
                  dsimp only [List.eraseIdx] at H
                  obtain rfl := Option.some.inj ho2142
                  refine x_A fun a hf => ⟨hf.sub ⟨rfl, rfl, rfl, rfl, rfl, rfl, rfl, trivial⟩, H⟩
            · rintro a wd2160 ⟨hf, H⟩
              try dsimp only at hB2122
              refine CW.at hf <| R_nd <| nq (Q_add rfl rfl) rfl rfl <| nq (Q_move rfl) rfl rfl <| WL_nil ?_
              replace H := H.front 1 rfl
              dsimp only [List.eraseIdx] at H
              replace H := H.front 1 rfl
              dsimp only [List.eraseIdx] at H
              obtain rfl := Option.some.inj hB2122
              refine x_A fun a hf => ⟨_, rfl, w64 (x2083 + 1), rfl, hf.sub ⟨rfl, rfl, rfl, rfl, rfl, trivial⟩, H⟩
          · replace hB2122 := itF hb hB2122
            refine C_exit <| x_then_exit <| x_then_exit <| x_block_exit ?_
            replace H := H.front 1 rfl
            dsimp only [List.eraseIdx] at H
            replace H := H.drop 1 rfl
            dsimp only [List.eraseIdx] at H
            obtain rfl := Option.some.inj hB2122
            obtain rfl := hO2123 _ rfl
            refine x_A fun a hf => ⟨hf.sub ⟨rfl, trivial⟩, H⟩
      · rintro a wd2161 ⟨hf, H⟩
        try dsimp only at hF
        refine XX.at hf <| x_then <| C_seq <| R_nd <| nq (Q_move rfl) rfl rfl <| nq (Q_assign rfl) rfl rfl <| WL_nil <| x_then <| C_ret ?_
        obtain rfl := Option.some.inj hF
        exact fn_ret (l := [.tmp 2]) (vs := [(.slice (some ⟨b1666, 0, none⟩) 1 1)]) rfl rfl rfl ⟨(.slice (some ⟨b1666, 0, none⟩) 1 1), [.int .i64 0], [0], rfl, rfl, (show rdL (eI .i64) ρ ([0]) ([.int .i64 0]) from ⟨([.int .i64 0]), _, rfl, rfl, rdL.nil⟩), H⟩
  · try dsimp only at hF
    refine nq (Q_assign rfl) rfl rfl <| WL_nil <| x_then <| C_seq <| C_seq <| R_nd <| nq (v := .agg #[v1, v4, v7]) (Q_ldB (k := 3) (cs := [v1, v4, v7]) H.ok rfl ty25 rfl rfl rfl (fun h => nomatch h) rfl) rfl rfl ?_
    obtain ⟨q2162, hq2162, hF⟩ := bnd hF
    refine ne (E_call fn65 rfl (c_65 H gl0 r3 r6 r9 hq2162)) rfl rfl ?_
    rintro _ wd2169 (⟨rfl, rfl, H⟩ | ⟨b2164, v2165, c2166, x2167, rfl, rfl, r2168, H⟩)
    · try dsimp only at hF
      obtain ⟨q2170, hq2170, hF⟩ := bnd hF
      refine ne (E_call fn64 rfl (c_64 H   hq2170)) rfl rfl ?_
      rintro _ wd2176 ⟨v2172, c2173, x2174, rfl, rfl, r2175, H⟩
      try dsimp only at hF
      refine nq (Q_lenA (k := 0) H.ok rfl r2175 (by decide) Tryd.underlying23 rfl) rfl rfl <| nq (Q_move rfl) rfl rfl <| WL_nil <| x_then ?_
      obtain ⟨o2458, ho2458, hF⟩ := bnd hF
      refine C_cutQ (fun a w' => ∃ (v2454 : Value) (c2455 : (List Value)) (x2456 : (List Int)), x2456 = o2458 ∧ rdL (eI .i64) ρ x2456 c2455 ∧ Fr 31 a [(3, v2454)] ∧ Hp C w' ρ (Arr v2454 1 c2455 :: hs)) ?_ ?_
      · refine C_block ?_
        replace H := H.front 2 rfl
        dsimp only [List.eraseIdx] at H
        replace H := H.front 2 rfl
        dsimp only [List.eraseIdx] at H
        replace H := H.front 3 rfl
        dsimp only [List.eraseIdx] at H
        replace H := H.front 3 rfl
        dsimp only [List.eraseIdx] at H
        replace H := H.drop 4 rfl
        dsimp only [List.eraseIdx] at H
        refine C_iter (f := fun s => F_trim_kept_l2 N x2 x1673 x2174 s.1 s.2) ho2458 (fun s a w' => ∃ (v2551 : Value) (c2552 : (List Value)) (x2550 : Int) (x2553 : (List Int)), (x2550, x2553) = s ∧ rdL (eI .i64) ρ x2553 c2552 ∧ Fr 31 a [(3, v2551), (4, .pointer (some ⟨b1670, 0, none⟩)), (12, v2172), (13, .int .i64 (x2174.length : Int)), (14, .int .i64 x2550)] ∧ Hp C w' ρ (Arr v2172 1 c2173 :: Arr v2551 1 c2552 :: Box b1670 [v1671, .int .i64 (x2.length : Int)] :: Arr v1671 1 c1672 :: hs)) ?_ ?_
        · exact fun a hf => ⟨(.slice (some ⟨b1666, 0, none⟩) 1 1), [.int .i64 0], 0, [0], rfl, (show rdL (eI .i64) ρ ([0]) ([.int .i64 0]) from ⟨([.int .i64 0]), _, rfl, rfl, rdL.nil⟩), hf.sub ⟨rfl, rfl, rfl, rfl, rfl, trivial⟩, H⟩
        · rintro s o2646 a wd2649 ⟨v2551, c2552, x2550, x2553, rfl, r2554, hf, H⟩ hB2647 hO2648
          replace hB2647 : F_trim_kept_l2 N x2 x1673 x2174 x2550 x2553 = some o2646 := hB2647
          unfold F_trim_kept_l2 at hB2647
          refine CW.at hf <| C_seq <| R_nd <| nq (Q_lss rfl rfl) rfl rfl <| WL_nil <| x_then <| C_seq ?_
          refine C_cond rfl (fun hb => ?_) (fun hb => ?_)
          · replace hB2647 := itT hb hB2647
            refine C_skip <| x_then ?_
            obtain ⟨o2694, ho2694, hB2647⟩ := bnd hB2647
            refine C_cut (fun a w' => ∃ (v2690 : Value) (c2691 : (List Value)) (x2692 : (List Int)), x2692 = o2694 ∧ rdL (eI .i64) ρ x2692 c2691 ∧ Fr 31 a [(3, v2690), (4, .pointer (some ⟨b1670, 0, none⟩)), (12, v2172), (13, .int .i64 (x2174.length : Int)), (14, .int .i64 x2550)] ∧ Hp C w' ρ (Arr v2172 1 c2173 :: Arr v2690 1 c2691 :: Box b1670 [v1671, .int .i64 (x2.length : Int)] :: Arr v1671 1 c1672 :: hs)) ?_ ?_
            · refine C_block <| C_seq <| R_nd ?_
              obtain ⟨x2695, hx2695, ho2694⟩ := bnd ho2694
              obtain ⟨b2696, o2697, hi2701, hc2699, ha2700⟩ := arr_at (hs := [Arr v2172 1 c2173]) (k := 0) (by decide) (H.okS (by simp)) rfl r2175 hx2695
              refine nq (Q_idx hi2701 Tryd.underlying23 ty3 rfl rfl) rfl rfl <| nq (v := .int .i64 x2695) (Q_ld (show cellsAt _ _ _ [.int .i64 x2695] from (show _ = [_] from hc2699) ▸ (ha2700 _ (Ok.subS (by simp) H.ok))) ty3 rfl (fun _ => rfl) rfl rfl) rfl rfl <| nq (Q_assign rfl) rfl rfl <| WL_nil <| x_then ?_
              obtain ⟨o2707, ho2707, ho2694⟩ := bnd ho2694
              refine C_cut (fun a w' => ∃ (x2706 : Bool), x2706 = o2707 ∧ Fr 31 a [(3, v2551), (4, .pointer (some ⟨b1670, 0, none⟩)), (6, .int .i64 x2695), (12, v2172), (13, .int .i64 (x2174.length : Int)), (14, .int .i64 x2550), (24, .bool x2706)] ∧ Hp C w' ρ (Arr v2172 1 c2173 :: Arr v2551 1 c2552 :: Box b1670 [v1671, .int .i64 (x2.length : Int)] :: Arr v1671 1 c1672 :: hs)) ?_ ?_
              · refine R_nd <| nq (Q_move rfl) rfl rfl <| nq (Q_move rfl) rfl rfl ?_
                replace H := H.front 3 rfl
                dsimp only [List.eraseIdx] at H
                replace H := H.front 3 rfl
                dsimp only [List.eraseIdx] at H
                obtain ⟨q2708, hq2708, ho2707⟩ := bnd ho2707
                refine ne (E_call fn81 rfl (c_81_1 H  r1674 hq2708)) rfl rfl ?_
                rintro _ wd2711 ⟨x2710, rfl, rfl, H⟩
                try dsimp only at ho2707
                refine nq (Q_move rfl) rfl rfl ?_
                rcases Bool.eq_false_or_eq_true x2710 with hb | hb
                · rw [hb]
                  replace ho2707 := itT hb ho2707
                  refine gq (Q_move rfl) rfl rfl rfl <| gq (Q_gtr rfl rfl) rfl rfl rfl <| nq (Q_pickT rfl rfl) rfl rfl <| WL_nil ?_
                  replace H := H.front 1 rfl
                  dsimp only [List.eraseIdx] at H
                  replace H := H.front 1 rfl
                  dsimp only [List.eraseIdx] at H
                  replace H := H.front 3 rfl
                  dsimp only [List.eraseIdx] at H
                  replace H := H.front 3 rfl
                  dsimp only [List.eraseIdx] at H
                  obtain rfl := Option.some.inj ho2707
                  refine x_A fun a hf => ⟨decide (x2695 > 0), rfl, hf.sub ⟨rfl, rfl, rfl, rfl, rfl, rfl, rfl, trivial⟩, H⟩
                · rw [hb]
                  replace ho2707 := itF hb ho2707
                  refine gs rfl rfl rfl rfl <| gs rfl rfl rfl rfl <| nq (Q_pickF rfl rfl) rfl rfl <| WL_nil ?_
                  replace H := H.front 1 rfl
                  dsimp only [List.eraseIdx] at H
                  replace H := H.front 1 rfl
                  dsimp only [List.eraseIdx] at H
                  replace H := H.front 3 rfl
                  dsimp only [List.eraseIdx] at H
                  replace H := H.front 3 rfl
                  dsimp only [List.eraseIdx] at H
                  obtain rfl := Option.some.inj ho2707
                  refine x_A fun a hf => ⟨false, rfl, hf.sub ⟨rfl, rfl, rfl, rfl, rfl, rfl, rfl, trivial⟩, H⟩
              · rintro a wd2712 ⟨x2706, rfl, hf, H⟩
                try dsimp only at ho2694
                refine CW.at hf ?_
                obtain ⟨o2725, ho2725, ho2694⟩ := bnd ho2694
                refine C_cutQ (fun a w' => ∃ (v2721 : Value) (c2722 : (List Value)) (x2723 : (List Int)), x2723 = o2725 ∧ rdL (eI .i64) ρ x2723 c2722 ∧ Fr 31 a [(3, v2721), (4, .pointer (some ⟨b1670, 0, none⟩)), (12, v2172), (13, .int .i64 (x2174.length : Int)), (14, .int .i64 x2550)] ∧ Hp C w' ρ (Arr v2172 1 c2173 :: Arr v2721 1 c2722 :: Box b1670 [v1671, .int .i64 (x2.length : Int)] :: Arr v1671 1 c1672 :: hs)) ?_ ?_
                · refine C_cond rfl (fun hb => ?_) (fun hb => ?_)
                  · replace ho2725 := itT hb ho2725
                    refine R_nd <| nq (Q_move rfl) rfl rfl <| nq (Q_move rfl) rfl rfl <| ne (E_bslice (xs := [.tmp 26]) (vs := [.int .i64 x2695]) H Tryd.underlying23 ty3 (by decide) (cs := [.int .i64 x2695]) rfl (sz_cons rfl sz_nil) rfl (by simp) (by simp) rfl rfl) rfl rfl ?_
                    rintro _ wd2727 ⟨b2726, rfl, H⟩
                    obtain ⟨x2728, hx2728, ho2725⟩ := bnd ho2725
                    obtain ⟨ha2729a, ha2729b⟩ := app_some hx2728
                    have r2731 : rdL (eI .i64) ρ x2728 (c2552 ++ ([.int .i64 x2695])) := ha2729b ▸ rdL.app r2554 (show rdL (eI .i64) ρ ([x2695]) ([.int .i64 x2695]) from ⟨([.int .i64 x2695]), _, rfl, rfl, rdL.nil⟩)
                    refine ne (E_append (k := 2) H rfl Tryd.underlying23 ty3 rfl (by decide) (by decide) rfl rfl (Src.ofArr (k := 0) H.ok rfl) (rdL.one (show rdL (eI .i64) ρ ([x2695]) ([.int .i64 x2695]) from ⟨([.int .i64 x2695]), _, rfl, rfl, rdL.nil⟩)) (app_fit r2554 (show rdL (eI .i64) ρ ([x2695]) ([.int .i64 x2695]) from ⟨([.int .i64 x2695]), _, rfl, rfl, rdL.nil⟩) ha2729a)) rfl rfl ?_
                    rintro v2730 wd2733 ⟨H, hc2732⟩
                    dsimp only [List.set] at H
                    refine nq (Q_assign rfl) rfl rfl <| WL_nil ?_
                    replace H := H.front 4 rfl
                    dsimp only [List.eraseIdx] at H
                    replace H := H.front 4 rfl
                    dsimp only [List.eraseIdx] at H
                    replace H := H.front 4 rfl
                    dsimp only [List.eraseIdx] at H
                    replace H := H.front 4 rfl
                    dsimp only [List.eraseIdx] at H
                    replace H := H.drop 4 rfl
                    dsimp only [List.eraseIdx] at H
                    obtain rfl := Option.some.inj ho2725
                    refine x_A fun a hf => ⟨v2730, (c2552 ++ ([.int .i64 x2695])), x2728, rfl, r2731, hf.sub ⟨rfl, rfl, rfl, rfl, rfl, trivial⟩, H⟩
                  · replace ho2725 := itF hb ho2725
                    refine C_skip ?_
                    replace H := H.front 3 rfl
                    dsimp only [List.eraseIdx] at H
                    replace H := H.front 3 rfl
                    dsimp only [List.eraseIdx] at H
                    replace H := H.front 3 rfl
                    dsimp only [List.eraseIdx] at H
                    replace H := H.front 3 rfl
                    dsimp only [List.eraseIdx] at H
                    obtain rfl := Option.some.inj ho2725
                    refine x_A fun a hf => ⟨v2551, c2552, x2553, rfl, r2554, hf.sub ⟨rfl, rfl, rfl, rfl, rfl, trivial⟩, H⟩
                · rintro a wd2734 ⟨v2721, c2722, x2723, rfl, r2724, hf, H⟩
                  try dsimp only at ho2694
                  refine XX.at hf <| x_block ?_
                  replace H := H.front 3 rfl
                  dsimp only [List.eraseIdx] at H
                  replace H := H.front 3 rfl
                  dsimp only [List.eraseIdx] at H
                  replace H := H.front 3 rfl
                  dsimp only [List.eraseIdx] at H
                  replace H := H.front 3 rfl
                  dsimp only [List.eraseIdx] at H
                  obtain rfl := Option.some.inj ho2694
                  refine x_A fun a hf => ⟨v2721, c2722, x2723, rfl, r2724, hf.sub ⟨rfl, rfl, rfl, rfl, rfl, trivial⟩, H⟩
            · rintro a wd2735 ⟨v2690, c2691, x2692, rfl, r2693, hf, H⟩
              try dsimp only at hB2647
              refine CW.at hf <| R_nd <| nq (Q_add rfl rfl) rfl rfl <| nq (Q_move rfl) rfl rfl <| WL_nil ?_
              replace H := H.front 3 rfl
              dsimp only [List.eraseIdx] at H
              replace H := H.front 3 rfl
              dsimp only [List.eraseIdx] at H
              replace H := H.front 3 rfl
              dsimp only [List.eraseIdx] at H
              replace H := H.front 3 rfl
              dsimp only [List.eraseIdx] at H
              obtain rfl := Option.some.inj hB2647
              refine x_A fun a hf => ⟨_, rfl, v2690, c2691, w64 (x2550 + 1), x2692, rfl, r2693, hf.sub ⟨rfl, rfl, rfl, rfl, rfl, trivial⟩, H⟩
          · replace hB2647 := itF hb hB2647
            refine C_exit <| x_then_exit <| x_then_exit <| x_block_exit ?_
            replace H := H.front 1 rfl
            dsimp only [List.eraseIdx] at H
            replace H := H.drop 1 rfl
            dsimp only [List.eraseIdx] at H
            replace H := H.drop 1 rfl
            dsimp only [List.eraseIdx] at H
            replace H := H.drop 1 rfl
            dsimp only [List.eraseIdx] at H
            obtain rfl := Option.some.inj hB2647
            obtain rfl := hO2648 _ rfl
            refine x_A fun a hf => ⟨v2551, c2552, x2553, rfl, r2554, hf.sub ⟨rfl, trivial⟩, H⟩
      · rintro a wd2736 ⟨v2454, c2455, x2456, rfl, r2457, hf, H⟩
        try dsimp only at hF
        refine XX.at hf <| x_then <| C_seq <| R_nd <| nq (Q_move rfl) rfl rfl <| nq (Q_assign rfl) rfl rfl <| WL_nil <| x_then <| C_ret ?_
        obtain rfl := Option.some.inj hF
        exact fn_ret (l := [.tmp 2]) (vs := [v2454]) rfl rfl rfl ⟨v2454, c2455, x2456, rfl, rfl, r2457, H⟩
    · try dsimp only at hF
      replace H := H.front 1 rfl
      dsimp only [List.eraseIdx] at H
      replace H := H.front 1 rfl
      dsimp only [List.eraseIdx] at H
      obtain ⟨q2737, hq2737, hF⟩ := bnd hF
      refine ne (E_call fn64 rfl (c_64_1 H gl1 r2168 hq2737)) rfl rfl ?_
      rintro _ wd2743 ⟨v2739, c2740, x2741, rfl, rfl, r2742, H⟩
      try dsimp only at hF
      refine nq (Q_lenA (k := 2) H.ok rfl r2742 (by decide) Tryd.underlying23 rfl) rfl rfl <| nq (Q_move rfl) rfl rfl <| WL_nil <| x_then ?_
      obtain ⟨o3025, ho3025, hF⟩ := bnd hF
      refine C_cutQ (fun a w' => ∃ (v3021 : Value) (c3022 : (List Value)) (x3023 : (List Int)), x3023 = o3025 ∧ rdL (eI .i64) ρ x3023 c3022 ∧ Fr 31 a [(3, v3021)] ∧ Hp C w' ρ (Arr v3021 1 c3022 :: hs)) ?_ ?_
      · refine C_block ?_
        replace H := H.front 4 rfl
        dsimp only [List.eraseIdx] at H
        replace H := H.front 4 rfl
        dsimp only [List.eraseIdx] at H
        replace H := H.front 5 rfl
        dsimp only [List.eraseIdx] at H
        replace H := H.front 5 rfl
        dsimp only [List.eraseIdx] at H
        replace H := H.drop 4 rfl
        dsimp only [List.eraseIdx] at H
        replace H := H.drop 4 rfl
        dsimp only [List.eraseIdx] at H
        replace H := H.drop 4 rfl
        dsimp only [List.eraseIdx] at H
        refine C_iter (f := fun s => F_trim_kept_l3 N x2 x1673 x2741 s.1 s.2) ho3025 (fun s a w' => ∃ (v3118 : Value) (c3119 : (List Value)) (x3117 : Int) (x3120 : (List Int)), (x3117, x3120) = s ∧ rdL (eI .i64) ρ x3120 c3119 ∧ Fr 31 a [(3, v3118), (4, .pointer (some ⟨b1670, 0, none⟩)), (12, v2739), (13, .int .i64 (x2741.length : Int)), (14, .int .i64 x3117)] ∧ Hp C w' ρ (Arr v2739 1 c2740 :: Arr v3118 1 c3119 :: Box b1670 [v1671, .int .i64 (x2.length : Int)] :: Arr v1671 1 c1672 :: hs)) ?_ ?_
        · exact fun a hf => ⟨(.slice (some ⟨b1666, 0, none⟩) 1 1), [.int .i64 0], 0, [0], rfl, (show rdL (eI .i64) ρ ([0]) ([.int .i64 0]) from ⟨([.int .i64 0]), _, rfl, rfl, rdL.nil⟩), hf.sub ⟨rfl, rfl, rfl, rfl, rfl, trivial⟩, H⟩
        · rintro s o3213 a wd3216 ⟨v3118, c3119, x3117, x3120, rfl, r3121, hf, H⟩ hB3214 hO3215
          replace hB3214 : F_trim_kept_l3 N x2 x1673 x2741 x3117 x3120 = some o3213 := hB3214
          unfold F_trim_kept_l3 at hB3214
          refine CW.at hf <| C_seq <| R_nd <| nq (Q_lss rfl rfl) rfl rfl <| WL_nil <| x_then <| C_seq ?_
          refine C_cond rfl (fun hb => ?_) (fun hb => ?_)
          · replace hB3214 := itT hb hB3214
            refine C_skip <| x_then ?_
            obtain ⟨o3261, ho3261, hB3214⟩ := bnd hB3214
            refine C_cut (fun a w' => ∃ (v3257 : Value) (c3258 : (List Value)) (x3259 : (List Int)), x3259 = o3261 ∧ rdL (eI .i64) ρ x3259 c3258 ∧ Fr 31 a [(3, v3257), (4, .pointer (some ⟨b1670, 0, none⟩)), (12, v2739), (13, .int .i64 (x2741.length : Int)), (14, .int .i64 x3117)] ∧ Hp C w' ρ (Arr v2739 1 c2740 :: Arr v3257 1 c3258 :: Box b1670 [v1671, .int .i64 (x2.length : Int)] :: Arr v1671 1 c1672 :: hs)) ?_ ?_
            · refine C_block <| C_seq <| R_nd ?_
              obtain ⟨x3262, hx3262, ho3261⟩ := bnd ho3261
              obtain ⟨b3263, o3264, hi3268, hc3266, ha3267⟩ := arr_at (hs := [Arr v2739 1 c2740]) (k := 0) (by decide) (H.okS (by simp)) rfl r2742 hx3262
              refine nq (Q_idx hi3268 Tryd.underlying23 ty3 rfl rfl) rfl rfl <| nq (v := .int .i64 x3262) (Q_ld (show cellsAt _ _ _ [.int .i64 x3262] from (show _ = [_] from hc3266) ▸ (ha3267 _ (Ok.subS (by simp) H.ok))) ty3 rfl (fun _ => rfl) rfl rfl) rfl rfl <| nq (Q_assign rfl) rfl rfl <| WL_nil <| x_then ?_
              obtain ⟨o3274, ho3274, ho3261⟩ := bnd ho3261
              refine C_cut (fun a w' => ∃ (x3273 : Bool), x3273 = o3274 ∧ Fr 31 a [(3, v3118), (4, .pointer (some ⟨b1670, 0, none⟩)), (6, .int .i64 x3262), (12, v2739), (13, .int .i64 (x2741.length : Int)), (14, .int .i64 x3117), (24, .bool x3273)] ∧ Hp C w' ρ (Arr v2739 1 c2740 :: Arr v3118 1 c3119 :: Box b1670 [v1671, .int .i64 (x2.length : Int)] :: Arr v1671 1 c1672 :: hs)) ?_ ?_
              · refine R_nd <| nq (Q_move rfl) rfl rfl <| nq (Q_move rfl) rfl rfl ?_
                replace H := H.front 3 rfl
                dsimp only [List.eraseIdx] at H
                replace H := H.front 3 rfl
                dsimp only [List.eraseIdx] at H
                obtain ⟨q3275, hq3275, ho3274⟩ := bnd ho3274
                refine ne (E_call fn81 rfl (c_81_1 H  r1674 hq3275)) rfl rfl ?_
                rintro _ wd3278 ⟨x3277, rfl, rfl, H⟩
                try dsimp only at ho3274
                refine nq (Q_move rfl) rfl rfl ?_
                rcases Bool.eq_false_or_eq_true x3277 with hb | hb
                · rw [hb]
                  replace ho3274 := itT hb ho3274
                  refine gq (Q_move rfl) rfl rfl rfl <| gq (Q_gtr rfl rfl) rfl rfl rfl <| nq (Q_pickT rfl rfl) rfl rfl <| WL_nil ?_
                  replace H := H.front 1 rfl
                  dsimp only [List.eraseIdx] at H
                  replace H := H.front 1 rfl
                  dsimp only [List.eraseIdx] at H
                  replace H := H.front 3 rfl
                  dsimp only [List.eraseIdx] at H
                  replace H := H.front 3 rfl
                  dsimp only [List.eraseIdx] at H
                  obtain rfl := Option.some.inj ho3274
                  refine x_A fun a hf => ⟨decide (x3262 > 0), rfl, hf.sub ⟨rfl, rfl, rfl, rfl, rfl, rfl, rfl, trivial⟩, H⟩
                · rw [hb]
                  replace ho3274 := itF hb ho3274
                  refine gs rfl rfl rfl rfl <| gs rfl rfl rfl rfl <| nq (Q_pickF rfl rfl) rfl rfl <| WL_nil ?_
                  replace H := H.front 1 rfl
                  dsimp only [List.eraseIdx] at H
                  replace H := H.front 1 rfl
                  dsimp only [List.eraseIdx] at H
                  replace H := H.front 3 rfl
                  dsimp only [List.eraseIdx] at H
                  replace H := H.front 3 rfl
                  dsimp only [List.eraseIdx] at H
                  obtain rfl := Option.some.inj ho3274
                  refine x_A fun a hf => ⟨false, rfl, hf.sub ⟨rfl, rfl, rfl, rfl, rfl, rfl, rfl, trivial⟩, H⟩
              · rintro a wd3279 ⟨x3273, rfl, hf, H⟩
                try dsimp only at ho3261
                refine CW.at hf ?_
                obtain ⟨o3292, ho3292, ho3261⟩ := bnd ho3261
                refine C_cutQ (fun a w' => ∃ (v3288 : Value) (c3289 : (List Value)) (x3290 : (List Int)), x3290 = o3292 ∧ rdL (eI .i64) ρ x3290 c3289 ∧ Fr 31 a [(3, v3288), (4, .pointer (some ⟨b1670, 0, none⟩)), (12, v2739), (13, .int .i64 (x2741.length : Int)), (14, .int .i64 x3117)] ∧ Hp C w' ρ (Arr v2739 1 c2740 :: Arr v3288 1 c3289 :: Box b1670 [v1671, .int .i64 (x2.length : Int)] :: Arr v1671 1 c1672 :: hs)) ?_ ?_
                · refine C_cond rfl (fun hb => ?_) (fun hb => ?_)
                  · replace ho3292 := itT hb ho3292
                    refine R_nd <| nq (Q_move rfl) rfl rfl <| nq (Q_move rfl) rfl rfl <| ne (E_bslice (xs := [.tmp 26]) (vs := [.int .i64 x3262]) H Tryd.underlying23 ty3 (by decide) (cs := [.int .i64 x3262]) rfl (sz_cons rfl sz_nil) rfl (by simp) (by simp) rfl rfl) rfl rfl ?_
                    rintro _ wd3294 ⟨b3293, rfl, H⟩
                    obtain ⟨x3295, hx3295, ho3292⟩ := bnd ho3292
                    obtain ⟨ha3296a, ha3296b⟩ := app_some hx3295
                    have r3298 : rdL (eI .i64) ρ x3295 (c3119 ++ ([.int .i64 x3262])) := ha3296b ▸ rdL.app r3121 (show rdL (eI .i64) ρ ([x3262]) ([.int .i64 x3262]) from ⟨([.int .i64 x3262]), _, rfl, rfl, rdL.nil⟩)
                    refine ne (E_append (k := 2) H rfl Tryd.underlying23 ty3 rfl (by decide) (by decide) rfl rfl (Src.ofArr (k := 0) H.ok rfl) (rdL.one (show rdL (eI .i64) ρ ([x3262]) ([.int .i64 x3262]) from ⟨([.int .i64 x3262]), _, rfl, rfl, rdL.nil⟩)) (app_fit r3121 (show rdL (eI .i64) ρ ([x3262]) ([.int .i64 x3262]) from ⟨([.int .i64 x3262]), _, rfl, rfl, rdL.nil⟩) ha3296a)) rfl rfl ?_
                    rintro v3297 wd3300 ⟨H, hc3299⟩
                    dsimp only [List.set] at H
                    refine nq (Q_assign rfl) rfl rfl <| WL_nil ?_
                    replace H := H.front 4 rfl
                    dsimp only [List.eraseIdx] at H
                    replace H := H.front 4 rfl
                    dsimp only [List.eraseIdx] at H
                    replace H := H.front 4 rfl
                    dsimp only [List.eraseIdx] at H
                    replace H := H.front 4 rfl
                    dsimp only [List.eraseIdx] at H
                    replace H := H.drop 4 rfl
                    dsimp only [List.eraseIdx] at H
                    obtain rfl := Option.some.inj ho3292
                    refine x_A fun a hf => ⟨v3297, (c3119 ++ ([.int .i64 x3262])), x3295, rfl, r3298, hf.sub ⟨rfl, rfl, rfl, rfl, rfl, trivial⟩, H⟩
                  · replace ho3292 := itF hb ho3292
                    refine C_skip ?_
                    replace H := H.front 3 rfl
                    dsimp only [List.eraseIdx] at H
                    replace H := H.front 3 rfl
                    dsimp only [List.eraseIdx] at H
                    replace H := H.front 3 rfl
                    dsimp only [List.eraseIdx] at H
                    replace H := H.front 3 rfl
                    dsimp only [List.eraseIdx] at H
                    obtain rfl := Option.some.inj ho3292
                    refine x_A fun a hf => ⟨v3118, c3119, x3120, rfl, r3121, hf.sub ⟨rfl, rfl, rfl, rfl, rfl, trivial⟩, H⟩
                · rintro a wd3301 ⟨v3288, c3289, x3290, rfl, r3291, hf, H⟩
                  try dsimp only at ho3261
                  refine XX.at hf <| x_block ?_
                  replace H := H.front 3 rfl
                  dsimp only [List.eraseIdx] at H
                  replace H := H.front 3 rfl
                  dsimp only [List.eraseIdx] at H
                  replace H := H.front 3 rfl
                  dsimp only [List.eraseIdx] at H
                  replace H := H.front 3 rfl
                  dsimp only [List.eraseIdx] at H
                  obtain rfl := Option.some.inj ho3261
                  refine x_A fun a hf => ⟨v3288, c3289, x3290, rfl, r3291, hf.sub ⟨rfl, rfl, rfl, rfl, rfl, trivial⟩, H⟩
            · rintro a wd3302 ⟨v3257, c3258, x3259, rfl, r3260, hf, H⟩
              try dsimp only at hB3214
              refine CW.at hf <| R_nd <| nq (Q_add rfl rfl) rfl rfl <| nq (Q_move rfl) rfl rfl <| WL_nil ?_
              replace H := H.front 3 rfl
              dsimp only [List.eraseIdx] at H
              replace H := H.front 3 rfl
              dsimp only [List.eraseIdx] at H
              replace H := H.front 3 rfl
              dsimp only [List.eraseIdx] at H
              replace H := H.front 3 rfl
              dsimp only [List.eraseIdx] at H
              obtain rfl := Option.some.inj hB3214
              refine x_A fun a hf => ⟨_, rfl, v3257, c3258, w64 (x3117 + 1), x3259, rfl, r3260, hf.sub ⟨rfl, rfl, rfl, rfl, rfl, trivial⟩, H⟩
          · replace hB3214 := itF hb hB3214
            refine C_exit <| x_then_exit <| x_then_exit <| x_block_exit ?_
            replace H := H.front 1 rfl
            dsimp only [List.eraseIdx] at H
            replace H := H.drop 1 rfl
            dsimp only [List.eraseIdx] at H
            replace H := H.drop 1 rfl
            dsimp only [List.eraseIdx] at H
            replace H := H.drop 1 rfl
            dsimp only [List.eraseIdx] at H
            obtain rfl := Option.some.inj hB3214
            obtain rfl := hO3215 _ rfl
            refine x_A fun a hf => ⟨v3118, c3119, x3120, rfl, r3121, hf.sub ⟨rfl, trivial⟩, H⟩
      · rintro a wd3303 ⟨v3021, c3022, x3023, rfl, r3024, hf, H⟩
        try dsimp only at hF
        refine XX.at hf <| x_then <| C_seq <| R_nd <| nq (Q_move rfl) rfl rfl <| nq (Q_assign rfl) rfl rfl <| WL_nil <| x_then <| C_ret ?_
        obtain rfl := Option.some.inj hF
        exact fn_ret (l := [.tmp 2]) (vs := [v3021]) rfl rfl rfl ⟨v3021, c3022, x3023, rfl, rfl, r3024, H⟩
theorem c_32 {N : Nat} {C : Cx} {w : World} {ρ : View} {hs : List Hl} {v1 : Value} {v4 : Value} {v7 : Value} {x2 : (List (List Int))} {x5 : (List Int)} {x8 : (List Int)} (H : Hp C w ρ (hs)) {ge0 : Value} (gl0 : GErr ρ 0 ge0) (gl1 : GTab ρ 1 .u8 tab_math_bits_deBruijn64tab) (r3 : RdSl ρ (eA 256 (eI .i64)) v1 x2) (r6 : RdSl ρ (eI .i64) v4 x5) (r9 : RdSl ρ (eI .i64) v7 x8) {r : Bool} (hF : F_trim_IsTrim N x2 x5 x8 = some r) :
    Calls Tryd.prog 32 [.agg #[v1, v4, v7]].toArray w (Rets (fun v w' => (∃ (x37 : Bool), x37 = r ∧ .bool x37 = v ∧ Hp C w' ρ (hs)))) := by
  unfold F_trim_IsTrim at hF
  have h0 : Tryd.f32.body = some _ := rfl
  refine fn_calls' Tryd.func32 h0 (n := 14) rfl (by simp) <| C_seq <| R_nd <| ne (E_box H (vs := [v1, v4, v7]) rfl rfl) rfl rfl ?_
  rintro _ wd39 ⟨b38, rfl, H⟩
  refine nq (Q_assign rfl) rfl rfl <| WL_nil <| x_then ?_
  obtain ⟨o52, ho52, hF⟩ := bnd hF
  refine C_cut (fun a w' => ∃ (x51 : Bool), x51 = o52 ∧ Fr 14 a [(2, .bool x51)] ∧ Hp C w' ρ (hs)) ?_ ?_
  · refine R_dr (.take 0 (.one 1 (.take 2 (.take 3 (.take 6 (.take 7 (.take 8 (.one 4 (.one 5 (.take 9 (.take 10 (.take 11 .done)))))))))))) (fun w' => Ok w' ρ [Box b38 [v1, v4, v7]]) (by kernel_rfl) (by kernel_rfl) (by kernel_rfl) (H.drew.okS (by simp)) ?_
    replace H := H.drew
    refine dq (v := .agg #[v1, v4, v7]) rfl (fun _ hw => Q_ldB (k := 0) (cs := [v1, v4, v7]) hw rfl ty25 rfl rfl rfl (fun h => nomatch h) rfl) rfl rfl ?_
    obtain ⟨q53, hq53, ho52⟩ := bnd ho52
    refine d1 (de rfl (E_call fn26 rfl (c_26 H  r3 r6 r9 hq53)) rfl rfl ?_)
    rintro _ wd56 ⟨x55, rfl, rfl, H⟩
    try dsimp only at ho52
    refine ⟨H.okS (by simp), ?_⟩
    refine dq rfl (fun _ _ => Q_move rfl) rfl rfl ?_
    rcases Bool.eq_false_or_eq_true x55 with hb | hb
    · rw [hb]
      replace ho52 := itT hb ho52
      refine dgq (v := .agg #[v1, v4, v7]) rfl (fun _ hw => Q_ldB (k := 0) (cs := [v1, v4, v7]) hw rfl ty25 rfl rfl rfl (fun h => nomatch h) rfl) rfl rfl rfl <| dgq (v := .pointer (some ⟨b38, 0, none⟩)) rfl (fun _ _ => Q_fld Tryd.underlying25 rfl ty22 (by decide) rfl rfl) rfl rfl rfl <| dgq (v := v1) rfl (fun _ hw => Q_ldB (k := 0) (cs := [v1]) hw rfl ty22 rfl rfl rfl (fun _ => rfl) rfl) rfl rfl rfl <| dgq rfl (fun _ _ => Q_len Tryd.underlying22 rfl r3) rfl rfl rfl ?_
      obtain ⟨q57, hq57, ho52⟩ := bnd ho52
      refine d1 (dge rfl (E_call fn62 rfl (c_62 H gl0 gl1 r3 r6 r9 hq57)) rfl rfl rfl ?_)
      rintro _ wd63 ⟨v59, c60, x61, rfl, rfl, r62, H⟩
      try dsimp only at ho52
      refine ⟨H.okS (by simp), ?_⟩
      refine d1 (dge rfl (Eff.quiet (v := .int .i64 (x61.length : Int)) (Q_lenA (k := 0) H.ok rfl r62 (by decide) Tryd.underlying23 rfl)) rfl rfl rfl ?_)
      rintro _ _ ⟨rfl, rfl⟩
      refine ⟨H.okS (by simp), ?_⟩
      refine dgq rfl (fun _ _ => Q_eql rfl rfl) rfl rfl rfl <| dq rfl (fun _ _ => Q_pickT rfl rfl) rfl rfl <| dq rfl (fun _ _ => Q_assign rfl) rfl rfl <| DL_nil ?_
      replace H := H.drop 0 rfl
      dsimp only [List.eraseIdx] at H
      replace H := H.drop 0 rfl
      dsimp only [List.eraseIdx] at H
      obtain rfl := Option.some.inj ho52
      refine x_A fun a hf => ⟨(x61.length : Int) == (x2.length : Int), rfl, hf.sub ⟨rfl, trivial⟩, H⟩
    · rw [hb]
      replace ho52 := itF hb ho52
      refine dgs rfl rfl rfl rfl rfl <| dgs rfl rfl rfl rfl rfl <| dgs rfl rfl rfl rfl rfl <| dgs rfl rfl rfl rfl rfl ?_
      refine d1 (dges rfl rfl rfl rfl rfl ?_)
      refine d1 (dges rfl rfl rfl rfl rfl ?_)
      refine dgs rfl rfl rfl rfl rfl <| dq rfl (fun _ _ => Q_pickF rfl rfl) rfl rfl <| dq rfl (fun _ _ => Q_assign rfl) rfl rfl <| DL_nil ?_
      replace H := H.drop 0 rfl
      dsimp only [List.eraseIdx] at H
      obtain rfl := Option.some.inj ho52
      refine x_A fun a hf => ⟨false, rfl, hf.sub ⟨rfl, trivial⟩, H⟩
  · rintro a wd64 ⟨x51, rfl, hf, H⟩
    try dsimp only at hF
    refine CW.at hf <| C_ret ?_
    obtain rfl := Option.some.inj hF
    exact fn_ret (l := [.tmp 2]) (vs := [.bool x51]) rfl rfl rfl ⟨x51, rfl, rfl, H⟩
theorem c_29 {N : Nat} {C : Cx} {w : World} {ρ : View} {hs : List Hl} {v1 : Value} {v4 : Value} {v7 : Value} {x2 : (List (List Int))} {x5 : (List Int)} {x8 : (List Int)} (H : Hp C w ρ (hs)) {ge0 : Value} (gl0 : GErr ρ 0 ge0) (gl1 : GTab ρ 1 .u8 tab_math_bits_deBruijn64tab) (r3 : RdSl ρ (eA 256 (eI .i64)) v1 x2) (r6 : RdSl ρ (eI .i64) v4 x5) (r9 : RdSl ρ (eI .i64) v7 x8) {r : ((List (List Int)) × (List Int) × (List Int))} (hF : F_trim_Trim N x2 x5 x8 = some r) :
    Calls Tryd.prog 29 [.agg #[v1, v4, v7]].toArray w (Rets (fun v w' => (∃ (v1970 : Value) (c1971 : (List Value)) (v1974 : Value) (c1975 : (List Value)) (v1978 : Value) (c1979 : (List Value)) (x1972 : (List (List Int))) (x1976 : (List Int)) (x1980 : (List Int)), (x1972, x1976, x1980) = r ∧ .agg #[v1970, v1974, v1978] = v ∧ rdL (eA 256 (eI .i64)) ρ x1972 c1971 ∧ rdL (eI .i64) ρ x1976 c1975 ∧ rdL (eI .i64) ρ x1980 c1979 ∧ Hp C w' ρ (Arr v1970 256 c1971 :: Arr v1974 1 c1975 :: Arr v1978 1 c1979 :: hs)))) := by
  unfold F_trim_Trim at hF
  have h0 : Tryd.f29.body = some _ := rfl
  refine fn_calls' Tryd.func29 h0 (n := 95) rfl (by simp) <| C_seq <| R_nd <| ne (E_box H (vs := [v1, v4, v7]) rfl rfl) rfl rfl ?_
  rintro _ wd1983 ⟨b1982, rfl, H⟩
  refine ne (E_alloc H ty25 (zs := [.slice none 0 0, .slice none 0 0, .slice none 0 0]) rfl) rfl rfl ?_
  rintro _ wd1985 ⟨b1984, rfl, H⟩
  refine WL_nil <| x_then <| C_seq <| C_seq <| R_nd <| nq (v := .agg #[v1, v4, v7]) (Q_ldB (k := 1) (cs := [v1, v4, v7]) H.ok rfl ty25 rfl rfl rfl (fun h => nomatch h) rfl) rfl rfl ?_
  obtain ⟨q1986, hq1986, hF⟩ := bnd hF
  refine ne (E_call fn26 rfl (c_26 H  r3 r6 r9 hq1986)) rfl rfl ?_
  rintro _ wd1989 ⟨x1988, rfl, rfl, H⟩
  try dsimp only at hF
  refine nq (Q_not rfl) rfl rfl <| WL_nil <| x_then ?_
  refine C_cond rfl (fun hb => ?_) (fun hb => ?_)
  · replace hF := itT hb hF
    refine C_seq <| R_nd <| nq (v := .agg #[.slice none 0 0, .slice none 0 0, .slice none 0 0]) (Q_buildS st25.choose_spec (ps := []) rfl trivial rfl) rfl rfl <| ne (E_stB (k := 0) (cs := [.slice none 0 0, .slice none 0 0, .slice none 0 0]) (vs' := [.slice none 0 0, .slice none 0 0, .slice none 0 0]) H rfl ty25 rfl rfl rfl rfl (one_cons rfl (one_cons rfl (one_cons rfl one_nil))) (by simp) rfl) rfl rfl ?_
    rintro _ wd1990 H
    dsimp only [List.set] at H
    refine WL_nil <| x_then <| C_ret <| x_then_ret ?_
    have H := H.nilArr 256
    have H := H.nilArr 1
    have H := H.nilArr 1
    have hRV : RV Tryd.prog wd1990 [(2, .pointer (some ⟨b1984, 0, none⟩))] [.cell 2 25] [.agg #[(.slice none 0 0), (.slice none 0 0), (.slice none 0 0)]] := ⟨⟨_, rfl, run_ldv ty25 rfl (fun h => nomatch h) (box_at (H.ok.get (k := 3) rfl) 0 3)⟩, trivial⟩
    replace H := H.front 1 rfl
    dsimp only [List.eraseIdx] at H
    replace H := H.front 2 rfl
    dsimp only [List.eraseIdx] at H
    replace H := H.drop 3 rfl
    dsimp only [List.eraseIdx] at H
    replace H := H.drop 3 rfl
    dsimp only [List.eraseIdx] at H
    obtain rfl := Option.some.inj hF
    exact fn_retV (rs := [.cell 2 25]) (vs := [.agg #[(.slice none 0 0), (.slice none 0 0), (.slice none 0 0)]]) rfl hRV ⟨(.slice none 0 0), [], (.slice none 0 0), [], (.slice none 0 0), [], [], [], [], rfl, rfl, rdL.nil, rdL.nil, rdL.nil, H⟩
  · replace hF := itF hb hF
    refine C_skip <| x_then <| C_seq <| R_nd <| nq (v := .agg #[v1, v4, v7]) (Q_ldB (k := 1) (cs := [v1, v4, v7]) H.ok rfl ty25 rfl rfl rfl (fun h => nomatch h) rfl) rfl rfl ?_
    obtain ⟨q1991, hq1991, hF⟩ := bnd hF
    refine ne (E_call fn62 rfl (c_62 H gl0 gl1 r3 r6 r9 hq1991)) rfl rfl ?_
    rintro _ wd1997 ⟨v1993, c1994, x1995, rfl, rfl, r1996, H⟩
    try dsimp only at hF
    refine nq (Q_assign rfl) rfl rfl <| WL_nil <| x_then <| C_seq <| R_nd <| nq (v := .pointer (some ⟨b1982, 0, none⟩)) (Q_fld Tryd.underlying25 rfl ty22 (by decide) rfl rfl) rfl rfl <| nq (v := v1) (Q_ldB (k := 2) (cs := [v1]) H.ok rfl ty22 rfl rfl rfl (fun _ => rfl) rfl) rfl rfl <| nq (Q_len Tryd.underlying22 rfl r3) rfl rfl ?_
    obtain ⟨x1998, hx1998, hF⟩ := bnd hF
    obtain ⟨hm2000a, hm2000b, hm2000c⟩ := mk_some hx1998
    refine ne (E_make H Tryd.underlying23 ty3 (zs := [.int .i64 0]) rfl rfl (by decide) (by decide) rfl hm2000a hm2000b) rfl rfl ?_
    rintro _ wd2001 ⟨b1999, rfl, H⟩
    refine nq (Q_assign rfl) rfl rfl <| WL_nil <| x_then <| C_seq <| C_seq <| R_nd <| nq (Q_move rfl) rfl rfl <| nq (Q_lenA (k := 1) H.ok rfl r1996 (by decide) Tryd.underlying23 rfl) rfl rfl <| nq (Q_move rfl) rfl rfl <| WL_nil <| x_then ?_
    obtain ⟨o2075, ho2075, hF⟩ := bnd hF
    refine C_cutQ (fun a w' => ∃ (c2072 : (List Value)) (x2073 : (List Int)), x2073 = o2075 ∧ rdL (eI .i64) ρ x2073 c2072 ∧ Fr 95 a [(1, .pointer (some ⟨b1982, 0, none⟩)), (2, .pointer (some ⟨b1984, 0, none⟩)), (3, v1993), (4, (.slice (some ⟨b1999, 0, none⟩) (x2.length : Int).toNat (x2.length : Int).toNat))] ∧ Hp C w' ρ (Box b1982 [v1, v4, v7] :: Box b1984 [.slice none 0 0, .slice none 0 0, .slice none 0 0] :: Arr v1993 1 c1994 :: Arr (.slice (some ⟨b1999, 0, none⟩) (x2.length : Int).toNat (x2.length : Int).toNat) 1 c2072 :: hs)) ?_ ?_
    · refine C_block ?_
      replace H := H.front 1 rfl
      dsimp only [List.eraseIdx] at H
      replace H := H.front 2 rfl
      dsimp only [List.eraseIdx] at H
      replace H := H.front 3 rfl
      dsimp only [List.eraseIdx] at H
      refine C_iter (f := fun s => F_trim_Trim_l0 N x1995 s.1 s.2) ho2075 (fun s a w' => ∃ (c2099 : (List Value)) (x2098 : Int) (x2100 : (List Int)), (x2098, x2100) = s ∧ rdL (eI .i64) ρ x2100 c2099 ∧ Fr 95 a [(1, .pointer (some ⟨b1982, 0, none⟩)), (2, .pointer (some ⟨b1984, 0, none⟩)), (3, v1993), (4, (.slice (some ⟨b1999, 0, none⟩) (x2.length : Int).toNat (x2.length : Int).toNat)), (25, v1993), (26, .int .i64 (x1995.length : Int)), (27, .int .i64 x2098)] ∧ Hp C w' ρ (Box b1982 [v1, v4, v7] :: Box b1984 [.slice none 0 0, .slice none 0 0, .slice none 0 0] :: Arr v1993 1 c1994 :: Arr (.slice (some ⟨b1999, 0, none⟩) (x2.length : Int).toNat (x2.length : Int).toNat) 1 c2099 :: hs)) ?_ ?_
      · exact fun a hf => ⟨(repC (x2.length : Int).toNat [.int .i64 0]), 0, x1998, rfl, (hm2000c ▸ rdL_rep (e := (eI .i64)) (ρ := ρ) (rfl) _), hf.sub ⟨rfl, rfl, rfl, rfl, rfl, rfl, rfl, trivial⟩, H⟩
      · rintro s o2124 a wd2127 ⟨c2099, x2098, x2100, rfl, r2101, hf, H⟩ hB2125 hO2126
        replace hB2125 : F_trim_Trim_l0 N x1995 x2098 x2100 = some o2124 := hB2125
        unfold F_trim_Trim_l0 at hB2125
        refine CW.at hf <| C_seq <| R_nd <| nq (Q_lss rfl rfl) rfl rfl <| WL_nil <| x_then <| C_seq ?_
        refine C_cond rfl (fun hb => ?_) (fun hb => ?_)
        · replace hB2125 := itT hb hB2125
          refine C_skip <| x_then <| C_seq <| C_block <| C_seq <| R_nd <| nq (Q_move rfl) rfl rfl ?_
          obtain ⟨x2128, hx2128, hB2125⟩ := bnd hB2125
          obtain ⟨b2129, o2130, hi2134, hc2132, ha2133⟩ := arr_at (hs := [Arr v1993 1 c1994]) (k := 0) (by decide) (H.okS (by simp)) rfl r1996 hx2128
          refine nq (Q_idx hi2134 Tryd.underlying23 ty3 rfl rfl) rfl rfl <| nq (v := .int .i64 x2128) (Q_ld (show cellsAt _ _ _ [.int .i64 x2128] from (show _ = [_] from hc2132) ▸ (ha2133 _ (Ok.subS (by simp) H.ok))) ty3 rfl (fun _ => rfl) rfl rfl) rfl rfl <| nq (Q_assign rfl) rfl rfl <| nq (Q_assign rfl) rfl rfl <| WL_nil <| x_then <| R_nd <| nq (Q_move rfl) rfl rfl <| nq (Q_move rfl) rfl rfl <| nq (Q_move rfl) rfl rfl ?_
          obtain ⟨x2135, hx2135, hB2125⟩ := bnd hB2125
          obtain ⟨b2136, o2137, hi2141, hc2139, ha2140⟩ := arr_at (hs := [Arr (.slice (some ⟨b1999, 0, none⟩) (x2.length : Int).toNat (x2.length : Int).toNat) 1 c2099]) (k := 0) (by decide) (H.okS (by simp)) rfl r2101 hx2135
          refine nq (Q_idx hi2141 Tryd.underlying23 ty3 rfl rfl) rfl rfl ?_
          obtain ⟨x2142, hx2142, hB2125⟩ := bnd hB2125
          obtain ⟨hs2143a, hs2143b, hs2143c⟩ := setI_some hx2142
          have r2144 : rdL (eI .i64) ρ x2142 (setC c2099 (x2128.toNat * 1 + 0) [.int .i64 x2098]) := hs2143c ▸ rdL.set r2101 hs2143b (rfl)
          refine ne (E_stA (k := 3) (j := 0) (c := [.int .i64 x2098]) H rfl ty3 hi2141 rfl rfl rfl rfl (one_cons rfl one_nil) (by decide)) rfl rfl ?_
          rintro _ wd2145 H
          dsimp only [List.set] at H
          refine WL_nil <| x_block <| x_then <| R_nd <| nq (Q_add rfl rfl) rfl rfl <| nq (Q_move rfl) rfl rfl <| WL_nil ?_
          replace H := H.front 3 rfl
          dsimp only [List.eraseIdx] at H
          replace H := H.front 3 rfl
          dsimp only [List.eraseIdx] at H
          replace H := H.front 3 rfl
          dsimp only [List.eraseIdx] at H
          replace H := H.front 3 rfl
          dsimp only [List.eraseIdx] at H
          obtain rfl := Option.some.inj hB2125
          refine x_A fun a hf => ⟨_, rfl, (setC c2099 (x2128.toNat * 1 + 0) [.int .i64 x2098]), w64 (x2098 + 1), x2142, rfl, r2144, hf.sub ⟨rfl, rfl, rfl, rfl, rfl, rfl, rfl, trivial⟩, H⟩
        · replace hB2125 := itF hb hB2125
          refine C_exit <| x_then_exit <| x_then_exit <| x_block_exit ?_
          replace H := H.front 3 rfl
          dsimp only [List.eraseIdx] at H
          replace H := H.front 3 rfl
          dsimp only [List.eraseIdx] at H
          replace H := H.front 3 rfl
          dsimp only [List.eraseIdx] at H
          replace H := H.front 3 rfl
          dsimp only [List.eraseIdx] at H
          obtain rfl := Option.some.inj hB2125
          obtain rfl := hO2126 _ rfl
          refine x_A fun a hf => ⟨c2099, x2100, rfl, r2101, hf.sub ⟨rfl, rfl, rfl, rfl, trivial⟩, H⟩
    · rintro a wd2146 ⟨c2072, x2073, rfl, r2074, hf, H⟩
      try dsimp only at hF
      refine XX.at hf <| x_then <| C_seq <| R_nd <| ne (E_alloc H ty25 (zs := [.slice none 0 0, .slice none 0 0, .slice none 0 0]) rfl) rfl rfl ?_
      rintro _ wd2148 ⟨b2147, rfl, H⟩
      refine WL_nil <| x_then <| C_seq <| C_seq <| R_nd <| nq (Q_move rfl) rfl rfl <| nq (Q_lenA (k := 3) H.ok rfl r1996 (by decide) Tryd.underlying23 rfl) rfl rfl <| nq (Q_move rfl) rfl rfl <| WL_nil <| x_then ?_
      obtain ⟨o2836, ho2836, hF⟩ := bnd hF
      refine C_cutQ (fun a w' => ∃ (v2828 : Value) (c2829 : (List Value)) (v2832 : Value) (c2833 : (List Value)) (x2830 : (List (List Int))) (x2834 : (List Int)), (x2830, x2834) = o2836 ∧ rdL (eA 256 (eI .i64)) ρ x2830 c2829 ∧ rdL (eI .i64) ρ x2834 c2833 ∧ Fr 95 a [(1, .pointer (some ⟨b1982, 0, none⟩)), (2, .pointer (some ⟨b1984, 0, none⟩)), (4, (.slice (some ⟨b1999, 0, none⟩) (x2.length : Int).toNat (x2.length : Int).toNat)), (7, .pointer (some ⟨b2147, 0, none⟩))] ∧ Hp C w' ρ (Box b1982 [v1, v4, v7] :: Box b1984 [.slice none 0 0, .slice none 0 0, .slice none 0 0] :: Arr (.slice (some ⟨b1999, 0, none⟩) (x2.length : Int).toNat (x2.length : Int).toNat) 1 c2072 :: Box b2147 [v2828, v2832, .slice none 0 0] :: Arr v2828 256 c2829 :: Arr v2832 1 c2833 :: hs)) ?_ ?_
      · refine C_block ?_
        have H := H.nilArr 256
        have H := H.nilArr 1
        replace H := H.front 1 rfl
        dsimp only [List.eraseIdx] at H
        replace H := H.front 2 rfl
        dsimp only [List.eraseIdx] at H
        replace H := H.front 6 rfl
        dsimp only [List.eraseIdx] at H
        replace H := H.front 6 rfl
        dsimp only [List.eraseIdx] at H
        replace H := H.front 6 rfl
        dsimp only [List.eraseIdx] at H
        replace H := H.front 6 rfl
        dsimp only [List.eraseIdx] at H
        refine C_iter (f := fun s => F_trim_Trim_l1 N x2 x5 x1995 x2073 s.1 s.2.1 s.2.2) ho2836 (fun s a w' => ∃ (v3063 : Value) (c3064 : (List Value)) (v3067 : Value) (c3068 : (List Value)) (x3062 : Int) (x3065 : (List (List Int))) (x3069 : (List Int)), (x3062, x3065, x3069) = s ∧ rdL (eA 256 (eI .i64)) ρ x3065 c3064 ∧ rdL (eI .i64) ρ x3069 c3068 ∧ Fr 95 a [(1, .pointer (some ⟨b1982, 0, none⟩)), (2, .pointer (some ⟨b1984, 0, none⟩)), (4, (.slice (some ⟨b1999, 0, none⟩) (x2.length : Int).toNat (x2.length : Int).toNat)), (7, .pointer (some ⟨b2147, 0, none⟩)), (37, v1993), (38, .int .i64 (x1995.length : Int)), (39, .int .i64 x3062)] ∧ Hp C w' ρ (Box b1982 [v1, v4, v7] :: Box b1984 [.slice none 0 0, .slice none 0 0, .slice none 0 0] :: Arr v1993 1 c1994 :: Arr (.slice (some ⟨b1999, 0, none⟩) (x2.length : Int).toNat (x2.length : Int).toNat) 1 c2072 :: Box b2147 [v3063, v3067, .slice none 0 0] :: Arr v3063 256 c3064 :: Arr v3067 1 c3068 :: hs)) ?_ ?_
        · exact fun a hf => ⟨(.slice none 0 0), [], (.slice none 0 0), [], 0, [], [], rfl, rdL.nil, rdL.nil, hf.sub ⟨rfl, rfl, rfl, rfl, rfl, rfl, rfl, trivial⟩, H⟩
        · rintro s o3296 a wd3299 ⟨v3063, c3064, v3067, c3068, x3062, x3065, x3069, rfl, r3066, r3070, hf, H⟩ hB3297 hO3298
          replace hB3297 : F_trim_Trim_l1 N x2 x5 x1995 x2073 x3062 x3065 x3069 = some o3296 := hB3297
          unfold F_trim_Trim_l1 at hB3297
          refine CW.at hf <| C_seq <| R_nd <| nq (Q_lss rfl rfl) rfl rfl <| WL_nil <| x_then <| C_seq ?_
          refine C_cond rfl (fun hb => ?_) (fun hb => ?_)
          · replace hB3297 := itT hb hB3297
            refine C_skip <| x_then <| C_seq <| C_block <| C_seq <| R_nd ?_
            obtain ⟨x3300, hx3300, hB3297⟩ := bnd hB3297
            obtain ⟨b3301, o3302, hi3306, hc3304, ha3305⟩ := arr_at (hs := [Arr v1993 1 c1994]) (k := 0) (by decide) (H.okS (by simp)) rfl r1996 hx3300
            refine nq (Q_idx hi3306 Tryd.underlying23 ty3 rfl rfl) rfl rfl <| nq (v := .int .i64 x3300) (Q_ld (show cellsAt _ _ _ [.int .i64 x3300] from (show _ = [_] from hc3304) ▸ (ha3305 _ (Ok.subS (by simp) H.ok))) ty3 rfl (fun _ => rfl) rfl rfl) rfl rfl <| nq (Q_assign rfl) rfl rfl <| WL_nil <| x_then <| C_seq <| R_nd <| nq (v := .pointer (some ⟨b1982, 0, none⟩)) (Q_fld Tryd.underlying25 rfl ty22 (by decide) rfl rfl) rfl rfl <| nq (v := v1) (Q_ldB (k := 0) (cs := [v1]) H.ok rfl ty22 rfl rfl rfl (fun _ => rfl) rfl) rfl rfl <| nq (Q_move rfl) rfl rfl ?_
            obtain ⟨x3307, hx3307, hB3297⟩ := bnd hB3297
            obtain ⟨b3308, o3309, c3310, hc3311, ha3312, hi3313⟩ := idxR r3 hx3307
            refine nq (Q_idx hi3313 Tryd.underlying22 ty58 rfl rfl) rfl rfl <| nq (v := .agg c3310.toArray) (Q_ld (ha3312.up H.ok.view) ty58 ((eA 256 (eI .i64)).len hc3311) (fun h => nomatch h) rfl rfl) rfl rfl <| ne (E_allocA (N := 256) (n := 1) (zs := (repC 256 [.int .i64 0])) H ty58 rfl (by simp [repC_length])) rfl rfl ?_
            rintro _ wd3315 ⟨b3314, rfl, H⟩
            refine ne (E_stW (k := 0) H rfl ty58 rfl rfl (rdL.one hc3311.2) (arr_clen (rdL_rep (e:=(eI .i64)) (ρ:=ρ) (rfl) 256) List.length_replicate) (arr_clen hc3311.2 hc3311.1)) rfl rfl ?_
            rintro _ wd3316 H
            dsimp only [List.set] at H
            refine WL_nil <| x_then <| C_seq <| C_seq <| R_nd <| nq (Q_ldW (k := 0) H.ok rfl ty58 rfl (arr_clen hc3311.2 hc3311.1)) rfl rfl <| nq (Q_move rfl) rfl rfl <| WL_nil <| x_then ?_
            obtain ⟨o3385, ho3385, hB3297⟩ := bnd hB3297
            refine C_cutQ (fun a w' => ∃ (c3381 : (List Value)) (x3382 : (List Int)), x3382 = o3385 ∧ rdL (eI .i64) ρ x3382 c3381 ∧ x3382.length = 256 ∧ Fr 95 a [(1, .pointer (some ⟨b1982, 0, none⟩)), (2, .pointer (some ⟨b1984, 0, none⟩)), (4, (.slice (some ⟨b1999, 0, none⟩) (x2.length : Int).toNat (x2.length : Int).toNat)), (7, .pointer (some ⟨b2147, 0, none⟩)), (9, .int .i64 x3300), (10, .pointer (some ⟨b3314, 0, none⟩)), (37, v1993), (38, .int .i64 (x1995.length : Int)), (39, .int .i64 x3062)] ∧ Hp C w' ρ (Box b1982 [v1, v4, v7] :: Arr (.slice (some ⟨b3314, 0, none⟩) 256 256) 1 c3381 :: Box b1984 [.slice none 0 0, .slice none 0 0, .slice none 0 0] :: Arr v1993 1 c1994 :: Arr (.slice (some ⟨b1999, 0, none⟩) (x2.length : Int).toNat (x2.length : Int).toNat) 1 c2072 :: Box b2147 [v3063, v3067, .slice none 0 0] :: Arr v3063 256 c3064 :: Arr v3067 1 c3068 :: hs)) ?_ ?_
            · refine C_block ?_
              replace H := H.front 7 rfl
              dsimp only [List.eraseIdx] at H
              replace H := H.front 7 rfl
              dsimp only [List.eraseIdx] at H
              replace H := H.front 7 rfl
              dsimp only [List.eraseIdx] at H
              replace H := H.front 7 rfl
              dsimp only [List.eraseIdx] at H
              replace H := H.front 7 rfl
              dsimp only [List.eraseIdx] at H
              replace H := H.front 7 rfl
              dsimp only [List.eraseIdx] at H
              replace H := H.front 6 rfl
              dsimp only [List.eraseIdx] at H
              replace H := H.front 7 rfl
              dsimp only [List.eraseIdx] at H
              refine C_iter (f := fun s => F_trim_Trim_l2 N x2073 x3307 s.1 s.2) ho3385 (fun s a w' => ∃ (c3406 : (List Value)) (x3407 : (List Int)) (x3410 : Int), (x3407, x3410) = s ∧ rdL (eI .i64) ρ x3407 c3406 ∧ x3407.length = 256 ∧ Fr 95 a [(1, .pointer (some ⟨b1982, 0, none⟩)), (2, .pointer (some ⟨b1984, 0, none⟩)), (4, (.slice (some ⟨b1999, 0, none⟩) (x2.length : Int).toNat (x2.length : Int).toNat)), (7, .pointer (some ⟨b2147, 0, none⟩)), (9, .int .i64 x3300), (10, .pointer (some ⟨b3314, 0, none⟩)), (37, v1993), (38, .int .i64 (x1995.length : Int)), (39, .int .i64 x3062), (48, .agg c3310.toArray), (49, .int .i64 x3410)] ∧ Hp C w' ρ (Box b1982 [v1, v4, v7] :: Arr (.slice (some ⟨b3314, 0, none⟩) 256 256) 1 c3406 :: Box b1984 [.slice none 0 0, .slice none 0 0, .slice none 0 0] :: Arr v1993 1 c1994 :: Arr (.slice (some ⟨b1999, 0, none⟩) (x2.length : Int).toNat (x2.length : Int).toNat) 1 c2072 :: Box b2147 [v3063, v3067, .slice none 0 0] :: Arr v3063 256 c3064 :: Arr v3067 1 c3068 :: hs)) ?_ ?_
              · exact fun a hf => ⟨c3310, x3307, 0, rfl, hc3311.2, hc3311.1, hf.sub ⟨rfl, rfl, rfl, rfl, rfl, rfl, rfl, rfl, rfl, rfl, rfl, trivial⟩, H⟩
              · rintro s o3431 a wd3434 ⟨c3406, x3407, x3410, rfl, r3408, lp3409, hf, H⟩ hB3432 hO3433
                replace hB3432 : F_trim_Trim_l2 N x2073 x3307 x3407 x3410 = some o3431 := hB3432
                unfold F_trim_Trim_l2 at hB3432
                refine CW.at hf <| C_seq <| R_nd <| nq (Q_lss rfl rfl) rfl rfl <| WL_nil <| x_then <| C_seq ?_
                refine C_cond rfl (fun hb => ?_) (fun hb => ?_)
                · replace hB3432 := itT hb hB3432
                  refine C_skip <| x_then <| C_seq <| C_block <| C_seq <| R_nd <| nq (Q_move rfl) rfl rfl ?_
                  obtain ⟨x3435, hx3435, hB3432⟩ := bnd hB3432
                  refine nq (Q_ixI hc3311.2 hc3311.1 hx3435 Tryd.underlying58 rfl rfl ty3 rfl) rfl rfl <| nq (Q_assign rfl) rfl rfl <| nq (Q_assign rfl) rfl rfl <| WL_nil <| x_then <| R_nd <| nq (Q_move rfl) rfl rfl <| nq (Q_move rfl) rfl rfl <| nq (Q_move rfl) rfl rfl ?_
                  obtain ⟨x3436, hx3436, hB3432⟩ := bnd hB3432
                  obtain ⟨b3437, o3438, hi3442, hc3440, ha3441⟩ := arr_at (hs := [Arr (.slice (some ⟨b1999, 0, none⟩) (x2.length : Int).toNat (x2.length : Int).toNat) 1 c2072]) (k := 0) (by decide) (H.okS (by simp)) rfl r2074 hx3436
                  refine nq (Q_idx hi3442 Tryd.underlying23 ty3 rfl rfl) rfl rfl <| nq (v := .int .i64 x3436) (Q_ld (show cellsAt _ _ _ [.int .i64 x3436] from (show _ = [_] from hc3440) ▸ (ha3441 _ (Ok.subS (by simp) H.ok))) ty3 rfl (fun _ => rfl) rfl rfl) rfl rfl ?_
                  obtain ⟨x3443, hx3443, hB3432⟩ := bnd hB3432
                  have hn3445 := idx_lt (N := 256) (lp3409) hx3443
                  have hi3444 : IdxOk (.slice (some ⟨b3314, 0, none⟩) 256 256) x3410 1 b3314 (0 + x3410.toNat * 1) := ⟨0, 256, 256, rfl, hn3445.1, hn3445.2, rfl⟩
                  refine nq (Q_idxA hn3445.1 hn3445.2 Tryd.underlying58 ty3 rfl rfl) rfl rfl ?_
                  obtain ⟨x3446, hx3446, hB3432⟩ := bnd hB3432
                  obtain ⟨hs3447a, hs3447b, hs3447c⟩ := setI_some hx3446
                  have r3448 : rdL (eI .i64) ρ x3446 (setC c3406 (x3410.toNat * 1 + 0) [.int .i64 x3436]) := hs3447c ▸ rdL.set r3408 hs3447b (rfl)
                  refine ne (E_stA (k := 1) (j := 0) (c := [.int .i64 x3436]) H rfl ty3 hi3444 rfl rfl rfl rfl (one_cons rfl one_nil) (by decide)) rfl rfl ?_
                  rintro _ wd3449 H
                  dsimp only [List.set] at H
                  refine WL_nil <| x_block <| x_then <| R_nd <| nq (Q_add rfl rfl) rfl rfl <| nq (Q_move rfl) rfl rfl <| WL_nil ?_
                  replace H := H.front 7 rfl
                  dsimp only [List.eraseIdx] at H
                  replace H := H.front 7 rfl
                  dsimp only [List.eraseIdx] at H
                  replace H := H.front 7 rfl
                  dsimp only [List.eraseIdx] at H
                  replace H := H.front 7 rfl
                  dsimp only [List.eraseIdx] at H
                  replace H := H.front 7 rfl
                  dsimp only [List.eraseIdx] at H
                  replace H := H.front 7 rfl
                  dsimp only [List.eraseIdx] at H
                  replace H := H.front 7 rfl
                  dsimp only [List.eraseIdx] at H
                  replace H := H.front 7 rfl
                  dsimp only [List.eraseIdx] at H
                  obtain rfl := Option.some.inj hB3432
                  refine x_A fun a hf => ⟨_, rfl, (setC c3406 (x3410.toNat * 1 + 0) [.int .i64 x3436]), x3446, w64 (x3410 + 1), rfl, r3448, (setI_len hx3446 lp3409), hf.sub ⟨rfl, rfl, rfl, rfl, rfl, rfl, rfl, rfl, rfl, rfl, rfl, trivial⟩, H⟩
                · replace hB3432 := itF hb hB3432
                  refine C_exit <| x_then_exit <| x_then_exit <| x_block_exit ?_
                  replace H := H.front 7 rfl
                  dsimp only [List.eraseIdx] at H
                  replace H := H.front 7 rfl
                  dsimp only [List.eraseIdx] at H
                  replace H := H.front 7 rfl
                  dsimp only [List.eraseIdx] at H
                  replace H := H.front 7 rfl
                  dsimp only [List.eraseIdx] at H
                  replace H := H.front 7 rfl
                  dsimp only [List.eraseIdx] at H
                  replace H := H.front 7 rfl
                  dsimp only [List.eraseIdx] at H
                  replace H := H.front 7 rfl
                  dsimp only [List.eraseIdx] at H
                  replace H := H.front 7 rfl
                  dsimp only [List.eraseIdx] at H
                  obtain rfl := Option.some.inj hB3432
                  obtain rfl := hO3433 _ rfl
                  refine x_A fun a hf => ⟨c3406, x3407, rfl, r3408, lp3409, hf.sub ⟨rfl, rfl, rfl, rfl, rfl, rfl, rfl, rfl, rfl, trivial⟩, H⟩
            · rintro a wd3450 ⟨c3381, x3382, rfl, r3383, lp3384, hf, H⟩
              try dsimp only at hB3297
              refine XX.at hf <| x_then <| C_seq <| R_nd <| nq (v := .pointer (some ⟨b2147, 0, none⟩)) (Q_fld Tryd.underlying25 rfl ty22 (by decide) rfl rfl) rfl rfl <| nq (v := v3063) (Q_ldB (k := 5) (cs := [v3063]) H.ok rfl ty22 rfl rfl rfl (fun _ => rfl) rfl) rfl rfl <| nq (Q_ldW (k := 1) H.ok rfl ty58 rfl (arr_clen r3383 lp3384)) rfl rfl <| ne (E_bslice (xs := [.tmp 62]) (vs := [.agg c3381.toArray]) H Tryd.underlying22 ty58 (by decide) (cs := c3381) rfl (sz_cons (arr_clen r3383 lp3384) sz_nil) (by simp [Value.cells]) (by simp) (by simp) rfl rfl) rfl rfl ?_
              rintro _ wd3452 ⟨b3451, rfl, H⟩
              obtain ⟨x3453, hx3453, hB3297⟩ := bnd hB3297
              obtain ⟨ha3454a, ha3454b⟩ := app_some hx3453
              have r3456 : rdL (eA 256 (eI .i64)) ρ x3453 (c3064 ++ c3381) := ha3454b ▸ rdL.app r3066 (show rdL (eA 256 (eI .i64)) ρ ([x3382]) c3381 from rdL.single ⟨lp3384, r3383⟩)
              refine ne (E_append (k := 7) H rfl Tryd.underlying22 ty58 rfl (by decide) (by decide) rfl rfl (Src.ofArr (k := 0) H.ok rfl) (rdL.one (show rdL (eA 256 (eI .i64)) ρ ([x3382]) c3381 from rdL.single ⟨lp3384, r3383⟩)) (app_fit r3066 (show rdL (eA 256 (eI .i64)) ρ ([x3382]) c3381 from rdL.single ⟨lp3384, r3383⟩) ha3454a)) rfl rfl ?_
              rintro v3455 wd3458 ⟨H, hc3457⟩
              dsimp only [List.set] at H
              refine nq (v := .pointer (some ⟨b2147, 0, none⟩)) (Q_fld Tryd.underlying25 rfl ty22 (by decide) rfl rfl) rfl rfl <| ne (E_stB (k := 6) (cs := [v3455]) (vs' := [v3455, v3067, .slice none 0 0]) H rfl ty22 rfl rfl (arr_cells (H.ok.get (k := 7) rfl)).1 rfl (one_cons (arr_cells (H.ok.get (k := 7) rfl)).2 one_nil) (by simp) rfl) rfl rfl ?_
              rintro _ wd3459 H
              dsimp only [List.set] at H
              refine WL_nil <| x_then ?_
              obtain ⟨o3489, ho3489, hB3297⟩ := bnd hB3297
              refine C_cutQ (fun a w' => ∃ (v3485 : Value) (c3486 : (List Value)) (x3487 : (List Int)), x3487 = o3489 ∧ rdL (eI .i64) ρ x3487 c3486 ∧ Fr 95 a [(1, .pointer (some ⟨b1982, 0, none⟩)), (2, .pointer (some ⟨b1984, 0, none⟩)), (4, (.slice (some ⟨b1999, 0, none⟩) (x2.length : Int).toNat (x2.length : Int).toNat)), (7, .pointer (some ⟨b2147, 0, none⟩)), (37, v1993), (38, .int .i64 (x1995.length : Int)), (39, .int .i64 x3062)] ∧ Hp C w' ρ (Box b1982 [v1, v4, v7] :: Box b1984 [.slice none 0 0, .slice none 0 0, .slice none 0 0] :: Arr v1993 1 c1994 :: Arr (.slice (some ⟨b1999, 0, none⟩) (x2.length : Int).toNat (x2.length : Int).toNat) 1 c2072 :: Box b2147 [v3455, v3485, .slice none 0 0] :: Arr v3455 256 (c3064 ++ c3381) :: Arr v3485 1 c3486 :: hs)) ?_ ?_
              · refine R_dr (.take 0 (.take 2 (.take 3 (.take 4 (.take 5 (.take 6 (.two 1 7 (.one 7 (.one 8 (.take 9 (.one 10 .done)))) (.one 1 (.one 8 (.take 9 (.one 10 .done))))))))))) (fun w' => Ok w' ρ [Arr (.slice (some ⟨b3451, 0, none⟩) 1 1) 256 c3381, Box b1982 [v1, v4, v7], Arr (.slice (some ⟨b3314, 0, none⟩) 256 256) 1 c3381, Box b1984 [.slice none 0 0, .slice none 0 0, .slice none 0 0], Arr v1993 1 c1994, Arr (.slice (some ⟨b1999, 0, none⟩) (x2.length : Int).toNat (x2.length : Int).toNat) 1 c2072, Arr v3455 256 (c3064 ++ c3381)]) (by kernel_rfl) (by kernel_rfl) (by kernel_rfl) (H.drew.okS (by simp)) ?_
                replace H := H.drew
                refine dq (v := .pointer (some ⟨b2147, 1, none⟩)) rfl (fun _ _ => Q_fld Tryd.underlying25 rfl ty23 (by decide) rfl rfl) rfl rfl <| dq (v := .pointer (some ⟨b1982, 1, none⟩)) rfl (fun _ _ => Q_fld Tryd.underlying25 rfl ty23 (by decide) rfl rfl) rfl rfl <| dq (v := v4) rfl (fun _ hw => Q_ldB (k := 1) (cs := [v4]) hw rfl ty23 rfl rfl rfl (fun _ => rfl) rfl) rfl rfl <| dq rfl (fun _ _ => Q_move rfl) rfl rfl ?_
                obtain ⟨x3490, hx3490, ho3489⟩ := bnd ho3489
                obtain ⟨b3491, o3492, c3493, hc3494, ha3495, hi3496⟩ := idxR r6 hx3490
                refine dq rfl (fun _ _ => Q_idx hi3496 Tryd.underlying23 ty3 rfl rfl) rfl rfl <| dq (v := .int .i64 x3490) rfl (fun _ hw => Q_ld (show cellsAt _ _ _ [.int .i64 x3490] from (show _ = [_] from hc3494) ▸ (ha3495.up hw.view)) ty3 rfl (fun _ => rfl) rfl rfl) rfl rfl ?_
                refine d2 ?_ ?_
                · refine de rfl (Eff.quiet (v := v3067) (Q_ldB (k := 6) (cs := [v3067]) H.ok rfl ty23 rfl rfl rfl (fun _ => rfl) rfl)) rfl rfl ?_
                  rintro _ _ ⟨rfl, rfl⟩
                  refine ⟨H.okS (by simp), ?_⟩
                  refine d1 (de rfl (E_bslice (xs := [.tmp 72]) (vs := [.int .i64 x3490]) H Tryd.underlying23 ty3 (by decide) (cs := [.int .i64 x3490]) rfl (sz_cons rfl sz_nil) rfl (by simp) (by simp) rfl rfl) rfl rfl ?_)
                  rintro _ wd3498 ⟨b3497, rfl, H⟩
                  refine ⟨H.okS (by simp), ?_⟩
                  obtain ⟨x3499, hx3499, ho3489⟩ := bnd ho3489
                  obtain ⟨ha3500a, ha3500b⟩ := app_some hx3499
                  have r3502 : rdL (eI .i64) ρ x3499 (c3068 ++ ([.int .i64 x3490])) := ha3500b ▸ rdL.app r3070 (show rdL (eI .i64) ρ ([x3490]) ([.int .i64 x3490]) from ⟨([.int .i64 x3490]), _, rfl, rfl, rdL.nil⟩)
                  refine d1 (de rfl (E_append (k := 9) H rfl Tryd.underlying23 ty3 rfl (by decide) (by decide) rfl rfl (Src.ofArr (k := 0) H.ok rfl) (rdL.one (show rdL (eI .i64) ρ ([x3490]) ([.int .i64 x3490]) from ⟨([.int .i64 x3490]), _, rfl, rfl, rdL.nil⟩)) (app_fit r3070 (show rdL (eI .i64) ρ ([x3490]) ([.int .i64 x3490]) from ⟨([.int .i64 x3490]), _, rfl, rfl, rdL.nil⟩) ha3500a)) rfl rfl ?_)
                  rintro v3501 wd3504 ⟨H, hc3503⟩
                  dsimp only [List.set] at H
                  refine ⟨H.okS (by simp), ?_⟩
                  refine dq (v := .pointer (some ⟨b2147, 1, none⟩)) rfl (fun _ _ => Q_fld Tryd.underlying25 rfl ty23 (by decide) rfl rfl) rfl rfl ?_
                  refine d1 (de rfl (E_stB (k := 7) (cs := [v3501]) (vs' := [v3455, v3501, .slice none 0 0]) H rfl ty23 rfl rfl (arr_cells (H.ok.get (k := 9) rfl)).1 rfl (one_cons (arr_cells (H.ok.get (k := 9) rfl)).2 one_nil) (by simp) rfl) rfl rfl ?_)
                  rintro _ wd3505 H
                  dsimp only [List.set] at H
                  refine ⟨H.okS (by simp), ?_⟩
                  refine DL_nil ?_
                  replace H := H.front 9 rfl
                  dsimp only [List.eraseIdx] at H
                  replace H := H.front 9 rfl
                  dsimp only [List.eraseIdx] at H
                  replace H := H.front 9 rfl
                  dsimp only [List.eraseIdx] at H
                  replace H := H.front 9 rfl
                  dsimp only [List.eraseIdx] at H
                  replace H := H.front 9 rfl
                  dsimp only [List.eraseIdx] at H
                  replace H := H.front 9 rfl
                  dsimp only [List.eraseIdx] at H
                  replace H := H.front 8 rfl
                  dsimp only [List.eraseIdx] at H
                  replace H := H.drop 7 rfl
                  dsimp only [List.eraseIdx] at H
                  replace H := H.drop 7 rfl
                  dsimp only [List.eraseIdx] at H
                  replace H := H.drop 7 rfl
                  dsimp only [List.eraseIdx] at H
                  obtain rfl := Option.some.inj ho3489
                  refine x_A fun a hf => ⟨v3501, (c3068 ++ ([.int .i64 x3490])), x3499, rfl, r3502, hf.sub ⟨rfl, rfl, rfl, rfl, rfl, rfl, rfl, trivial⟩, H⟩
                · refine de rfl (E_bslice (xs := [.tmp 72]) (vs := [.int .i64 x3490]) H Tryd.underlying23 ty3 (by decide) (cs := [.int .i64 x3490]) rfl (sz_cons rfl sz_nil) rfl (by simp) (by simp) rfl rfl) rfl rfl ?_
                  rintro _ wd3507 ⟨b3506, rfl, H⟩
                  refine ⟨H.okS (by simp), ?_⟩
                  refine d1 (de rfl (Eff.quiet (v := v3067) (Q_ldB (k := 7) (cs := [v3067]) H.ok rfl ty23 rfl rfl rfl (fun _ => rfl) rfl)) rfl rfl ?_)
                  rintro _ _ ⟨rfl, rfl⟩
                  refine ⟨H.okS (by simp), ?_⟩
                  obtain ⟨x3508, hx3508, ho3489⟩ := bnd ho3489
                  obtain ⟨ha3509a, ha3509b⟩ := app_some hx3508
                  have r3511 : rdL (eI .i64) ρ x3508 (c3068 ++ ([.int .i64 x3490])) := ha3509b ▸ rdL.app r3070 (show rdL (eI .i64) ρ ([x3490]) ([.int .i64 x3490]) from ⟨([.int .i64 x3490]), _, rfl, rfl, rdL.nil⟩)
                  refine d1 (de rfl (E_append (k := 9) H rfl Tryd.underlying23 ty3 rfl (by decide) (by decide) rfl rfl (Src.ofArr (k := 0) H.ok rfl) (rdL.one (show rdL (eI .i64) ρ ([x3490]) ([.int .i64 x3490]) from ⟨([.int .i64 x3490]), _, rfl, rfl, rdL.nil⟩)) (app_fit r3070 (show rdL (eI .i64) ρ ([x3490]) ([.int .i64 x3490]) from ⟨([.int .i64 x3490]), _, rfl, rfl, rdL.nil⟩) ha3509a)) rfl rfl ?_)
                  rintro v3510 wd3513 ⟨H, hc3512⟩
                  dsimp only [List.set] at H
                  refine ⟨H.okS (by simp), ?_⟩
                  refine dq (v := .pointer (some ⟨b2147, 1, none⟩)) rfl (fun _ _ => Q_fld Tryd.underlying25 rfl ty23 (by decide) rfl rfl) rfl rfl ?_
                  refine d1 (de rfl (E_stB (k := 7) (cs := [v3510]) (vs' := [v3455, v3510, .slice none 0 0]) H rfl ty23 rfl rfl (arr_cells (H.ok.get (k := 9) rfl)).1 rfl (one_cons (arr_cells (H.ok.get (k := 9) rfl)).2 one_nil) (by simp) rfl) rfl rfl ?_)
                  rintro _ wd3514 H
                  dsimp only [List.set] at H
                  refine ⟨H.okS (by simp), ?_⟩
                  refine DL_nil ?_
                  replace H := H.front 9 rfl
                  dsimp only [List.eraseIdx] at H
                  replace H := H.front 9 rfl
                  dsimp only [List.eraseIdx] at H
                  replace H := H.front 9 rfl
                  dsimp only [List.eraseIdx] at H
                  replace H := H.front 9 rfl
                  dsimp only [List.eraseIdx] at H
                  replace H := H.front 9 rfl
                  dsimp only [List.eraseIdx] at H
                  replace H := H.front 9 rfl
                  dsimp only [List.eraseIdx] at H
                  replace H := H.front 8 rfl
                  dsimp only [List.eraseIdx] at H
                  replace H := H.drop 7 rfl
                  dsimp only [List.eraseIdx] at H
                  replace H := H.drop 7 rfl
                  dsimp only [List.eraseIdx] at H
                  replace H := H.drop 7 rfl
                  dsimp only [List.eraseIdx] at H
                  obtain rfl := Option.some.inj ho3489
                  refine x_A fun a hf => ⟨v3510, (c3068 ++ ([.int .i64 x3490])), x3508, rfl, r3511, hf.sub ⟨rfl, rfl, rfl, rfl, rfl, rfl, rfl, trivial⟩, H⟩
              · rintro a wd3515 ⟨v3485, c3486, x3487, rfl, r3488, hf, H⟩
                try dsimp only at hB3297
                refine XX.at hf <| x_block <| x_then <| R_nd <| nq (Q_add rfl rfl) rfl rfl <| nq (Q_move rfl) rfl rfl <| WL_nil ?_
                replace H := H.front 6 rfl
                dsimp only [List.eraseIdx] at H
                replace H := H.front 6 rfl
                dsimp only [List.eraseIdx] at H
                replace H := H.front 6 rfl
                dsimp only [List.eraseIdx] at H
                replace H := H.front 6 rfl
                dsimp only [List.eraseIdx] at H
                replace H := H.front 6 rfl
                dsimp only [List.eraseIdx] at H
                replace H := H.front 6 rfl
                dsimp only [List.eraseIdx] at H
                replace H := H.front 6 rfl
                dsimp only [List.eraseIdx] at H
                obtain rfl := Option.some.inj hB3297
                refine x_A fun a hf => ⟨_, rfl, v3455, (c3064 ++ c3381), v3485, c3486, w64 (x3062 + 1), x3453, x3487, rfl, r3456, r3488, hf.sub ⟨rfl, rfl, rfl, rfl, rfl, rfl, rfl, trivial⟩, H⟩
          · replace hB3297 := itF hb hB3297
            refine C_exit <| x_then_exit <| x_then_exit <| x_block_exit ?_
            replace H := H.front 6 rfl
            dsimp only [List.eraseIdx] at H
            replace H := H.front 6 rfl
            dsimp only [List.eraseIdx] at H
            replace H := H.front 6 rfl
            dsimp only [List.eraseIdx] at H
            replace H := H.front 6 rfl
            dsimp only [List.eraseIdx] at H
            replace H := H.front 5 rfl
            dsimp only [List.eraseIdx] at H
            replace H := H.front 5 rfl
            dsimp only [List.eraseIdx] at H
            replace H := H.drop 6 rfl
            dsimp only [List.eraseIdx] at H
            obtain rfl := Option.some.inj hB3297
            obtain rfl := hO3298 _ rfl
            refine x_A fun a hf => ⟨v3063, c3064, v3067, c3068, x3065, x3069, rfl, r3066, r3070, hf.sub ⟨rfl, rfl, rfl, rfl, trivial⟩, H⟩
      · rintro a wd3516 ⟨v2828, c2829, v2832, c2833, x2830, x2834, rfl, r2831, r2835, hf, H⟩
        try dsimp only at hF
        refine XX.at hf <| x_then <| C_seq <| C_seq <| R_nd <| nq (v := .pointer (some ⟨b1982, 2, none⟩)) (Q_fld Tryd.underlying25 rfl ty23 (by decide) rfl rfl) rfl rfl <| nq (v := v7) (Q_ldB (k := 0) (cs := [v7]) H.ok rfl ty23 rfl rfl rfl (fun _ => rfl) rfl) rfl rfl <| nq (Q_len Tryd.underlying23 rfl r9) rfl rfl <| nq (Q_move rfl) rfl rfl <| WL_nil <| x_then ?_
        obtain ⟨o3729, ho3729, hF⟩ := bnd hF
        refine C_cutQ (fun a w' => ∃ (v3725 : Value) (c3726 : (List Value)) (x3727 : (List Int)), x3727 = o3729 ∧ rdL (eI .i64) ρ x3727 c3726 ∧ Fr 95 a [(2, .pointer (some ⟨b1984, 0, none⟩)), (7, .pointer (some ⟨b2147, 0, none⟩))] ∧ Hp C w' ρ (Box b1984 [.slice none 0 0, .slice none 0 0, .slice none 0 0] :: Box b2147 [v2828, v2832, v3725] :: Arr v2828 256 c2829 :: Arr v2832 1 c2833 :: Arr v3725 1 c3726 :: hs)) ?_ ?_
        · refine C_block ?_
          have H := H.nilArr 1
          replace H := H.front 6 rfl
          dsimp only [List.eraseIdx] at H
          replace H := H.front 6 rfl
          dsimp only [List.eraseIdx] at H
          replace H := H.front 6 rfl
          dsimp only [List.eraseIdx] at H
          replace H := H.front 6 rfl
          dsimp only [List.eraseIdx] at H
          replace H := H.front 6 rfl
          dsimp only [List.eraseIdx] at H
          replace H := H.drop 6 rfl
          dsimp only [List.eraseIdx] at H
          refine C_iter (f := fun s => F_trim_Trim_l3 N x8 x2073 s.1 s.2) ho3729 (fun s a w' => ∃ (v3798 : Value) (c3799 : (List Value)) (x3800 : (List Int)) (x3802 : Int), (x3800, x3802) = s ∧ rdL (eI .i64) ρ x3800 c3799 ∧ Fr 95 a [(2, .pointer (some ⟨b1984, 0, none⟩)), (4, (.slice (some ⟨b1999, 0, none⟩) (x2.length : Int).toNat (x2.length : Int).toNat)), (7, .pointer (some ⟨b2147, 0, none⟩)), (78, v7), (79, .int .i64 (x8.length : Int)), (80, .int .i64 x3802)] ∧ Hp C w' ρ (Box b1984 [.slice none 0 0, .slice none 0 0, .slice none 0 0] :: Arr (.slice (some ⟨b1999, 0, none⟩) (x2.length : Int).toNat (x2.length : Int).toNat) 1 c2072 :: Box b2147 [v2828, v2832, v3798] :: Arr v2828 256 c2829 :: Arr v2832 1 c2833 :: Arr v3798 1 c3799 :: hs)) ?_ ?_
          · exact fun a hf => ⟨(.slice none 0 0), [], [], 0, rfl, rdL.nil, hf.sub ⟨rfl, rfl, rfl, rfl, rfl, rfl, trivial⟩, H⟩
          · rintro s o3871 a wd3874 ⟨v3798, c3799, x3800, x3802, rfl, r3801, hf, H⟩ hB3872 hO3873
            replace hB3872 : F_trim_Trim_l3 N x8 x2073 x3800 x3802 = some o3871 := hB3872
            unfold F_trim_Trim_l3 at hB3872
            refine CW.at hf <| C_seq <| R_nd <| nq (Q_lss rfl rfl) rfl rfl <| WL_nil <| x_then <| C_seq ?_
            refine C_cond rfl (fun hb => ?_) (fun hb => ?_)
            · replace hB3872 := itT hb hB3872
              refine C_skip <| x_then <| C_seq <| C_block <| C_seq <| R_nd ?_
              obtain ⟨x3875, hx3875, hB3872⟩ := bnd hB3872
              obtain ⟨b3876, o3877, c3878, hc3879, ha3880, hi3881⟩ := idxR r9 hx3875
              refine nq (Q_idx hi3881 Tryd.underlying23 ty3 rfl rfl) rfl rfl <| nq (v := .int .i64 x3875) (Q_ld (show cellsAt _ _ _ [.int .i64 x3875] from (show _ = [_] from hc3879) ▸ (ha3880.up H.ok.view)) ty3 rfl (fun _ => rfl) rfl rfl) rfl rfl <| nq (Q_assign rfl) rfl rfl <| WL_nil <| x_then ?_
              obtain ⟨o3911, ho3911, hB3872⟩ := bnd hB3872
              refine C_cutQ (fun a w' => ∃ (v3907 : Value) (c3908 : (List Value)) (x3909 : (List Int)), x3909 = o3911 ∧ rdL (eI .i64) ρ x3909 c3908 ∧ Fr 95 a [(2, .pointer (some ⟨b1984, 0, none⟩)), (4, (.slice (some ⟨b1999, 0, none⟩) (x2.length : Int).toNat (x2.length : Int).toNat)), (7, .pointer (some ⟨b2147, 0, none⟩)), (78, v7), (79, .int .i64 (x8.length : Int)), (80, .int .i64 x3802)] ∧ Hp C w' ρ (Box b1984 [.slice none 0 0, .slice none 0 0, .slice none 0 0] :: Arr (.slice (some ⟨b1999, 0, none⟩) (x2.length : Int).toNat (x2.length : Int).toNat) 1 c2072 :: Box b2147 [v2828, v2832, v3907] :: Arr v2828 256 c2829 :: Arr v2832 1 c2833 :: Arr v3907 1 c3908 :: hs)) ?_ ?_
              · refine R_dr (.take 0 (.take 2 (.take 3 (.take 4 (.take 5 (.two 1 6 (.one 6 (.one 7 (.take 8 (.one 9 .done)))) (.one 1 (.one 7 (.take 8 (.one 9 .done)))))))))) (fun w' => Ok w' ρ [Box b1984 [.slice none 0 0, .slice none 0 0, .slice none 0 0], Arr (.slice (some ⟨b1999, 0, none⟩) (x2.length : Int).toNat (x2.length : Int).toNat) 1 c2072, Arr v2828 256 c2829, Arr v2832 1 c2833]) (by kernel_rfl) (by kernel_rfl) (by kernel_rfl) (H.drew.okS (by simp)) ?_
                replace H := H.drew
                refine dq (v := .pointer (some ⟨b2147, 2, none⟩)) rfl (fun _ _ => Q_fld Tryd.underlying25 rfl ty23 (by decide) rfl rfl) rfl rfl <| dq rfl (fun _ _ => Q_move rfl) rfl rfl <| dq rfl (fun _ _ => Q_move rfl) rfl rfl ?_
                obtain ⟨x3912, hx3912, ho3911⟩ := bnd ho3911
                obtain ⟨b3913, o3914, hi3918, hc3916, ha3917⟩ := arr_at (hs := [Arr (.slice (some ⟨b1999, 0, none⟩) (x2.length : Int).toNat (x2.length : Int).toNat) 1 c2072]) (k := 0) (by decide) (H.okS (by simp)) rfl r2074 hx3912
                refine dq rfl (fun _ _ => Q_idx hi3918 Tryd.underlying23 ty3 rfl rfl) rfl rfl <| dq (v := .int .i64 x3912) rfl (fun _ hw => Q_ld (show cellsAt _ _ _ [.int .i64 x3912] from (show _ = [_] from hc3916) ▸ (ha3917 _ (Ok.subS (by simp) hw))) ty3 rfl (fun _ => rfl) rfl rfl) rfl rfl ?_
                refine d2 ?_ ?_
                · refine de rfl (Eff.quiet (v := v3798) (Q_ldB (k := 2) (cs := [v3798]) H.ok rfl ty23 rfl rfl rfl (fun _ => rfl) rfl)) rfl rfl ?_
                  rintro _ _ ⟨rfl, rfl⟩
                  refine ⟨H.okS (by simp), ?_⟩
                  refine d1 (de rfl (E_bslice (xs := [.tmp 89]) (vs := [.int .i64 x3912]) H Tryd.underlying23 ty3 (by decide) (cs := [.int .i64 x3912]) rfl (sz_cons rfl sz_nil) rfl (by simp) (by simp) rfl rfl) rfl rfl ?_)
                  rintro _ wd3920 ⟨b3919, rfl, H⟩
                  refine ⟨H.okS (by simp), ?_⟩
                  obtain ⟨x3921, hx3921, ho3911⟩ := bnd ho3911
                  obtain ⟨ha3922a, ha3922b⟩ := app_some hx3921
                  have r3924 : rdL (eI .i64) ρ x3921 (c3799 ++ ([.int .i64 x3912])) := ha3922b ▸ rdL.app r3801 (show rdL (eI .i64) ρ ([x3912]) ([.int .i64 x3912]) from ⟨([.int .i64 x3912]), _, rfl, rfl, rdL.nil⟩)
                  refine d1 (de rfl (E_append (k := 6) H rfl Tryd.underlying23 ty3 rfl (by decide) (by decide) rfl rfl (Src.ofArr (k := 0) H.ok rfl) (rdL.one (show rdL (eI .i64) ρ ([x3912]) ([.int .i64 x3912]) from ⟨([.int .i64 x3912]), _, rfl, rfl, rdL.nil⟩)) (app_fit r3801 (show rdL (eI .i64) ρ ([x3912]) ([.int .i64 x3912]) from ⟨([.int .i64 x3912]), _, rfl, rfl, rdL.nil⟩) ha3922a)) rfl rfl ?_)
                  rintro v3923 wd3926 ⟨H, hc3925⟩
                  dsimp only [List.set] at H
                  refine ⟨H.okS (by simp), ?_⟩
                  refine dq (v := .pointer (some ⟨b2147, 2, none⟩)) rfl (fun _ _ => Q_fld Tryd.underlying25 rfl ty23 (by decide) rfl rfl) rfl rfl ?_
                  refine d1 (de rfl (E_stB (k := 3) (cs := [v3923]) (vs' := [v2828, v2832, v3923]) H rfl ty23 rfl rfl (arr_cells (H.ok.get (k := 6) rfl)).1 rfl (one_cons (arr_cells (H.ok.get (k := 6) rfl)).2 one_nil) (by simp) rfl) rfl rfl ?_)
                  rintro _ wd3927 H
                  dsimp only [List.set] at H
                  refine ⟨H.okS (by simp), ?_⟩
                  refine DL_nil ?_
                  replace H := H.front 6 rfl
                  dsimp only [List.eraseIdx] at H
                  replace H := H.front 6 rfl
                  dsimp only [List.eraseIdx] at H
                  replace H := H.front 6 rfl
                  dsimp only [List.eraseIdx] at H
                  replace H := H.front 6 rfl
                  dsimp only [List.eraseIdx] at H
                  replace H := H.front 6 rfl
                  dsimp only [List.eraseIdx] at H
                  replace H := H.front 6 rfl
                  dsimp only [List.eraseIdx] at H
                  replace H := H.drop 6 rfl
                  dsimp only [List.eraseIdx] at H
                  obtain rfl := Option.some.inj ho3911
                  refine x_A fun a hf => ⟨v3923, (c3799 ++ ([.int .i64 x3912])), x3921, rfl, r3924, hf.sub ⟨rfl, rfl, rfl, rfl, rfl, rfl, trivial⟩, H⟩
                · refine de rfl (E_bslice (xs := [.tmp 89]) (vs := [.int .i64 x3912]) H Tryd.underlying23 ty3 (by decide) (cs := [.int .i64 x3912]) rfl (sz_cons rfl sz_nil) rfl (by simp) (by simp) rfl rfl) rfl rfl ?_
                  rintro _ wd3929 ⟨b3928, rfl, H⟩
                  refine ⟨H.okS (by simp), ?_⟩
                  refine d1 (de rfl (Eff.quiet (v := v3798) (Q_ldB (k := 3) (cs := [v3798]) H.ok rfl ty23 rfl rfl rfl (fun _ => rfl) rfl)) rfl rfl ?_)
                  rintro _ _ ⟨rfl, rfl⟩
                  refine ⟨H.okS (by simp), ?_⟩
                  obtain ⟨x3930, hx3930, ho3911⟩ := bnd ho3911
                  obtain ⟨ha3931a, ha3931b⟩ := app_some hx3930
                  have r3933 : rdL (eI .i64) ρ x3930 (c3799 ++ ([.int .i64 x3912])) := ha3931b ▸ rdL.app r3801 (show rdL (eI .i64) ρ ([x3912]) ([.int .i64 x3912]) from ⟨([.int .i64 x3912]), _, rfl, rfl, rdL.nil⟩)
                  refine d1 (de rfl (E_append (k := 6) H rfl Tryd.underlying23 ty3 rfl (by decide) (by decide) rfl rfl (Src.ofArr (k := 0) H.ok rfl) (rdL.one (show rdL (eI .i64) ρ ([x3912]) ([.int .i64 x3912]) from ⟨([.int .i64 x3912]), _, rfl, rfl, rdL.nil⟩)) (app_fit r3801 (show rdL (eI .i64) ρ ([x3912]) ([.int .i64 x3912]) from ⟨([.int .i64 x3912]), _, rfl, rfl, rdL.nil⟩) ha3931a)) rfl rfl ?_)
                  rintro v3932 wd3935 ⟨H, hc3934⟩
                  dsimp only [List.set] at H
                  refine ⟨H.okS (by simp), ?_⟩
                  refine dq (v := .pointer (some ⟨b2147, 2, none⟩)) rfl (fun _ _ => Q_fld Tryd.underlying25 rfl ty23 (by decide) rfl rfl) rfl rfl ?_
                  refine d1 (de rfl (E_stB (k := 3) (cs := [v3932]) (vs' := [v2828, v2832, v3932]) H rfl ty23 rfl rfl (arr_cells (H.ok.get (k := 6) rfl)).1 rfl (one_cons (arr_cells (H.ok.get (k := 6) rfl)).2 one_nil) (by simp) rfl) rfl rfl ?_)
                  rintro _ wd3936 H
                  dsimp only [List.set] at H
                  refine ⟨H.okS (by simp), ?_⟩
                  refine DL_nil ?_
                  replace H := H.front 6 rfl
                  dsimp only [List.eraseIdx] at H
                  replace H := H.front 6 rfl
                  dsimp only [List.eraseIdx] at H
                  replace H := H.front 6 rfl
                  dsimp only [List.eraseIdx] at H
                  replace H := H.front 6 rfl
                  dsimp only [List.eraseIdx] at H
                  replace H := H.front 6 rfl
                  dsimp only [List.eraseIdx] at H
                  replace H := H.front 6 rfl
                  dsimp only [List.eraseIdx] at H
                  replace H := H.drop 6 rfl
                  dsimp only [List.eraseIdx] at H
                  obtain rfl := Option.some.inj ho3911
                  refine x_A fun a hf => ⟨v3932, (c3799 ++ ([.int .i64 x3912])), x3930, rfl, r3933, hf.sub ⟨rfl, rfl, rfl, rfl, rfl, rfl, trivial⟩, H⟩
              · rintro a wd3937 ⟨v3907, c3908, x3909, rfl, r3910, hf, H⟩
                try dsimp only at hB3872
                refine XX.at hf <| x_block <| x_then <| R_nd <| nq (Q_add rfl rfl) rfl rfl <| nq (Q_move rfl) rfl rfl <| WL_nil ?_
                replace H := H.front 5 rfl
                dsimp only [List.eraseIdx] at H
                replace H := H.front 5 rfl
                dsimp only [List.eraseIdx] at H
                replace H := H.front 5 rfl
                dsimp only [List.eraseIdx] at H
                replace H := H.front 5 rfl
                dsimp only [List.eraseIdx] at H
                replace H := H.front 5 rfl
                dsimp only [List.eraseIdx] at H
                replace H := H.front 5 rfl
                dsimp only [List.eraseIdx] at H
                obtain rfl := Option.some.inj hB3872
                refine x_A fun a hf => ⟨_, rfl, v3907, c3908, x3909, w64 (x3802 + 1), rfl, r3910, hf.sub ⟨rfl, rfl, rfl, rfl, rfl, rfl, trivial⟩, H⟩
            · replace hB3872 := itF hb hB3872
              refine C_exit <| x_then_exit <| x_then_exit <| x_block_exit ?_
              replace H := H.front 5 rfl
              dsimp only [List.eraseIdx] at H
              replace H := H.front 5 rfl
              dsimp only [List.eraseIdx] at H
              replace H := H.front 5 rfl
              dsimp only [List.eraseIdx] at H
              replace H := H.front 5 rfl
              dsimp only [List.eraseIdx] at H
              replace H := H.front 4 rfl
              dsimp only [List.eraseIdx] at H
              replace H := H.drop 5 rfl
              dsimp only [List.eraseIdx] at H
              obtain rfl := Option.some.inj hB3872
              obtain rfl := hO3873 _ rfl
              refine x_A fun a hf => ⟨v3798, c3799, x3800, rfl, r3801, hf.sub ⟨rfl, rfl, trivial⟩, H⟩
        · rintro a wd3938 ⟨v3725, c3726, x3727, rfl, r3728, hf, H⟩
          try dsimp only at hF
          refine XX.at hf <| x_then <| C_seq <| R_nd <| nq (v := .agg #[v2828, v2832, v3725]) (Q_ldB (k := 1) (cs := [v2828, v2832, v3725]) H.ok rfl ty25 rfl rfl rfl (fun h => nomatch h) rfl) rfl rfl <| ne (E_stB (k := 0) (cs := [v2828, v2832, v3725]) (vs' := [v2828, v2832, v3725]) H rfl ty25 rfl rfl rfl rfl (one_cons (arr_cells (H.ok.get (k := 2) rfl)).2 (one_cons (arr_cells (H.ok.get (k := 3) rfl)).2 (one_cons (arr_cells (H.ok.get (k := 4) rfl)).2 one_nil))) (by simp) rfl) rfl rfl ?_
          rintro _ wd3939 H
          dsimp only [List.set] at H
          refine WL_nil <| x_then <| C_ret ?_
          have hRV : RV Tryd.prog wd3939 [(2, .pointer (some ⟨b1984, 0, none⟩))] [.cell 2 25] [.agg #[v2828, v2832, v3725]] := ⟨⟨_, rfl, run_ldv ty25 rfl (fun h => nomatch h) (box_at (H.ok.get (k := 0) rfl) 0 3)⟩, trivial⟩
          replace H := H.front 4 rfl
          dsimp only [List.eraseIdx] at H
          replace H := H.front 4 rfl
          dsimp only [List.eraseIdx] at H
          replace H := H.front 4 rfl
          dsimp only [List.eraseIdx] at H
          replace H := H.drop 3 rfl
          dsimp only [List.eraseIdx] at H
          replace H := H.drop 3 rfl
          dsimp only [List.eraseIdx] at H
          obtain rfl := Option.some.inj hF
          exact fn_retV (rs := [.cell 2 25]) (vs := [.agg #[v2828, v2832, v3725]]) rfl hRV ⟨v2828, c2829, v2832, c2833, v3725, c3726, x2830, x2834, x3727, rfl, rfl, r2831, r2835, r3728, H⟩
theorem c_35 {N : Nat} {C : Cx} {w : World} {ρ : View} {hs : List Hl} {v1 : Value} {v4 : Value} {v7 : Value} {x2 : (List (List Int))} {x5 : (List Int)} {x8 : (List Int)} (H : Hp C w ρ (hs)) (r3 : RdSl ρ (eA 256 (eI .i64)) v1 x2) (_r6 : RdSl ρ (eI .i64) v4 x5) (r9 : RdSl ρ (eI .i64) v7 x8) {r : (List Bool)} (hF : F_dofferref18_Reached N x2 x5 x8 = some r) :
    Calls Tryd.prog 35 [.agg #[v1, v4, v7]].toArray w (Rets (fun v w' => (∃ (v18323 : Value) (c18324 : (List Value)) (x18325 : (List Bool)), x18325 = r ∧ v18323 = v ∧ rdL eB ρ x18325 c18324 ∧ Hp C w' ρ (Arr v18323 1 c18324 :: hs)))) := by
  unfold F_dofferref18_Reached at hF
  have h0 : Tryd.f35.body = some _ := rfl
  refine fn_calls' Tryd.func35 h0 (n := 55) rfl (by simp) <| C_seq <| R_nd <| ne (E_box H (vs := [v1, v4, v7]) rfl rfl) rfl rfl ?_
  rintro _ wd18328 ⟨b18327, rfl, H⟩
  refine nq (Q_assign rfl) rfl rfl <| WL_nil <| x_then <| C_seq <| R_nd <| nq (v := .pointer (some ⟨b18327, 0, none⟩)) (Q_fld Tryd.underlying29 rfl ty27 (by decide) rfl rfl) rfl rfl <| nq (v := v1) (Q_ldB (k := 0) (cs := [v1]) H.ok rfl ty27 rfl rfl rfl (fun _ => rfl) rfl) rfl rfl <| nq (Q_len Tryd.underlying27 rfl r3) rfl rfl ?_
  obtain ⟨x18329, hx18329, hF⟩ := bnd hF
  obtain ⟨hm18331a, hm18331b, hm18331c⟩ := mk_some hx18329
  refine ne (E_make H Tryd.underlying46 ty4 (zs := [.bool false]) rfl rfl (by decide) (by decide) rfl hm18331a hm18331b) rfl rfl ?_
  rintro _ wd18332 ⟨b18330, rfl, H⟩
  refine nq (Q_assign rfl) rfl rfl <| WL_nil <| x_then <| C_seq <| R_nd <| nq (Q_move rfl) rfl rfl ?_
  obtain ⟨x18333, hx18333, hF⟩ := bnd hF
  obtain ⟨b18334, o18335, hi18339, hc18337, ha18338⟩ := arr_at (hs := [Arr (.slice (some ⟨b18330, 0, none⟩) (x2.length : Int).toNat (x2.length : Int).toNat) 1 (repC (x2.length : Int).toNat [.bool false])]) (k := 0) (by decide) (H.okS (by simp)) rfl (hm18331c ▸ rdL_rep (e := eB) (ρ := ρ) (rfl) _) hx18333
  refine nq (Q_idx hi18339 Tryd.underlying46 ty4 rfl rfl) rfl rfl ?_
  obtain ⟨x18340, hx18340, hF⟩ := bnd hF
  obtain ⟨hs18341a, hs18341b, hs18341c⟩ := setI_some hx18340
  have r18342 : rdL eB ρ x18340 (setC (repC (x2.length : Int).toNat [.bool false]) ((0 : Int).toNat * 1 + 0) [.bool true]) := hs18341c ▸ rdL.set (hm18331c ▸ rdL_rep (e := eB) (ρ := ρ) (rfl) _) hs18341b (rfl)
  refine ne (E_stA (k := 0) (j := 0) (c := [.bool true]) H rfl ty4 hi18339 rfl rfl rfl rfl (one_cons rfl one_nil) (by decide)) rfl rfl ?_
  rintro _ wd18343 H
  dsimp only [List.set] at H
  refine WL_nil <| x_then <| C_seq <| C_seq <| R_nd <| nq (v := .pointer (some ⟨b18327, 2, none⟩)) (Q_fld Tryd.underlying29 rfl ty23 (by decide) rfl rfl) rfl rfl <| nq (v := v7) (Q_ldB (k := 1) (cs := [v7]) H.ok rfl ty23 rfl rfl rfl (fun _ => rfl) rfl) rfl rfl <| nq (Q_len Tryd.underlying23 rfl r9) rfl rfl <| nq (Q_move rfl) rfl rfl <| WL_nil <| x_then ?_
  obtain ⟨o18417, ho18417, hF⟩ := bnd hF
  refine C_cutQ (fun a w' => ∃ (c18414 : (List Value)) (x18415 : (List Bool)), x18415 = o18417 ∧ rdL eB ρ x18415 c18414 ∧ Fr 55 a [(1, .pointer (some ⟨b18327, 0, none⟩)), (3, (.slice (some ⟨b18330, 0, none⟩) (x2.length : Int).toNat (x2.length : Int).toNat))] ∧ Hp C w' ρ (Box b18327 [v1, v4, v7] :: Arr (.slice (some ⟨b18330, 0, none⟩) (x2.length : Int).toNat (x2.length : Int).toNat) 1 c18414 :: hs)) ?_ ?_
  · refine C_block ?_
    replace H := H.front 1 rfl
    dsimp only [List.eraseIdx] at H
    refine C_iter (f := fun s => F_dofferref18_Reached_l0 N x8 s.1 s.2) ho18417 (fun s a w' => ∃ (c18441 : (List Value)) (x18440 : Int) (x18442 : (List Bool)), (x18440, x18442) = s ∧ rdL eB ρ x18442 c18441 ∧ Fr 55 a [(1, .pointer (some ⟨b18327, 0, none⟩)), (3, (.slice (some ⟨b18330, 0, none⟩) (x2.length : Int).toNat (x2.length : Int).toNat)), (17, v7), (18, .int .i64 (x8.length : Int)), (19, .int .i64 x18440)] ∧ Hp C w' ρ (Box b18327 [v1, v4, v7] :: Arr (.slice (some ⟨b18330, 0, none⟩) (x2.length : Int).toNat (x2.length : Int).toNat) 1 c18441 :: hs)) ?_ ?_
    · exact fun a hf => ⟨(setC (repC (x2.length : Int).toNat [.bool false]) ((0 : Int).toNat * 1 + 0) [.bool true]), 0, x18340, rfl, r18342, hf.sub ⟨rfl, rfl, rfl, rfl, rfl, trivial⟩, H⟩
    · rintro s o18466 a wd18469 ⟨c18441, x18440, x18442, rfl, r18443, hf, H⟩ hB18467 hO18468
      replace hB18467 : F_dofferref18_Reached_l0 N x8 x18440 x18442 = some o18466 := hB18467
      unfold F_dofferref18_Reached_l0 at hB18467
      refine CW.at hf <| C_seq <| R_nd <| nq (Q_lss rfl rfl) rfl rfl <| WL_nil <| x_then <| C_seq ?_
      refine C_cond rfl (fun hb => ?_) (fun hb => ?_)
      · replace hB18467 := itT hb hB18467
        refine C_skip <| x_then <| C_seq <| C_block <| C_seq <| R_nd ?_
        obtain ⟨x18470, hx18470, hB18467⟩ := bnd hB18467
        obtain ⟨b18471, o18472, c18473, hc18474, ha18475, hi18476⟩ := idxR r9 hx18470
        refine nq (Q_idx hi18476 Tryd.underlying23 ty3 rfl rfl) rfl rfl <| nq (v := .int .i64 x18470) (Q_ld (show cellsAt _ _ _ [.int .i64 x18470] from (show _ = [_] from hc18474) ▸ (ha18475.up H.ok.view)) ty3 rfl (fun _ => rfl) rfl rfl) rfl rfl <| nq (Q_assign rfl) rfl rfl <| WL_nil <| x_then <| R_nd <| nq (Q_move rfl) rfl rfl <| nq (Q_move rfl) rfl rfl ?_
        obtain ⟨x18477, hx18477, hB18467⟩ := bnd hB18467
        obtain ⟨b18478, o18479, hi18483, hc18481, ha18482⟩ := arr_at (hs := [Arr (.slice (some ⟨b18330, 0, none⟩) (x2.length : Int).toNat (x2.length : Int).toNat) 1 c18441]) (k := 0) (by decide) (H.okS (by simp)) rfl r18443 hx18477
        refine nq (Q_idx hi18483 Tryd.underlying46 ty4 rfl rfl) rfl rfl ?_
        obtain ⟨x18484, hx18484, hB18467⟩ := bnd hB18467
        obtain ⟨hs18485a, hs18485b, hs18485c⟩ := setI_some hx18484
        have r18486 : rdL eB ρ x18484 (setC c18441 (x18470.toNat * 1 + 0) [.bool true]) := hs18485c ▸ rdL.set r18443 hs18485b (rfl)
        refine ne (E_stA (k := 1) (j := 0) (c := [.bool true]) H rfl ty4 hi18483 rfl rfl rfl rfl (one_cons rfl one_nil) (by decide)) rfl rfl ?_
        rintro _ wd18487 H
        dsimp only [List.set] at H
        refine WL_nil <| x_block <| x_then <| R_nd <| nq (Q_add rfl rfl) rfl rfl <| nq (Q_move rfl) rfl rfl <| WL_nil ?_
        replace H := H.front 1 rfl
        dsimp only [List.eraseIdx] at H
        replace H := H.front 1 rfl
        dsimp only [List.eraseIdx] at H
        obtain rfl := Option.some.inj hB18467
        refine x_A fun a hf => ⟨_, rfl, (setC c18441 (x18470.toNat * 1 + 0) [.bool true]), w64 (x18440 + 1), x18484, rfl, r18486, hf.sub ⟨rfl, rfl, rfl, rfl, rfl, trivial⟩, H⟩
      · replace hB18467 := itF hb hB18467
        refine C_exit <| x_then_exit <| x_then_exit <| x_block_exit ?_
        replace H := H.front 1 rfl
        dsimp only [List.eraseIdx] at H
        replace H := H.front 1 rfl
        dsimp only [List.eraseIdx] at H
        obtain rfl := Option.some.inj hB18467
        obtain rfl := hO18468 _ rfl
        refine x_A fun a hf => ⟨c18441, x18442, rfl, r18443, hf.sub ⟨rfl, rfl, trivial⟩, H⟩
  · rintro a wd18488 ⟨c18414, x18415, rfl, r18416, hf, H⟩
    try dsimp only at hF
    refine XX.at hf <| x_then <| C_seq <| C_seq <| R_nd <| nq (v := .pointer (some ⟨b18327, 0, none⟩)) (Q_fld Tryd.underlying29 rfl ty27 (by decide) rfl rfl) rfl rfl <| nq (v := v1) (Q_ldB (k := 0) (cs := [v1]) H.ok rfl ty27 rfl rfl rfl (fun _ => rfl) rfl) rfl rfl <| nq (Q_len Tryd.underlying27 rfl r3) rfl rfl <| nq (Q_move rfl) rfl rfl <| WL_nil <| x_then ?_
    obtain ⟨o27565, ho27565, hF⟩ := bnd hF
    refine C_cutQ (fun a w' => ∃ (c27562 : (List Value)) (x27563 : (List Bool)), x27563 = o27565 ∧ rdL eB ρ x27563 c27562 ∧ Fr 55 a [(3, (.slice (some ⟨b18330, 0, none⟩) (x2.length : Int).toNat (x2.length : Int).toNat))] ∧ Hp C w' ρ (Arr (.slice (some ⟨b18330, 0, none⟩) (x2.length : Int).toNat (x2.length : Int).toNat) 1 c27562 :: hs)) ?_ ?_
    · refine C_block ?_
      replace H := H.front 1 rfl
      dsimp only [List.eraseIdx] at H
      replace H := H.front 1 rfl
      dsimp only [List.eraseIdx] at H
      refine C_iter (f := fun s => F_dofferref18_Reached_l1 N x2 s.1 s.2) ho27565 (fun s a w' => ∃ (c30589 : (List Value)) (x30590 : (List Bool)) (x30592 : Int), (x30590, x30592) = s ∧ rdL eB ρ x30590 c30589 ∧ Fr 55 a [(1, .pointer (some ⟨b18327, 0, none⟩)), (3, (.slice (some ⟨b18330, 0, none⟩) (x2.length : Int).toNat (x2.length : Int).toNat)), (29, .int .i64 (x2.length : Int)), (30, .int .i64 x30592)] ∧ Hp C w' ρ (Box b18327 [v1, v4, v7] :: Arr (.slice (some ⟨b18330, 0, none⟩) (x2.length : Int).toNat (x2.length : Int).toNat) 1 c30589 :: hs)) ?_ ?_
      · exact fun a hf => ⟨c18414, x18415, 0, rfl, r18416, hf.sub ⟨rfl, rfl, rfl, rfl, trivial⟩, H⟩
      · rintro s o33616 a wd33619 ⟨c30589, x30590, x30592, rfl, r30591, hf, H⟩ hB33617 hO33618
        replace hB33617 : F_dofferref18_Reached_l1 N x2 x30590 x30592 = some o33616 := hB33617
        unfold F_dofferref18_Reached_l1 at hB33617
        refine CW.at hf <| C_seq <| R_nd <| nq (Q_lss rfl rfl) rfl rfl <| WL_nil <| x_then <| C_seq ?_
        refine C_cond rfl (fun hb => ?_) (fun hb => ?_)
        · replace hB33617 := itT hb hB33617
          refine C_skip <| x_then <| C_seq <| C_block <| C_seq <| R_nd <| nq (v := .pointer (some ⟨b18327, 0, none⟩)) (Q_fld Tryd.underlying29 rfl ty27 (by decide) rfl rfl) rfl rfl <| nq (v := v1) (Q_ldB (k := 0) (cs := [v1]) H.ok rfl ty27 rfl rfl rfl (fun _ => rfl) rfl) rfl rfl <| nq (Q_len Tryd.underlying27 rfl r3) rfl rfl <| nq (Q_move rfl) rfl rfl <| WL_nil <| x_then ?_
          obtain ⟨o35130, ho35130, hB33617⟩ := bnd hB33617
          refine C_cutQ (fun a w' => ∃ (c35127 : (List Value)) (x35128 : (List Bool)), x35128 = o35130 ∧ rdL eB ρ x35128 c35127 ∧ Fr 55 a [(1, .pointer (some ⟨b18327, 0, none⟩)), (3, (.slice (some ⟨b18330, 0, none⟩) (x2.length : Int).toNat (x2.length : Int).toNat)), (29, .int .i64 (x2.length : Int)), (30, .int .i64 x30592)] ∧ Hp C w' ρ (Box b18327 [v1, v4, v7] :: Arr (.slice (some ⟨b18330, 0, none⟩) (x2.length : Int).toNat (x2.length : Int).toNat) 1 c35127 :: hs)) ?_ ?_
          · refine C_block ?_
            replace H := H.front 1 rfl
            dsimp only [List.eraseIdx] at H
            replace H := H.front 1 rfl
            dsimp only [List.eraseIdx] at H
            refine C_iter (f := fun s => F_dofferref18_Reached_l2 N x2 s.1 s.2) ho35130 (fun s a w' => ∃ (c35632 : (List Value)) (x35633 : (List Bool)) (x35635 : Int), (x35633, x35635) = s ∧ rdL eB ρ x35633 c35632 ∧ Fr 55 a [(1, .pointer (some ⟨b18327, 0, none⟩)), (3, (.slice (some ⟨b18330, 0, none⟩) (x2.length : Int).toNat (x2.length : Int).toNat)), (29, .int .i64 (x2.length : Int)), (30, .int .i64 x30592), (33, v1), (34, .int .i64 (x2.length : Int)), (35, .int .i64 x35635)] ∧ Hp C w' ρ (Box b18327 [v1, v4, v7] :: Arr (.slice (some ⟨b18330, 0, none⟩) (x2.length : Int).toNat (x2.length : Int).toNat) 1 c35632 :: hs)) ?_ ?_
            · exact fun a hf => ⟨c30589, x30590, 0, rfl, r30591, hf.sub ⟨rfl, rfl, rfl, rfl, rfl, rfl, rfl, trivial⟩, H⟩
            · rintro s o36137 a wd36140 ⟨c35632, x35633, x35635, rfl, r35634, hf, H⟩ hB36138 hO36139
              replace hB36138 : F_dofferref18_Reached_l2 N x2 x35633 x35635 = some o36137 := hB36138
              unfold F_dofferref18_Reached_l2 at hB36138
              refine CW.at hf <| C_seq <| R_nd <| nq (Q_lss rfl rfl) rfl rfl <| WL_nil <| x_then <| C_seq ?_
              refine C_cond rfl (fun hb => ?_) (fun hb => ?_)
              · replace hB36138 := itT hb hB36138
                refine C_skip <| x_then <| C_seq <| C_block <| C_seq <| R_nd <| nq (Q_move rfl) rfl rfl ?_
                obtain ⟨x36141, hx36141, hB36138⟩ := bnd hB36138
                obtain ⟨b36142, o36143, c36144, hc36145, ha36146, hi36147⟩ := idxR r3 hx36141
                refine nq (Q_idx hi36147 Tryd.underlying27 ty57 rfl rfl) rfl rfl <| nq (v := .agg c36144.toArray) (Q_ld (ha36146.up H.ok.view) ty57 ((eA 256 (eI .i64)).len hc36145) (fun h => nomatch h) rfl rfl) rfl rfl <| ne (E_allocA (N := 256) (n := 1) (zs := (repC 256 [.int .i64 0])) H ty57 rfl (by simp [repC_length])) rfl rfl ?_
                rintro _ wd36149 ⟨b36148, rfl, H⟩
                refine nq (Q_assign rfl) rfl rfl <| ne (E_stW (k := 0) H rfl ty57 rfl rfl (rdL.one hc36145.2) (arr_clen (rdL_rep (e:=(eI .i64)) (ρ:=ρ) (rfl) 256) List.length_replicate) (arr_clen hc36145.2 hc36145.1)) rfl rfl ?_
                rintro _ wd36150 H
                dsimp only [List.set] at H
                refine WL_nil <| x_then <| C_seq <| R_nd <| nq (Q_ldW (k := 0) H.ok rfl ty57 rfl (arr_clen hc36145.2 hc36145.1)) rfl rfl <| nq (Q_move rfl) rfl rfl <| WL_nil <| x_then ?_
                obtain ⟨o36395, ho36395, hB36138⟩ := bnd hB36138
                refine C_cutQ (fun a w' => ∃ (c36392 : (List Value)) (x36393 : (List Bool)), x36393 = o36395 ∧ rdL eB ρ x36393 c36392 ∧ Fr 55 a [(1, .pointer (some ⟨b18327, 0, none⟩)), (3, (.slice (some ⟨b18330, 0, none⟩) (x2.length : Int).toNat (x2.length : Int).toNat)), (29, .int .i64 (x2.length : Int)), (30, .int .i64 x30592), (33, v1), (34, .int .i64 (x2.length : Int)), (35, .int .i64 x35635)] ∧ Hp C w' ρ (Box b18327 [v1, v4, v7] :: Arr (.slice (some ⟨b18330, 0, none⟩) (x2.length : Int).toNat (x2.length : Int).toNat) 1 c36392 :: hs)) ?_ ?_
                · refine C_block ?_
                  replace H := H.front 2 rfl
                  dsimp only [List.eraseIdx] at H
                  replace H := H.front 2 rfl
                  dsimp only [List.eraseIdx] at H
                  replace H := H.drop 2 rfl
                  dsimp only [List.eraseIdx] at H
                  refine C_iter (f := fun s => F_dofferref18_Reached_l3 N x35635 x36141 s.1 s.2) ho36395 (fun s a w' => ∃ (c36475 : (List Value)) (x36476 : (List Bool)) (x36478 : Int), (x36476, x36478) = s ∧ rdL eB ρ x36476 c36475 ∧ Fr 55 a [(1, .pointer (some ⟨b18327, 0, none⟩)), (3, (.slice (some ⟨b18330, 0, none⟩) (x2.length : Int).toNat (x2.length : Int).toNat)), (6, .int .i64 x35635), (29, .int .i64 (x2.length : Int)), (30, .int .i64 x30592), (33, v1), (34, .int .i64 (x2.length : Int)), (35, .int .i64 x35635), (40, .agg c36144.toArray), (41, .int .i64 x36478)] ∧ Hp C w' ρ (Box b18327 [v1, v4, v7] :: Arr (.slice (some ⟨b18330, 0, none⟩) (x2.length : Int).toNat (x2.length : Int).toNat) 1 c36475 :: hs)) ?_ ?_
                  · exact fun a hf => ⟨c35632, x35633, 0, rfl, r35634, hf.sub ⟨rfl, rfl, rfl, rfl, rfl, rfl, rfl, rfl, rfl, rfl, trivial⟩, H⟩
                  · rintro s o36558 a wd36561 ⟨c36475, x36476, x36478, rfl, r36477, hf, H⟩ hB36559 hO36560
                    replace hB36559 : F_dofferref18_Reached_l3 N x35635 x36141 x36476 x36478 = some o36558 := hB36559
                    unfold F_dofferref18_Reached_l3 at hB36559
                    refine CW.at hf <| C_seq <| R_nd <| nq (Q_lss rfl rfl) rfl rfl <| WL_nil <| x_then <| C_seq ?_
                    refine C_cond rfl (fun hb => ?_) (fun hb => ?_)
                    · replace hB36559 := itT hb hB36559
                      refine C_skip <| x_then ?_
                      obtain ⟨o36600, ho36600, hB36559⟩ := bnd hB36559
                      refine C_cut (fun a w' => ∃ (c36597 : (List Value)) (x36598 : (List Bool)), x36598 = o36600 ∧ rdL eB ρ x36598 c36597 ∧ Fr 55 a [(1, .pointer (some ⟨b18327, 0, none⟩)), (3, (.slice (some ⟨b18330, 0, none⟩) (x2.length : Int).toNat (x2.length : Int).toNat)), (6, .int .i64 x35635), (29, .int .i64 (x2.length : Int)), (30, .int .i64 x30592), (33, v1), (34, .int .i64 (x2.length : Int)), (35, .int .i64 x35635), (40, .agg c36144.toArray), (41, .int .i64 x36478)] ∧ Hp C w' ρ (Box b18327 [v1, v4, v7] :: Arr (.slice (some ⟨b18330, 0, none⟩) (x2.length : Int).toNat (x2.length : Int).toNat) 1 c36597 :: hs)) ?_ ?_
                      · refine C_block <| C_seq <| R_nd ?_
                        obtain ⟨x36601, hx36601, ho36600⟩ := bnd ho36600
                        refine nq (Q_ixI hc36145.2 hc36145.1 hx36601 Tryd.underlying57 rfl rfl ty3 rfl) rfl rfl <| nq (Q_assign rfl) rfl rfl <| WL_nil <| x_then <| C_seq <| R_nd <| nq (Q_move rfl) rfl rfl <| nq (Q_move rfl) rfl rfl ?_
                        obtain ⟨x36602, hx36602, ho36600⟩ := bnd ho36600
                        obtain ⟨b36603, o36604, hi36608, hc36606, ha36607⟩ := arr_at (hs := [Arr (.slice (some ⟨b18330, 0, none⟩) (x2.length : Int).toNat (x2.length : Int).toNat) 1 c36475]) (k := 0) (by decide) (H.okS (by simp)) rfl r36477 hx36602
                        refine nq (Q_idx hi36608 Tryd.underlying46 ty4 rfl rfl) rfl rfl <| nq (v := .bool x36602) (Q_ld (show cellsAt _ _ _ [.bool x36602] from (show _ = [_] from hc36606) ▸ (ha36607 _ (Ok.subS (by simp) H.ok))) ty4 rfl (fun _ => rfl) rfl rfl) rfl rfl <| WL_nil <| x_then ?_
                        obtain ⟨o36623, ho36623, ho36600⟩ := bnd ho36600
                        refine C_cutQ (fun a w' => ∃ (c36620 : (List Value)) (x36621 : (List Bool)), x36621 = o36623 ∧ rdL eB ρ x36621 c36620 ∧ Fr 55 a [(1, .pointer (some ⟨b18327, 0, none⟩)), (3, (.slice (some ⟨b18330, 0, none⟩) (x2.length : Int).toNat (x2.length : Int).toNat)), (6, .int .i64 x35635), (29, .int .i64 (x2.length : Int)), (30, .int .i64 x30592), (33, v1), (34, .int .i64 (x2.length : Int)), (35, .int .i64 x35635), (40, .agg c36144.toArray), (41, .int .i64 x36478)] ∧ Hp C w' ρ (Box b18327 [v1, v4, v7] :: Arr (.slice (some ⟨b18330, 0, none⟩) (x2.length : Int).toNat (x2.length : Int).toNat) 1 c36620 :: hs)) ?_ ?_
                        · refine C_cond rfl (fun hb => ?_) (fun hb => ?_)
                          · replace ho36623 := itT hb ho36623
                            refine R_nd <| nq (Q_move rfl) rfl rfl <| nq (Q_move rfl) rfl rfl ?_
                            obtain ⟨x36624, hx36624, ho36623⟩ := bnd ho36623
                            obtain ⟨b36625, o36626, hi36630, hc36628, ha36629⟩ := arr_at (hs := [Arr (.slice (some ⟨b18330, 0, none⟩) (x2.length : Int).toNat (x2.length : Int).toNat) 1 c36475]) (k := 0) (by decide) (H.okS (by simp)) rfl r36477 hx36624
                            refine nq (Q_idx hi36630 Tryd.underlying46 ty4 rfl rfl) rfl rfl ?_
                            obtain ⟨x36631, hx36631, ho36623⟩ := bnd ho36623
                            obtain ⟨hs36632a, hs36632b, hs36632c⟩ := setI_some hx36631
                            have r36633 : rdL eB ρ x36631 (setC c36475 (x36601.toNat * 1 + 0) [.bool true]) := hs36632c ▸ rdL.set r36477 hs36632b (rfl)
                            refine ne (E_stA (k := 1) (j := 0) (c := [.bool true]) H rfl ty4 hi36630 rfl rfl rfl rfl (one_cons rfl one_nil) (by decide)) rfl rfl ?_
                            rintro _ wd36634 H
                            dsimp only [List.set] at H
                            refine WL_nil ?_
                            replace H := H.front 1 rfl
                            dsimp only [List.eraseIdx] at H
                            replace H := H.front 1 rfl
                            dsimp only [List.eraseIdx] at H
                            obtain rfl := Option.some.inj ho36623
                            refine x_A fun a hf => ⟨(setC c36475 (x36601.toNat * 1 + 0) [.bool true]), x36631, rfl, r36633, hf.sub ⟨rfl, rfl, rfl, rfl, rfl, rfl, rfl, rfl, rfl, rfl, trivial⟩, H⟩
                          · replace ho36623 := itF hb ho36623
                            refine C_skip ?_
                            replace H := H.front 1 rfl
                            dsimp only [List.eraseIdx] at H
                            replace H := H.front 1 rfl
                            dsimp only [List.eraseIdx] at H
                            obtain rfl := Option.some.inj ho36623
                            refine x_A fun a hf => ⟨c36475, x36476, rfl, r36477, hf.sub ⟨rfl, rfl, rfl, rfl, rfl, rfl, rfl, rfl, rfl, rfl, trivial⟩, H⟩
                        · rintro a wd36635 ⟨c36620, x36621, rfl, r36622, hf, H⟩
                          try dsimp only at ho36600
                          refine XX.at hf <| x_block ?_
                          replace H := H.front 1 rfl
                          dsimp only [List.eraseIdx] at H
                          replace H := H.front 1 rfl
                          dsimp only [List.eraseIdx] at H
                          obtain rfl := Option.some.inj ho36600
                          refine x_A fun a hf => ⟨c36620, x36621, rfl, r36622, hf.sub ⟨rfl, rfl, rfl, rfl, rfl, rfl, rfl, rfl, rfl, rfl, trivial⟩, H⟩
                      · rintro a wd36636 ⟨c36597, x36598, rfl, r36599, hf, H⟩
                        try dsimp only at hB36559
                        refine CW.at hf <| R_nd <| nq (Q_add rfl rfl) rfl rfl <| nq (Q_move rfl) rfl rfl <| WL_nil ?_
                        replace H := H.front 1 rfl
                        dsimp only [List.eraseIdx] at H
                        replace H := H.front 1 rfl
                        dsimp only [List.eraseIdx] at H
                        obtain rfl := Option.some.inj hB36559
                        refine x_A fun a hf => ⟨_, rfl, c36597, x36598, w64 (x36478 + 1), rfl, r36599, hf.sub ⟨rfl, rfl, rfl, rfl, rfl, rfl, rfl, rfl, rfl, rfl, trivial⟩, H⟩
                    · replace hB36559 := itF hb hB36559
                      refine C_exit <| x_then_exit <| x_then_exit <| x_block_exit ?_
                      replace H := H.front 1 rfl
                      dsimp only [List.eraseIdx] at H
                      replace H := H.front 1 rfl
                      dsimp only [List.eraseIdx] at H
                      obtain rfl := Option.some.inj hB36559
                      obtain rfl := hO36560 _ rfl
                      refine x_A fun a hf => ⟨c36475, x36476, rfl, r36477, hf.sub ⟨rfl, rfl, rfl, rfl, rfl, rfl, rfl, trivial⟩, H⟩
                · rintro a wd36637 ⟨c36392, x36393, rfl, r36394, hf, H⟩
                  try dsimp only at hB36138
                  refine XX.at hf <| x_block <| x_then <| R_nd <| nq (Q_add rfl rfl) rfl rfl <| nq (Q_move rfl) rfl rfl <| WL_nil ?_
                  replace H := H.front 1 rfl
                  dsimp only [List.eraseIdx] at H
                  replace H := H.front 1 rfl
                  dsimp only [List.eraseIdx] at H
                  obtain rfl := Option.some.inj hB36138
                  refine x_A fun a hf => ⟨_, rfl, c36392, x36393, w64 (x35635 + 1), rfl, r36394, hf.sub ⟨rfl, rfl, rfl, rfl, rfl, rfl, rfl, trivial⟩, H⟩
              · replace hB36138 := itF hb hB36138
                refine C_exit <| x_then_exit <| x_then_exit <| x_block_exit ?_
                replace H := H.front 1 rfl
                dsimp only [List.eraseIdx] at H
                replace H := H.front 1 rfl
                dsimp only [List.eraseIdx] at H
                obtain rfl := Option.some.inj hB36138
                obtain rfl := hO36139 _ rfl
                refine x_A fun a hf => ⟨c35632, x35633, rfl, r35634, hf.sub ⟨rfl, rfl, rfl, rfl, trivial⟩, H⟩
          · rintro a wd36638 ⟨c35127, x35128, rfl, r35129, hf, H⟩
            try dsimp only at hB33617
            refine XX.at hf <| x_block <| x_then <| R_nd <| nq (Q_add rfl rfl) rfl rfl <| nq (Q_move rfl) rfl rfl <| WL_nil ?_
            replace H := H.front 1 rfl
            dsimp only [List.eraseIdx] at H
            replace H := H.front 1 rfl
            dsimp only [List.eraseIdx] at H
            obtain rfl := Option.some.inj hB33617
            refine x_A fun a hf => ⟨_, rfl, c35127, x35128, w64 (x30592 + 1), rfl, r35129, hf.sub ⟨rfl, rfl, rfl, rfl, trivial⟩, H⟩
        · replace hB33617 := itF hb hB33617
          refine C_exit <| x_then_exit <| x_then_exit <| x_block_exit ?_
          replace H := H.front 1 rfl
          dsimp only [List.eraseIdx] at H
          replace H := H.drop 1 rfl
          dsimp only [List.eraseIdx] at H
          obtain rfl := Option.some.inj hB33617
          obtain rfl := hO33618 _ rfl
          refine x_A fun a hf => ⟨c30589, x30590, rfl, r30591, hf.sub ⟨rfl, trivial⟩, H⟩
    · rintro a wd36639 ⟨c27562, x27563, rfl, r27564, hf, H⟩
      try dsimp only at hF
      refine XX.at hf <| x_then <| C_seq <| R_nd <| nq (Q_move rfl) rfl rfl <| nq (Q_assign rfl) rfl rfl <| WL_nil <| x_then <| C_ret ?_
      obtain rfl := Option.some.inj hF
      exact fn_ret (l := [.tmp 2]) (vs := [(.slice (some ⟨b18330, 0, none⟩) (x2.length : Int).toNat (x2.length : Int).toNat)]) rfl rfl rfl ⟨(.slice (some ⟨b18330, 0, none⟩) (x2.length : Int).toNat (x2.length : Int).toNat), c27562, x27563, rfl, rfl, r27564, H⟩
theorem c_36 {N : Nat} {C : Cx} {w : World} {ρ : View} {hs : List Hl} {v1 : Value} {v4 : Value} {v7 : Value} {x2 : (List (List Int))} {x5 : (List Int)} {x8 : (List Int)} (H : Hp C w ρ (hs)) (r3 : RdSl ρ (eA 256 (eI .i64)) v1 x2) (r6 : RdSl ρ (eI .i64) v4 x5) (_r9 : RdSl ρ (eI .i64) v7 x8) {r : (List Bool)} (hF : F_dofferref18_Live N x2 x5 x8 = some r) :
    Calls Tryd.prog 36 [.agg #[v1, v4, v7]].toArray w (Rets (fun v w' => (∃ (v21591 : Value) (c21592 : (List Value)) (x21593 : (List Bool)), x21593 = r ∧ v21591 = v ∧ rdL eB ρ x21593 c21592 ∧ Hp C w' ρ (Arr v21591 1 c21592 :: hs)))) := by
  unfold F_dofferref18_Live at hF
  have h0 : Tryd.f36.body = some _ := rfl
  refine fn_calls' Tryd.func36 h0 (n := 62) rfl (by simp) <| C_seq <| R_nd <| ne (E_box H (vs := [v1, v4, v7]) rfl rfl) rfl rfl ?_
  rintro _ wd21596 ⟨b21595, rfl, H⟩
  refine nq (Q_assign rfl) rfl rfl <| WL_nil <| x_then <| C_seq <| R_nd <| nq (v := .pointer (some ⟨b21595, 0, none⟩)) (Q_fld Tryd.underlying29 rfl ty27 (by decide) rfl rfl) rfl rfl <| nq (v := v1) (Q_ldB (k := 0) (cs := [v1]) H.ok rfl ty27 rfl rfl rfl (fun _ => rfl) rfl) rfl rfl <| nq (Q_len Tryd.underlying27 rfl r3) rfl rfl ?_
  obtain ⟨x21597, hx21597, hF⟩ := bnd hF
  obtain ⟨hm21599a, hm21599b, hm21599c⟩ := mk_some hx21597
  refine ne (E_make H Tryd.underlying46 ty4 (zs := [.bool false]) rfl rfl (by decide) (by decide) rfl hm21599a hm21599b) rfl rfl ?_
  rintro _ wd21600 ⟨b21598, rfl, H⟩
  refine nq (Q_assign rfl) rfl rfl <| WL_nil <| x_then <| C_seq <| C_seq <| R_nd <| nq (v := .pointer (some ⟨b21595, 0, none⟩)) (Q_fld Tryd.underlying29 rfl ty27 (by decide) rfl rfl) rfl rfl <| nq (v := v1) (Q_ldB (k := 1) (cs := [v1]) H.ok rfl ty27 rfl rfl rfl (fun _ => rfl) rfl) rfl rfl <| nq (Q_len Tryd.underlying27 rfl r3) rfl rfl <| nq (Q_add rfl rfl) rfl rfl <| nq (Q_move rfl) rfl rfl <| WL_nil <| x_then ?_
  obtain ⟨o32387, ho32387, hF⟩ := bnd hF
  refine C_cutQ (fun a w' => ∃ (c32384 : (List Value)) (x32385 : (List Bool)), x32385 = o32387 ∧ rdL eB ρ x32385 c32384 ∧ Fr 62 a [(3, (.slice (some ⟨b21598, 0, none⟩) (x2.length : Int).toNat (x2.length : Int).toNat))] ∧ Hp C w' ρ (Arr (.slice (some ⟨b21598, 0, none⟩) (x2.length : Int).toNat (x2.length : Int).toNat) 1 c32384 :: hs)) ?_ ?_
  · refine C_block ?_
    replace H := H.front 1 rfl
    dsimp only [List.eraseIdx] at H
    refine C_iter (f := fun s => F_dofferref18_Live_l0 N x2 x5 s.1 s.2) ho32387 (fun s a w' => ∃ (c35982 : (List Value)) (x35981 : Int) (x35983 : (List Bool)), (x35981, x35983) = s ∧ rdL eB ρ x35983 c35982 ∧ Fr 62 a [(1, .pointer (some ⟨b21595, 0, none⟩)), (3, (.slice (some ⟨b21598, 0, none⟩) (x2.length : Int).toNat (x2.length : Int).toNat)), (15, .int .i64 (w64 ((x2.length : Int) + 1))), (16, .int .i64 x35981)] ∧ Hp C w' ρ (Box b21595 [v1, v4, v7] :: Arr (.slice (some ⟨b21598, 0, none⟩) (x2.length : Int).toNat (x2.length : Int).toNat) 1 c35982 :: hs)) ?_ ?_
    · exact fun a hf => ⟨(repC (x2.length : Int).toNat [.bool false]), 0, x21597, rfl, (hm21599c ▸ rdL_rep (e := eB) (ρ := ρ) (rfl) _), hf.sub ⟨rfl, rfl, rfl, rfl, trivial⟩, H⟩
    · rintro s o39578 a wd39581 ⟨c35982, x35981, x35983, rfl, r35984, hf, H⟩ hB39579 hO39580
      replace hB39579 : F_dofferref18_Live_l0 N x2 x5 x35981 x35983 = some o39578 := hB39579
      unfold F_dofferref18_Live_l0 at hB39579
      refine CW.at hf <| C_seq <| R_nd <| nq (Q_lss rfl rfl) rfl rfl <| WL_nil <| x_then <| C_seq ?_
      refine C_cond rfl (fun hb => ?_) (fun hb => ?_)
      · replace hB39579 := itT hb hB39579
        refine C_skip <| x_then <| C_seq <| C_block <| C_seq <| R_nd <| nq (v := .pointer (some ⟨b21595, 0, none⟩)) (Q_fld Tryd.underlying29 rfl ty27 (by decide) rfl rfl) rfl rfl <| nq (v := v1) (Q_ldB (k := 0) (cs := [v1]) H.ok rfl ty27 rfl rfl rfl (fun _ => rfl) rfl) rfl rfl <| nq (Q_len Tryd.underlying27 rfl r3) rfl rfl <| nq (Q_move rfl) rfl rfl <| WL_nil <| x_then ?_
        obtain ⟨o41377, ho41377, hB39579⟩ := bnd hB39579
        refine C_cutQ (fun a w' => ∃ (c41374 : (List Value)) (x41375 : (List Bool)), x41375 = o41377 ∧ rdL eB ρ x41375 c41374 ∧ Fr 62 a [(1, .pointer (some ⟨b21595, 0, none⟩)), (3, (.slice (some ⟨b21598, 0, none⟩) (x2.length : Int).toNat (x2.length : Int).toNat)), (15, .int .i64 (w64 ((x2.length : Int) + 1))), (16, .int .i64 x35981)] ∧ Hp C w' ρ (Box b21595 [v1, v4, v7] :: Arr (.slice (some ⟨b21598, 0, none⟩) (x2.length : Int).toNat (x2.length : Int).toNat) 1 c41374 :: hs)) ?_ ?_
        · refine C_block ?_
          replace H := H.front 1 rfl
          dsimp only [List.eraseIdx] at H
          replace H := H.front 1 rfl
          dsimp only [List.eraseIdx] at H
          refine C_iter (f := fun s => F_dofferref18_Live_l1 N x2 x5 s.1 s.2) ho41377 (fun s a w' => ∃ (c41975 : (List Value)) (x41974 : Int) (x41976 : (List Bool)), (x41974, x41976) = s ∧ rdL eB ρ x41976 c41975 ∧ Fr 62 a [(1, .pointer (some ⟨b21595, 0, none⟩)), (3, (.slice (some ⟨b21598, 0, none⟩) (x2.length : Int).toNat (x2.length : Int).toNat)), (15, .int .i64 (w64 ((x2.length : Int) + 1))), (16, .int .i64 x35981), (19, v1), (20, .int .i64 (x2.length : Int)), (21, .int .i64 x41974)] ∧ Hp C w' ρ (Box b21595 [v1, v4, v7] :: Arr (.slice (some ⟨b21598, 0, none⟩) (x2.length : Int).toNat (x2.length : Int).toNat) 1 c41975 :: hs)) ?_ ?_
          · exact fun a hf => ⟨c35982, 0, x35983, rfl, r35984, hf.sub ⟨rfl, rfl, rfl, rfl, rfl, rfl, rfl, trivial⟩, H⟩
          · rintro s o42574 a wd42577 ⟨c41975, x41974, x41976, rfl, r41977, hf, H⟩ hB42575 hO42576
            replace hB42575 : F_dofferref18_Live_l1 N x2 x5 x41974 x41976 = some o42574 := hB42575
            unfold F_dofferref18_Live_l1 at hB42575
            refine CW.at hf <| C_seq <| R_nd <| nq (Q_lss rfl rfl) rfl rfl <| WL_nil <| x_then <| C_seq ?_
            refine C_cond rfl (fun hb => ?_) (fun hb => ?_)
            · replace hB42575 := itT hb hB42575
              refine C_skip <| x_then <| C_seq <| C_block <| C_seq <| R_nd <| nq (Q_move rfl) rfl rfl ?_
              obtain ⟨x42578, hx42578, hB42575⟩ := bnd hB42575
              obtain ⟨b42579, o42580, c42581, hc42582, ha42583, hi42584⟩ := idxR r3 hx42578
              refine nq (Q_idx hi42584 Tryd.underlying27 ty57 rfl rfl) rfl rfl <| nq (v := .agg c42581.toArray) (Q_ld (ha42583.up H.ok.view) ty57 ((eA 256 (eI .i64)).len hc42582) (fun h => nomatch h) rfl rfl) rfl rfl <| ne (E_allocA (N := 256) (n := 1) (zs := (repC 256 [.int .i64 0])) H ty57 rfl (by simp [repC_length])) rfl rfl ?_
              rintro _ wd42586 ⟨b42585, rfl, H⟩
              refine nq (Q_assign rfl) rfl rfl <| ne (E_stW (k := 0) H rfl ty57 rfl rfl (rdL.one hc42582.2) (arr_clen (rdL_rep (e:=(eI .i64)) (ρ:=ρ) (rfl) 256) List.length_replicate) (arr_clen hc42582.2 hc42582.1)) rfl rfl ?_
              rintro _ wd42587 H
              dsimp only [List.set] at H
              refine WL_nil <| x_then ?_
              obtain ⟨o42627, ho42627, hB42575⟩ := bnd hB42575
              refine C_cut (fun a w' => ∃ (c42624 : (List Value)) (x42625 : (List Bool)), x42625 = o42627 ∧ rdL eB ρ x42625 c42624 ∧ Fr 62 a [(1, .pointer (some ⟨b21595, 0, none⟩)), (3, (.slice (some ⟨b21598, 0, none⟩) (x2.length : Int).toNat (x2.length : Int).toNat)), (4, .int .i64 x41974), (5, .pointer (some ⟨b42585, 0, none⟩)), (15, .int .i64 (w64 ((x2.length : Int) + 1))), (16, .int .i64 x35981), (19, v1), (20, .int .i64 (x2.length : Int)), (21, .int .i64 x41974)] ∧ Hp C w' ρ (Box b21595 [v1, v4, v7] :: Arr (.slice (some ⟨b21598, 0, none⟩) (x2.length : Int).toNat (x2.length : Int).toNat) 1 c42624 :: Arr (.slice (some ⟨b42585, 0, none⟩) 256 256) 1 c42581 :: hs)) ?_ ?_
              · refine R_nd <| nq (Q_move rfl) rfl rfl <| nq (Q_move rfl) rfl rfl <| nq (Q_move rfl) rfl rfl <| nq (Q_move rfl) rfl rfl ?_
                obtain ⟨x42628, hx42628, ho42627⟩ := bnd ho42627
                obtain ⟨b42629, o42630, hi42634, hc42632, ha42633⟩ := arr_at (hs := [Arr (.slice (some ⟨b21598, 0, none⟩) (x2.length : Int).toNat (x2.length : Int).toNat) 1 c41975]) (k := 0) (by decide) (H.okS (by simp)) rfl r41977 hx42628
                refine nq (Q_idx hi42634 Tryd.underlying46 ty4 rfl rfl) rfl rfl <| nq (v := .bool x42628) (Q_ld (show cellsAt _ _ _ [.bool x42628] from (show _ = [_] from hc42632) ▸ (ha42633 _ (Ok.subS (by simp) H.ok))) ty4 rfl (fun _ => rfl) rfl rfl) rfl rfl <| nq (Q_move rfl) rfl rfl ?_
                rcases Bool.eq_false_or_eq_true x42628 with hb | hb
                · rw [hb]
                  replace ho42627 := itT hb ho42627
                  refine gs rfl rfl rfl rfl <| gs rfl rfl rfl rfl <| gs rfl rfl rfl rfl <| gs rfl rfl rfl rfl <| gs rfl rfl rfl rfl <| gs rfl rfl rfl rfl <| nq (Q_pickT rfl rfl) rfl rfl ?_
                  obtain ⟨x42635, hx42635, ho42627⟩ := bnd ho42627
                  obtain ⟨b42636, o42637, hi42641, hc42639, ha42640⟩ := arr_at (hs := [Arr (.slice (some ⟨b21598, 0, none⟩) (x2.length : Int).toNat (x2.length : Int).toNat) 1 c41975]) (k := 0) (by decide) (H.okS (by simp)) rfl r41977 hx42635
                  refine nq (Q_idx hi42641 Tryd.underlying46 ty4 rfl rfl) rfl rfl ?_
                  obtain ⟨x42642, hx42642, ho42627⟩ := bnd ho42627
                  obtain ⟨hs42643a, hs42643b, hs42643c⟩ := setI_some hx42642
                  have r42644 : rdL eB ρ x42642 (setC c41975 (x41974.toNat * 1 + 0) [.bool true]) := hs42643c ▸ rdL.set r41977 hs42643b (rfl)
                  refine ne (E_stA (k := 2) (j := 0) (c := [.bool true]) H rfl ty4 hi42641 rfl rfl rfl rfl (one_cons rfl one_nil) (by decide)) rfl rfl ?_
                  rintro _ wd42645 H
                  dsimp only [List.set] at H
                  refine WL_nil ?_
                  replace H := H.front 2 rfl
                  dsimp only [List.eraseIdx] at H
                  replace H := H.front 2 rfl
                  dsimp only [List.eraseIdx] at H
                  obtain rfl := Option.some.inj ho42627
                  refine x_A fun a hf => ⟨(setC c41975 (x41974.toNat * 1 + 0) [.bool true]), x42642, rfl, r42644, hf.sub ⟨rfl, rfl, rfl, rfl, rfl, rfl, rfl, rfl, rfl, trivial⟩, H⟩
                · rw [hb]
                  replace ho42627 := itF hb ho42627
                  refine gq (v := .pointer (some ⟨b21595, 1, none⟩)) (Q_fld Tryd.underlying29 rfl ty23 (by decide) rfl rfl) rfl rfl rfl <| gq (v := v4) (Q_ldB (k := 1) (cs := [v4]) H.ok rfl ty23 rfl rfl rfl (fun _ => rfl) rfl) rfl rfl rfl <| gq (Q_move rfl) rfl rfl rfl ?_
                  obtain ⟨x42646, hx42646, ho42627⟩ := bnd ho42627
                  obtain ⟨b42647, o42648, c42649, hc42650, ha42651, hi42652⟩ := idxR r6 hx42646
                  refine gq (Q_idx hi42652 Tryd.underlying23 ty3 rfl rfl) rfl rfl rfl <| gq (v := .int .i64 x42646) (Q_ld (show cellsAt _ _ _ [.int .i64 x42646] from (show _ = [_] from hc42650) ▸ (ha42651.up H.ok.view)) ty3 rfl (fun _ => rfl) rfl rfl) rfl rfl rfl <| gq (Q_geq rfl rfl) rfl rfl rfl <| nq (Q_pickF rfl rfl) rfl rfl ?_
                  obtain ⟨x42653, hx42653, ho42627⟩ := bnd ho42627
                  obtain ⟨b42654, o42655, hi42659, hc42657, ha42658⟩ := arr_at (hs := [Arr (.slice (some ⟨b21598, 0, none⟩) (x2.length : Int).toNat (x2.length : Int).toNat) 1 c41975]) (k := 0) (by decide) (H.okS (by simp)) rfl r41977 hx42653
                  refine nq (Q_idx hi42659 Tryd.underlying46 ty4 rfl rfl) rfl rfl ?_
                  obtain ⟨x42660, hx42660, ho42627⟩ := bnd ho42627
                  obtain ⟨hs42661a, hs42661b, hs42661c⟩ := setI_some hx42660
                  have r42662 : rdL eB ρ x42660 (setC c41975 (x41974.toNat * 1 + 0) [.bool (decide (x42646 ≥ 0))]) := hs42661c ▸ rdL.set r41977 hs42661b (rfl)
                  refine ne (E_stA (k := 2) (j := 0) (c := [.bool (decide (x42646 ≥ 0))]) H rfl ty4 hi42659 rfl rfl rfl rfl (one_cons rfl one_nil) (by decide)) rfl rfl ?_
                  rintro _ wd42663 H
                  dsimp only [List.set] at H
                  refine WL_nil ?_
                  replace H := H.front 2 rfl
                  dsimp only [List.eraseIdx] at H
                  replace H := H.front 2 rfl
                  dsimp only [List.eraseIdx] at H
                  obtain rfl := Option.some.inj ho42627
                  refine x_A fun a hf => ⟨(setC c41975 (x41974.toNat * 1 + 0) [.bool (decide (x42646 ≥ 0))]), x42660, rfl, r42662, hf.sub ⟨rfl, rfl, rfl, rfl, rfl, rfl, rfl, rfl, rfl, trivial⟩, H⟩
              · rintro a wd42664 ⟨c42624, x42625, rfl, r42626, hf, H⟩
                try dsimp only at hB42575
                refine CW.at hf <| C_seq <| R_nd <| nq (Q_ldW (k := 2) H.ok rfl ty57 rfl (arr_clen hc42582.2 hc42582.1)) rfl rfl <| nq (Q_move rfl) rfl rfl <| WL_nil <| x_then ?_
                obtain ⟨o42918, ho42918, hB42575⟩ := bnd hB42575
                refine C_cutQ (fun a w' => ∃ (c42915 : (List Value)) (x42916 : (List Bool)), x42916 = o42918 ∧ rdL eB ρ x42916 c42915 ∧ Fr 62 a [(1, .pointer (some ⟨b21595, 0, none⟩)), (3, (.slice (some ⟨b21598, 0, none⟩) (x2.length : Int).toNat (x2.length : Int).toNat)), (15, .int .i64 (w64 ((x2.length : Int) + 1))), (16, .int .i64 x35981), (19, v1), (20, .int .i64 (x2.length : Int)), (21, .int .i64 x41974)] ∧ Hp C w' ρ (Box b21595 [v1, v4, v7] :: Arr (.slice (some ⟨b21598, 0, none⟩) (x2.length : Int).toNat (x2.length : Int).toNat) 1 c42915 :: hs)) ?_ ?_
                · refine C_block ?_
                  replace H := H.front 1 rfl
                  dsimp only [List.eraseIdx] at H
                  replace H := H.front 1 rfl
                  dsimp only [List.eraseIdx] at H
                  replace H := H.drop 2 rfl
                  dsimp only [List.eraseIdx] at H
                  refine C_iter (f := fun s => F_dofferref18_Live_l2 N x41974 x42578 s.1 s.2) ho42918 (fun s a w' => ∃ (c43001 : (List Value)) (x43002 : (List Bool)) (x43004 : Int), (x43002, x43004) = s ∧ rdL eB ρ x43002 c43001 ∧ Fr 62 a [(1, .pointer (some ⟨b21595, 0, none⟩)), (3, (.slice (some ⟨b21598, 0, none⟩) (x2.length : Int).toNat (x2.length : Int).toNat)), (4, .int .i64 x41974), (15, .int .i64 (w64 ((x2.length : Int) + 1))), (16, .int .i64 x35981), (19, v1), (20, .int .i64 (x2.length : Int)), (21, .int .i64 x41974), (41, .agg c42581.toArray), (42, .int .i64 x43004)] ∧ Hp C w' ρ (Box b21595 [v1, v4, v7] :: Arr (.slice (some ⟨b21598, 0, none⟩) (x2.length : Int).toNat (x2.length : Int).toNat) 1 c43001 :: hs)) ?_ ?_
                  · exact fun a hf => ⟨c42624, x42625, 0, rfl, r42626, hf.sub ⟨rfl, rfl, rfl, rfl, rfl, rfl, rfl, rfl, rfl, rfl, trivial⟩, H⟩
                  · rintro s o43087 a wd43090 ⟨c43001, x43002, x43004, rfl, r43003, hf, H⟩ hB43088 hO43089
                    replace hB43088 : F_dofferref18_Live_l2 N x41974 x42578 x43002 x43004 = some o43087 := hB43088
                    unfold F_dofferref18_Live_l2 at hB43088
                    refine CW.at hf <| C_seq <| R_nd <| nq (Q_lss rfl rfl) rfl rfl <| WL_nil <| x_then <| C_seq ?_
                    refine C_cond rfl (fun hb => ?_) (fun hb => ?_)
                    · replace hB43088 := itT hb hB43088
                      refine C_skip <| x_then <| C_seq <| C_block <| C_seq <| R_nd ?_
                      obtain ⟨x43091, hx43091, hB43088⟩ := bnd hB43088
                      refine nq (Q_ixI hc42582.2 hc42582.1 hx43091 Tryd.underlying57 rfl rfl ty3 rfl) rfl rfl <| nq (Q_assign rfl) rfl rfl <| WL_nil <| x_then ?_
                      obtain ⟨o43131, ho43131, hB43088⟩ := bnd hB43088
                      refine C_cutQ (fun a w' => ∃ (c43128 : (List Value)) (x43129 : (List Bool)), x43129 = o43131 ∧ rdL eB ρ x43129 c43128 ∧ Fr 62 a [(1, .pointer (some ⟨b21595, 0, none⟩)), (3, (.slice (some ⟨b21598, 0, none⟩) (x2.length : Int).toNat (x2.length : Int).toNat)), (4, .int .i64 x41974), (15, .int .i64 (w64 ((x2.length : Int) + 1))), (16, .int .i64 x35981), (19, v1), (20, .int .i64 (x2.length : Int)), (21, .int .i64 x41974), (41, .agg c42581.toArray), (42, .int .i64 x43004)] ∧ Hp C w' ρ (Box b21595 [v1, v4, v7] :: Arr (.slice (some ⟨b21598, 0, none⟩) (x2.length : Int).toNat (x2.length : Int).toNat) 1 c43128 :: hs)) ?_ ?_
                      · refine R_nd <| nq (Q_move rfl) rfl rfl <| nq (Q_move rfl) rfl rfl <| nq (Q_move rfl) rfl rfl <| nq (Q_move rfl) rfl rfl ?_
                        obtain ⟨x43132, hx43132, ho43131⟩ := bnd ho43131
                        obtain ⟨b43133, o43134, hi43138, hc43136, ha43137⟩ := arr_at (hs := [Arr (.slice (some ⟨b21598, 0, none⟩) (x2.length : Int).toNat (x2.length : Int).toNat) 1 c43001]) (k := 0) (by decide) (H.okS (by simp)) rfl r43003 hx43132
                        refine nq (Q_idx hi43138 Tryd.underlying46 ty4 rfl rfl) rfl rfl <| nq (v := .bool x43132) (Q_ld (show cellsAt _ _ _ [.bool x43132] from (show _ = [_] from hc43136) ▸ (ha43137 _ (Ok.subS (by simp) H.ok))) ty4 rfl (fun _ => rfl) rfl rfl) rfl rfl <| nq (Q_move rfl) rfl rfl ?_
                        rcases Bool.eq_false_or_eq_true x43132 with hb | hb
                        · rw [hb]
                          replace ho43131 := itT hb ho43131
                          refine gs rfl rfl rfl rfl <| gs rfl rfl rfl rfl <| gs rfl rfl rfl rfl <| gs rfl rfl rfl rfl <| nq (Q_pickT rfl rfl) rfl rfl ?_
                          obtain ⟨x43139, hx43139, ho43131⟩ := bnd ho43131
                          obtain ⟨b43140, o43141, hi43145, hc43143, ha43144⟩ := arr_at (hs := [Arr (.slice (some ⟨b21598, 0, none⟩) (x2.length : Int).toNat (x2.length : Int).toNat) 1 c43001]) (k := 0) (by decide) (H.okS (by simp)) rfl r43003 hx43139
                          refine nq (Q_idx hi43145 Tryd.underlying46 ty4 rfl rfl) rfl rfl ?_
                          obtain ⟨x43146, hx43146, ho43131⟩ := bnd ho43131
                          obtain ⟨hs43147a, hs43147b, hs43147c⟩ := setI_some hx43146
                          have r43148 : rdL eB ρ x43146 (setC c43001 (x41974.toNat * 1 + 0) [.bool true]) := hs43147c ▸ rdL.set r43003 hs43147b (rfl)
                          refine ne (E_stA (k := 1) (j := 0) (c := [.bool true]) H rfl ty4 hi43145 rfl rfl rfl rfl (one_cons rfl one_nil) (by decide)) rfl rfl ?_
                          rintro _ wd43149 H
                          dsimp only [List.set] at H
                          refine WL_nil ?_
                          replace H := H.front 1 rfl
                          dsimp only [List.eraseIdx] at H
                          replace H := H.front 1 rfl
                          dsimp only [List.eraseIdx] at H
                          obtain rfl := Option.some.inj ho43131
                          refine x_A fun a hf => ⟨(setC c43001 (x41974.toNat * 1 + 0) [.bool true]), x43146, rfl, r43148, hf.sub ⟨rfl, rfl, rfl, rfl, rfl, rfl, rfl, rfl, rfl, rfl, trivial⟩, H⟩
                        · rw [hb]
                          replace ho43131 := itF hb ho43131
                          refine gq (Q_move rfl) rfl rfl rfl <| gq (Q_move rfl) rfl rfl rfl ?_
                          obtain ⟨x43150, hx43150, ho43131⟩ := bnd ho43131
                          obtain ⟨b43151, o43152, hi43156, hc43154, ha43155⟩ := arr_at (hs := [Arr (.slice (some ⟨b21598, 0, none⟩) (x2.length : Int).toNat (x2.length : Int).toNat) 1 c43001]) (k := 0) (by decide) (H.okS (by simp)) rfl r43003 hx43150
                          refine gq (Q_idx hi43156 Tryd.underlying46 ty4 rfl rfl) rfl rfl rfl <| gq (v := .bool x43150) (Q_ld (show cellsAt _ _ _ [.bool x43150] from (show _ = [_] from hc43154) ▸ (ha43155 _ (Ok.subS (by simp) H.ok))) ty4 rfl (fun _ => rfl) rfl rfl) rfl rfl rfl <| nq (Q_pickF rfl rfl) rfl rfl ?_
                          obtain ⟨x43157, hx43157, ho43131⟩ := bnd ho43131
                          obtain ⟨b43158, o43159, hi43163, hc43161, ha43162⟩ := arr_at (hs := [Arr (.slice (some ⟨b21598, 0, none⟩) (x2.length : Int).toNat (x2.length : Int).toNat) 1 c43001]) (k := 0) (by decide) (H.okS (by simp)) rfl r43003 hx43157
                          refine nq (Q_idx hi43163 Tryd.underlying46 ty4 rfl rfl) rfl rfl ?_
                          obtain ⟨x43164, hx43164, ho43131⟩ := bnd ho43131
                          obtain ⟨hs43165a, hs43165b, hs43165c⟩ := setI_some hx43164
                          have r43166 : rdL eB ρ x43164 (setC c43001 (x41974.toNat * 1 + 0) [.bool x43150]) := hs43165c ▸ rdL.set r43003 hs43165b (rfl)
                          refine ne (E_stA (k := 1) (j := 0) (c := [.bool x43150]) H rfl ty4 hi43163 rfl rfl rfl rfl (one_cons rfl one_nil) (by decide)) rfl rfl ?_
                          rintro _ wd43167 H
                          dsimp only [List.set] at H
                          refine WL_nil ?_
                          replace H := H.front 1 rfl
                          dsimp only [List.eraseIdx] at H
                          replace H := H.front 1 rfl
                          dsimp only [List.eraseIdx] at H
                          obtain rfl := Option.some.inj ho43131
                          refine x_A fun a hf => ⟨(setC c43001 (x41974.toNat * 1 + 0) [.bool x43150]), x43164, rfl, r43166, hf.sub ⟨rfl, rfl, rfl, rfl, rfl, rfl, rfl, rfl, rfl, rfl, trivial⟩, H⟩
                      · rintro a wd43168 ⟨c43128, x43129, rfl, r43130, hf, H⟩
                        try dsimp only at hB43088
                        refine XX.at hf <| x_block <| x_then <| R_nd <| nq (Q_add rfl rfl) rfl rfl <| nq (Q_move rfl) rfl rfl <| WL_nil ?_
                        replace H := H.front 1 rfl
                        dsimp only [List.eraseIdx] at H
                        replace H := H.front 1 rfl
                        dsimp only [List.eraseIdx] at H
                        obtain rfl := Option.some.inj hB43088
                        refine x_A fun a hf => ⟨_, rfl, c43128, x43129, w64 (x43004 + 1), rfl, r43130, hf.sub ⟨rfl, rfl, rfl, rfl, rfl, rfl, rfl, rfl, rfl, rfl, trivial⟩, H⟩
                    · replace hB43088 := itF hb hB43088
                      refine C_exit <| x_then_exit <| x_then_exit <| x_block_exit ?_
                      replace H := H.front 1 rfl
                      dsimp only [List.eraseIdx] at H
                      replace H := H.front 1 rfl
                      dsimp only [List.eraseIdx] at H
                      obtain rfl := Option.some.inj hB43088
                      obtain rfl := hO43089 _ rfl
                      refine x_A fun a hf => ⟨c43001, x43002, rfl, r43003, hf.sub ⟨rfl, rfl, rfl, rfl, rfl, rfl, rfl, trivial⟩, H⟩
                · rintro a wd43169 ⟨c42915, x42916, rfl, r42917, hf, H⟩
                  try dsimp only at hB42575
                  refine XX.at hf <| x_block <| x_then <| R_nd <| nq (Q_add rfl rfl) rfl rfl <| nq (Q_move rfl) rfl rfl <| WL_nil ?_
                  replace H := H.front 1 rfl
                  dsimp only [List.eraseIdx] at H
                  replace H := H.front 1 rfl
                  dsimp only [List.eraseIdx] at H
                  obtain rfl := Option.some.inj hB42575
                  refine x_A fun a hf => ⟨_, rfl, c42915, w64 (x41974 + 1), x42916, rfl, r42917, hf.sub ⟨rfl, rfl, rfl, rfl, rfl, rfl, rfl, trivial⟩, H⟩
            · replace hB42575 := itF hb hB42575
              refine C_exit <| x_then_exit <| x_then_exit <| x_block_exit ?_
              replace H := H.front 1 rfl
              dsimp only [List.eraseIdx] at H
              replace H := H.front 1 rfl
              dsimp only [List.eraseIdx] at H
              obtain rfl := Option.some.inj hB42575
              obtain rfl := hO42576 _ rfl
              refine x_A fun a hf => ⟨c41975, x41976, rfl, r41977, hf.sub ⟨rfl, rfl, rfl, rfl, trivial⟩, H⟩
        · rintro a wd43170 ⟨c41374, x41375, rfl, r41376, hf, H⟩
          try dsimp only at hB39579
          refine XX.at hf <| x_block <| x_then <| R_nd <| nq (Q_add rfl rfl) rfl rfl <| nq (Q_move rfl) rfl rfl <| WL_nil ?_
          replace H := H.front 1 rfl
          dsimp only [List.eraseIdx] at H
          replace H := H.front 1 rfl
          dsimp only [List.eraseIdx] at H
          obtain rfl := Option.some.inj hB39579
          refine x_A fun a hf => ⟨_, rfl, c41374, w64 (x35981 + 1), x41375, rfl, r41376, hf.sub ⟨rfl, rfl, rfl, rfl, trivial⟩, H⟩
      · replace hB39579 := itF hb hB39579
        refine C_exit <| x_then_exit <| x_then_exit <| x_block_exit ?_
        replace H := H.front 1 rfl
        dsimp only [List.eraseIdx] at H
        replace H := H.drop 1 rfl
        dsimp only [List.eraseIdx] at H
        obtain rfl := Option.some.inj hB39579
        obtain rfl := hO39580 _ rfl
        refine x_A fun a hf => ⟨c35982, x35983, rfl, r35984, hf.sub ⟨rfl, trivial⟩, H⟩
  · rintro a wd43171 ⟨c32384, x32385, rfl, r32386, hf, H⟩
    try dsimp only at hF
    refine XX.at hf <| x_then <| C_seq <| R_nd <| nq (Q_move rfl) rfl rfl <| nq (Q_assign rfl) rfl rfl <| WL_nil <| x_then <| C_ret ?_
    obtain rfl := Option.some.inj hF
    exact fn_ret (l := [.tmp 2]) (vs := [(.slice (some ⟨b21598, 0, none⟩) (x2.length : Int).toNat (x2.length : Int).toNat)]) rfl rfl rfl ⟨(.slice (some ⟨b21598, 0, none⟩) (x2.length : Int).toNat (x2.length : Int).toNat), c32384, x32385, rfl, rfl, r32386, H⟩
theorem c_33 {N : Nat} {C : Cx} {w : World} {ρ : View} {hs : List Hl} {v1 : Value} {v4 : Value} {v7 : Value} {x2 : (List (List Int))} {x5 : (List Int)} {x8 : (List Int)} (H : Hp C w ρ (hs)) (r3 : RdSl ρ (eA 256 (eI .i64)) v1 x2) (r6 : RdSl ρ (eI .i64) v4 x5) (r9 : RdSl ρ (eI .i64) v7 x8) {r : ((List (List Int)) × (List Int) × (List Int))} (hF : F_dofferref18_Trim N x2 x5 x8 = some r) :
    Calls Tryd.prog 33 [.agg #[v1, v4, v7]].toArray w (Rets (fun v w' => (∃ (v4127 : Value) (c4128 : (List Value)) (v4131 : Value) (c4132 : (List Value)) (v4135 : Value) (c4136 : (List Value)) (x4129 : (List (List Int))) (x4133 : (List Int)) (x4137 : (List Int)), (x4129, x4133, x4137) = r ∧ .agg #[v4127, v4131, v4135] = v ∧ rdL (eA 256 (eI .i64)) ρ x4129 c4128 ∧ rdL (eI .i64) ρ x4133 c4132 ∧ rdL (eI .i64) ρ x4137 c4136 ∧ Hp C w' ρ (Arr v4127 256 c4128 :: Arr v4131 1 c4132 :: Arr v4135 1 c4136 :: hs)))) := by
  unfold F_dofferref18_Trim at hF
  have h0 : Tryd.f33.body = some _ := rfl
  refine fn_calls' Tryd.func33 h0 (n := 113) rfl (by simp) <| C_seq <| R_nd <| ne (E_box H (vs := [v1, v4, v7]) rfl rfl) rfl rfl ?_
  rintro _ wd4140 ⟨b4139, rfl, H⟩
  refine ne (E_alloc H ty29 (zs := [.slice none 0 0, .slice none 0 0, .slice none 0 0]) rfl) rfl rfl ?_
  rintro _ wd4142 ⟨b4141, rfl, H⟩
  refine WL_nil <| x_then <| C_seq <| R_dr (.take 0 (.take 2 (.one 1 (.one 3 (.take 4 (.take 5 .done)))))) (fun w' => Ok w' ρ [Box b4141 [.slice none 0 0, .slice none 0 0, .slice none 0 0], Box b4139 [v1, v4, v7]]) (by kernel_rfl) (by kernel_rfl) (by kernel_rfl) (H.drew.okS (by simp)) ?_
  replace H := H.drew
  refine dq (v := .agg #[v1, v4, v7]) rfl (fun _ hw => Q_ldB (k := 1) (cs := [v1, v4, v7]) hw rfl ty29 rfl rfl rfl (fun h => nomatch h) rfl) rfl rfl <| dq (v := .agg #[v1, v4, v7]) rfl (fun _ hw => Q_ldB (k := 1) (cs := [v1, v4, v7]) hw rfl ty29 rfl rfl rfl (fun h => nomatch h) rfl) rfl rfl ?_
  obtain ⟨q4143, hq4143, hF⟩ := bnd hF
  refine d1 (de rfl (E_call fn35 rfl (c_35 H  r3 r6 r9 hq4143)) rfl rfl ?_)
  rintro _ wd4149 ⟨v4145, c4146, x4147, rfl, rfl, r4148, H⟩
  try dsimp only at hF
  refine ⟨H.okS (by simp), ?_⟩
  obtain ⟨q4150, hq4150, hF⟩ := bnd hF
  refine d1 (de rfl (E_call fn36 rfl (c_36 H  r3 r6 r9 hq4150)) rfl rfl ?_)
  rintro _ wd4156 ⟨v4152, c4153, x4154, rfl, rfl, r4155, H⟩
  try dsimp only at hF
  refine ⟨H.okS (by simp), ?_⟩
  refine dq rfl (fun _ _ => Q_assign rfl) rfl rfl <| dq rfl (fun _ _ => Q_assign rfl) rfl rfl <| DL_nil <| x_then <| C_seq <| R_nd <| nq (v := .pointer (some ⟨b4139, 0, none⟩)) (Q_fld Tryd.underlying29 rfl ty27 (by decide) rfl rfl) rfl rfl <| nq (v := v1) (Q_ldB (k := 3) (cs := [v1]) H.ok rfl ty27 rfl rfl rfl (fun _ => rfl) rfl) rfl rfl <| nq (Q_len Tryd.underlying27 rfl r3) rfl rfl ?_
  obtain ⟨x4157, hx4157, hF⟩ := bnd hF
  obtain ⟨hm4159a, hm4159b, hm4159c⟩ := mk_some hx4157
  refine ne (E_make H Tryd.underlying23 ty3 (zs := [.int .i64 0]) rfl rfl (by decide) (by decide) rfl hm4159a hm4159b) rfl rfl ?_
  rintro _ wd4160 ⟨b4158, rfl, H⟩
  refine nq (Q_assign rfl) rfl rfl <| WL_nil <| x_then <| C_seq <| R_nd <| nq (Q_assign rfl) rfl rfl <| WL_nil <| x_then <| C_seq <| C_seq <| R_nd <| nq (Q_assign rfl) rfl rfl <| WL_nil <| x_then ?_
  obtain ⟨o4555, ho4555, hF⟩ := bnd hF
  refine C_cutQ (fun a w' => ∃ (c4552 : (List Value)) (x4553 : (List Int)), x4553 = o4555 ∧ rdL (eI .i64) ρ x4553 c4552 ∧ Fr 113 a [(1, .pointer (some ⟨b4139, 0, none⟩)), (2, .pointer (some ⟨b4141, 0, none⟩)), (5, (.slice (some ⟨b4158, 0, none⟩) (x2.length : Int).toNat (x2.length : Int).toNat))] ∧ Hp C w' ρ (Box b4139 [v1, v4, v7] :: Box b4141 [.slice none 0 0, .slice none 0 0, .slice none 0 0] :: Arr (.slice (some ⟨b4158, 0, none⟩) (x2.length : Int).toNat (x2.length : Int).toNat) 1 c4552 :: hs)) ?_ ?_
  · refine C_block ?_
    replace H := H.front 1 rfl
    dsimp only [List.eraseIdx] at H
    replace H := H.front 2 rfl
    dsimp only [List.eraseIdx] at H
    replace H := H.front 3 rfl
    dsimp only [List.eraseIdx] at H
    replace H := H.front 4 rfl
    dsimp only [List.eraseIdx] at H
    refine C_iter (f := fun s => F_dofferref18_Trim_l0 N x2 x4147 x4154 s.1 s.2.1 s.2.2) ho4555 (fun s a w' => ∃ (c4685 : (List Value)) (x4686 : (List Int)) (x4688 : Int) (x4689 : Int), (x4686, x4688, x4689) = s ∧ rdL (eI .i64) ρ x4686 c4685 ∧ Fr 113 a [(1, .pointer (some ⟨b4139, 0, none⟩)), (2, .pointer (some ⟨b4141, 0, none⟩)), (3, v4145), (4, v4152), (5, (.slice (some ⟨b4158, 0, none⟩) (x2.length : Int).toNat (x2.length : Int).toNat)), (6, .int .i64 x4688), (7, .int .i64 x4689)] ∧ Hp C w' ρ (Box b4139 [v1, v4, v7] :: Box b4141 [.slice none 0 0, .slice none 0 0, .slice none 0 0] :: Arr v4145 1 c4146 :: Arr v4152 1 c4153 :: Arr (.slice (some ⟨b4158, 0, none⟩) (x2.length : Int).toNat (x2.length : Int).toNat) 1 c4685 :: hs)) ?_ ?_
    · exact fun a hf => ⟨(repC (x2.length : Int).toNat [.int .i64 0]), x4157, 1, 1, rfl, (hm4159c ▸ rdL_rep (e := (eI .i64)) (ρ := ρ) (rfl) _), hf.sub ⟨rfl, rfl, rfl, rfl, rfl, rfl, rfl, trivial⟩, H⟩
    · rintro s o4819 a wd4822 ⟨c4685, x4686, x4688, x4689, rfl, r4687, hf, H⟩ hB4820 hO4821
      replace hB4820 : F_dofferref18_Trim_l0 N x2 x4147 x4154 x4686 x4688 x4689 = some o4819 := hB4820
      unfold F_dofferref18_Trim_l0 at hB4820
      refine CW.at hf <| C_seq <| C_seq <| R_nd <| nq (Q_move rfl) rfl rfl <| nq (v := .pointer (some ⟨b4139, 0, none⟩)) (Q_fld Tryd.underlying29 rfl ty27 (by decide) rfl rfl) rfl rfl <| nq (v := v1) (Q_ldB (k := 0) (cs := [v1]) H.ok rfl ty27 rfl rfl rfl (fun _ => rfl) rfl) rfl rfl <| nq (Q_len Tryd.underlying27 rfl r3) rfl rfl <| nq (Q_lss rfl rfl) rfl rfl <| WL_nil <| x_then ?_
      refine C_cond rfl (fun hb => ?_) (fun hb => ?_)
      · replace hB4820 := itT hb hB4820
        refine C_skip <| x_then ?_
        obtain ⟨o4886, ho4886, hB4820⟩ := bnd hB4820
        refine C_cut (fun a w' => ∃ (c4882 : (List Value)) (x4883 : (List Int)) (x4885 : Int), (x4883, x4885) = o4886 ∧ rdL (eI .i64) ρ x4883 c4882 ∧ Fr 113 a [(1, .pointer (some ⟨b4139, 0, none⟩)), (2, .pointer (some ⟨b4141, 0, none⟩)), (3, v4145), (4, v4152), (5, (.slice (some ⟨b4158, 0, none⟩) (x2.length : Int).toNat (x2.length : Int).toNat)), (6, .int .i64 x4885), (7, .int .i64 x4689)] ∧ Hp C w' ρ (Box b4139 [v1, v4, v7] :: Box b4141 [.slice none 0 0, .slice none 0 0, .slice none 0 0] :: Arr v4145 1 c4146 :: Arr v4152 1 c4153 :: Arr (.slice (some ⟨b4158, 0, none⟩) (x2.length : Int).toNat (x2.length : Int).toNat) 1 c4882 :: hs)) ?_ ?_
        · refine C_block ?_
          obtain ⟨o4902, ho4902, ho4886⟩ := bnd ho4886
          refine C_cut (fun a w' => ∃ (x4901 : Bool), x4901 = o4902 ∧ Fr 113 a [(1, .pointer (some ⟨b4139, 0, none⟩)), (2, .pointer (some ⟨b4141, 0, none⟩)), (3, v4145), (4, v4152), (5, (.slice (some ⟨b4158, 0, none⟩) (x2.length : Int).toNat (x2.length : Int).toNat)), (6, .int .i64 x4688), (7, .int .i64 x4689), (40, .bool x4901)] ∧ Hp C w' ρ (Box b4139 [v1, v4, v7] :: Box b4141 [.slice none 0 0, .slice none 0 0, .slice none 0 0] :: Arr v4145 1 c4146 :: Arr v4152 1 c4153 :: Arr (.slice (some ⟨b4158, 0, none⟩) (x2.length : Int).toNat (x2.length : Int).toNat) 1 c4685 :: hs)) ?_ ?_
          · refine R_nd <| nq (Q_move rfl) rfl rfl <| nq (Q_move rfl) rfl rfl ?_
            obtain ⟨x4903, hx4903, ho4902⟩ := bnd ho4902
            obtain ⟨b4904, o4905, hi4909, hc4907, ha4908⟩ := arr_at (hs := [Arr v4145 1 c4146]) (k := 0) (by decide) (H.okS (by simp)) rfl r4148 hx4903
            refine nq (Q_idx hi4909 Tryd.underlying46 ty4 rfl rfl) rfl rfl <| nq (v := .bool x4903) (Q_ld (show cellsAt _ _ _ [.bool x4903] from (show _ = [_] from hc4907) ▸ (ha4908 _ (Ok.subS (by simp) H.ok))) ty4 rfl (fun _ => rfl) rfl rfl) rfl rfl <| nq (Q_move rfl) rfl rfl ?_
            rcases Bool.eq_false_or_eq_true x4903 with hb | hb
            · rw [hb]
              replace ho4902 := itT hb ho4902
              refine gq (Q_move rfl) rfl rfl rfl <| gq (Q_move rfl) rfl rfl rfl ?_
              obtain ⟨x4910, hx4910, ho4902⟩ := bnd ho4902
              obtain ⟨b4911, o4912, hi4916, hc4914, ha4915⟩ := arr_at (hs := [Arr v4152 1 c4153]) (k := 0) (by decide) (H.okS (by simp)) rfl r4155 hx4910
              refine gq (Q_idx hi4916 Tryd.underlying46 ty4 rfl rfl) rfl rfl rfl <| gq (v := .bool x4910) (Q_ld (show cellsAt _ _ _ [.bool x4910] from (show _ = [_] from hc4914) ▸ (ha4915 _ (Ok.subS (by simp) H.ok))) ty4 rfl (fun _ => rfl) rfl rfl) rfl rfl rfl <| nq (Q_pickT rfl rfl) rfl rfl <| WL_nil ?_
              replace H := H.front 4 rfl
              dsimp only [List.eraseIdx] at H
              replace H := H.front 4 rfl
              dsimp only [List.eraseIdx] at H
              replace H := H.front 4 rfl
              dsimp only [List.eraseIdx] at H
              replace H := H.front 4 rfl
              dsimp only [List.eraseIdx] at H
              replace H := H.front 4 rfl
              dsimp only [List.eraseIdx] at H
              obtain rfl := Option.some.inj ho4902
              refine x_A fun a hf => ⟨x4910, rfl, hf.sub ⟨rfl, rfl, rfl, rfl, rfl, rfl, rfl, rfl, trivial⟩, H⟩
            · rw [hb]
              replace ho4902 := itF hb ho4902
              refine gs rfl rfl rfl rfl <| gs rfl rfl rfl rfl <| gs rfl rfl rfl rfl <| gs rfl rfl rfl rfl <| nq (Q_pickF rfl rfl) rfl rfl <| WL_nil ?_
              replace H := H.front 4 rfl
              dsimp only [List.eraseIdx] at H
              replace H := H.front 4 rfl
              dsimp only [List.eraseIdx] at H
              replace H := H.front 4 rfl
              dsimp only [List.eraseIdx] at H
              replace H := H.front 4 rfl
              dsimp only [List.eraseIdx] at H
              replace H := H.front 4 rfl
              dsimp only [List.eraseIdx] at H
              obtain rfl := Option.some.inj ho4902
              refine x_A fun a hf => ⟨false, rfl, hf.sub ⟨rfl, rfl, rfl, rfl, rfl, rfl, rfl, rfl, trivial⟩, H⟩
          · rintro a wd4917 ⟨x4901, rfl, hf, H⟩
            try dsimp only at ho4886
            refine CW.at hf ?_
            obtain ⟨o4933, ho4933, ho4886⟩ := bnd ho4886
            refine C_cutQ (fun a w' => ∃ (c4929 : (List Value)) (x4930 : (List Int)) (x4932 : Int), (x4930, x4932) = o4933 ∧ rdL (eI .i64) ρ x4930 c4929 ∧ Fr 113 a [(1, .pointer (some ⟨b4139, 0, none⟩)), (2, .pointer (some ⟨b4141, 0, none⟩)), (3, v4145), (4, v4152), (5, (.slice (some ⟨b4158, 0, none⟩) (x2.length : Int).toNat (x2.length : Int).toNat)), (6, .int .i64 x4932), (7, .int .i64 x4689)] ∧ Hp C w' ρ (Box b4139 [v1, v4, v7] :: Box b4141 [.slice none 0 0, .slice none 0 0, .slice none 0 0] :: Arr v4145 1 c4146 :: Arr v4152 1 c4153 :: Arr (.slice (some ⟨b4158, 0, none⟩) (x2.length : Int).toNat (x2.length : Int).toNat) 1 c4929 :: hs)) ?_ ?_
            · refine C_cond rfl (fun hb => ?_) (fun hb => ?_)
              · replace ho4933 := itT hb ho4933
                refine C_seq <| R_nd <| nq (Q_move rfl) rfl rfl <| nq (Q_move rfl) rfl rfl <| nq (Q_move rfl) rfl rfl ?_
                obtain ⟨x4934, hx4934, ho4933⟩ := bnd ho4933
                obtain ⟨b4935, o4936, hi4940, hc4938, ha4939⟩ := arr_at (hs := [Arr (.slice (some ⟨b4158, 0, none⟩) (x2.length : Int).toNat (x2.length : Int).toNat) 1 c4685]) (k := 0) (by decide) (H.okS (by simp)) rfl r4687 hx4934
                refine nq (Q_idx hi4940 Tryd.underlying23 ty3 rfl rfl) rfl rfl ?_
                obtain ⟨x4941, hx4941, ho4933⟩ := bnd ho4933
                obtain ⟨hs4942a, hs4942b, hs4942c⟩ := setI_some hx4941
                have r4943 : rdL (eI .i64) ρ x4941 (setC c4685 (x4689.toNat * 1 + 0) [.int .i64 x4688]) := hs4942c ▸ rdL.set r4687 hs4942b (rfl)
                refine ne (E_stA (k := 4) (j := 0) (c := [.int .i64 x4688]) H rfl ty3 hi4940 rfl rfl rfl rfl (one_cons rfl one_nil) (by decide)) rfl rfl ?_
                rintro _ wd4944 H
                dsimp only [List.set] at H
                refine WL_nil <| x_then <| R_nd <| nq (Q_move rfl) rfl rfl <| nq (Q_add rfl rfl) rfl rfl <| nq (Q_assign rfl) rfl rfl <| WL_nil ?_
                replace H := H.front 4 rfl
                dsimp only [List.eraseIdx] at H
                replace H := H.front 4 rfl
                dsimp only [List.eraseIdx] at H
                replace H := H.front 4 rfl
                dsimp only [List.eraseIdx] at H
                replace H := H.front 4 rfl
                dsimp only [List.eraseIdx] at H
                replace H := H.front 4 rfl
                dsimp only [List.eraseIdx] at H
                obtain rfl := Option.some.inj ho4933
                refine x_A fun a hf => ⟨(setC c4685 (x4689.toNat * 1 + 0) [.int .i64 x4688]), x4941, w64 (x4688 + 1), rfl, r4943, hf.sub ⟨rfl, rfl, rfl, rfl, rfl, rfl, rfl, trivial⟩, H⟩
              · replace ho4933 := itF hb ho4933
                refine C_skip ?_
                replace H := H.front 4 rfl
                dsimp only [List.eraseIdx] at H
                replace H := H.front 4 rfl
                dsimp only [List.eraseIdx] at H
                replace H := H.front 4 rfl
                dsimp only [List.eraseIdx] at H
                replace H := H.front 4 rfl
                dsimp only [List.eraseIdx] at H
                replace H := H.front 4 rfl
                dsimp only [List.eraseIdx] at H
                obtain rfl := Option.some.inj ho4933
                refine x_A fun a hf => ⟨c4685, x4686, x4688, rfl, r4687, hf.sub ⟨rfl, rfl, rfl, rfl, rfl, rfl, rfl, trivial⟩, H⟩
            · rintro a wd4945 ⟨c4929, x4930, x4932, rfl, r4931, hf, H⟩
              try dsimp only at ho4886
              refine XX.at hf <| x_block ?_
              replace H := H.front 4 rfl
              dsimp only [List.eraseIdx] at H
              replace H := H.front 4 rfl
              dsimp only [List.eraseIdx] at H
              replace H := H.front 4 rfl
              dsimp only [List.eraseIdx] at H
              replace H := H.front 4 rfl
              dsimp only [List.eraseIdx] at H
              replace H := H.front 4 rfl
              dsimp only [List.eraseIdx] at H
              obtain rfl := Option.some.inj ho4886
              refine x_A fun a hf => ⟨c4929, x4930, x4932, rfl, r4931, hf.sub ⟨rfl, rfl, rfl, rfl, rfl, rfl, rfl, trivial⟩, H⟩
        · rintro a wd4946 ⟨c4882, x4883, x4885, rfl, r4884, hf, H⟩
          try dsimp only at hB4820
          refine CW.at hf <| R_nd <| nq (Q_move rfl) rfl rfl <| nq (Q_add rfl rfl) rfl rfl <| nq (Q_assign rfl) rfl rfl <| WL_nil ?_
          replace H := H.front 4 rfl
          dsimp only [List.eraseIdx] at H
          replace H := H.front 4 rfl
          dsimp only [List.eraseIdx] at H
          replace H := H.front 4 rfl
          dsimp only [List.eraseIdx] at H
          replace H := H.front 4 rfl
          dsimp only [List.eraseIdx] at H
          replace H := H.front 4 rfl
          dsimp only [List.eraseIdx] at H
          obtain rfl := Option.some.inj hB4820
          refine x_A fun a hf => ⟨_, rfl, c4882, x4883, x4885, w64 (x4689 + 1), rfl, r4884, hf.sub ⟨rfl, rfl, rfl, rfl, rfl, rfl, rfl, trivial⟩, H⟩
      · replace hB4820 := itF hb hB4820
        refine C_exit <| x_then_exit <| x_then_exit <| x_block_exit ?_
        replace H := H.front 4 rfl
        dsimp only [List.eraseIdx] at H
        replace H := H.front 2 rfl
        dsimp only [List.eraseIdx] at H
        replace H := H.front 2 rfl
        dsimp only [List.eraseIdx] at H
        replace H := H.drop 3 rfl
        dsimp only [List.eraseIdx] at H
        replace H := H.drop 3 rfl
        dsimp only [List.eraseIdx] at H
        obtain rfl := Option.some.inj hB4820
        obtain rfl := hO4821 _ rfl
        refine x_A fun a hf => ⟨c4685, x4686, rfl, r4687, hf.sub ⟨rfl, rfl, rfl, trivial⟩, H⟩
  · rintro a wd4947 ⟨c4552, x4553, rfl, r4554, hf, H⟩
    try dsimp only at hF
    refine XX.at hf <| x_then <| C_seq <| R_nd <| nq (v := .agg #[.slice none 0 0, .slice none 0 0, .slice none 0 0]) (Q_buildS st29.choose_spec (ps := []) rfl trivial rfl) rfl rfl <| ne (E_alloc H ty29 (zs := [.slice none 0 0, .slice none 0 0, .slice none 0 0]) rfl) rfl rfl ?_
    rintro _ wd4949 ⟨b4948, rfl, H⟩
    refine ne (E_stB (k := 0) (cs := [.slice none 0 0, .slice none 0 0, .slice none 0 0]) (vs' := [.slice none 0 0, .slice none 0 0, .slice none 0 0]) H rfl ty29 rfl rfl rfl rfl (one_cons rfl (one_cons rfl (one_cons rfl one_nil))) (by simp) rfl) rfl rfl ?_
    rintro _ wd4950 H
    dsimp only [List.set] at H
    refine WL_nil <| x_then <| C_seq <| C_seq <| R_nd <| nq (v := .pointer (some ⟨b4139, 0, none⟩)) (Q_fld Tryd.underlying29 rfl ty27 (by decide) rfl rfl) rfl rfl <| nq (v := v1) (Q_ldB (k := 1) (cs := [v1]) H.ok rfl ty27 rfl rfl rfl (fun _ => rfl) rfl) rfl rfl <| nq (Q_len Tryd.underlying27 rfl r3) rfl rfl <| nq (Q_move rfl) rfl rfl <| WL_nil <| x_then ?_
    obtain ⟨o6394, ho6394, hF⟩ := bnd hF
    refine C_cutQ (fun a w' => ∃ (v6386 : Value) (c6387 : (List Value)) (v6390 : Value) (c6391 : (List Value)) (x6388 : (List (List Int))) (x6392 : (List Int)), (x6388, x6392) = o6394 ∧ rdL (eA 256 (eI .i64)) ρ x6388 c6387 ∧ rdL (eI .i64) ρ x6392 c6391 ∧ Fr 113 a [(1, .pointer (some ⟨b4139, 0, none⟩)), (2, .pointer (some ⟨b4141, 0, none⟩)), (5, (.slice (some ⟨b4158, 0, none⟩) (x2.length : Int).toNat (x2.length : Int).toNat)), (8, .pointer (some ⟨b4948, 0, none⟩))] ∧ Hp C w' ρ (Box b4139 [v1, v4, v7] :: Box b4141 [.slice none 0 0, .slice none 0 0, .slice none 0 0] :: Arr (.slice (some ⟨b4158, 0, none⟩) (x2.length : Int).toNat (x2.length : Int).toNat) 1 c4552 :: Box b4948 [v6386, v6390, .slice none 0 0] :: Arr v6386 256 c6387 :: Arr v6390 1 c6391 :: hs)) ?_ ?_
    · refine C_block ?_
      have H := H.nilArr 256
      have H := H.nilArr 1
      replace H := H.front 1 rfl
      dsimp only [List.eraseIdx] at H
      replace H := H.front 2 rfl
      dsimp only [List.eraseIdx] at H
      replace H := H.front 5 rfl
      dsimp only [List.eraseIdx] at H
      replace H := H.front 5 rfl
      dsimp only [List.eraseIdx] at H
      replace H := H.front 5 rfl
      dsimp only [List.eraseIdx] at H
      refine C_iter (f := fun s => F_dofferref18_Trim_l1 N x2 x5 x4553 s.1 s.2.1 s.2.2) ho6394 (fun s a w' => ∃ (v6873 : Value) (c6874 : (List Value)) (v6877 : Value) (c6878 : (List Value)) (x6872 : Int) (x6875 : (List (List Int))) (x6879 : (List Int)), (x6872, x6875, x6879) = s ∧ rdL (eA 256 (eI .i64)) ρ x6875 c6874 ∧ rdL (eI .i64) ρ x6879 c6878 ∧ Fr 113 a [(1, .pointer (some ⟨b4139, 0, none⟩)), (2, .pointer (some ⟨b4141, 0, none⟩)), (5, (.slice (some ⟨b4158, 0, none⟩) (x2.length : Int).toNat (x2.length : Int).toNat)), (8, .pointer (some ⟨b4948, 0, none⟩)), (49, v1), (50, .int .i64 (x2.length : Int)), (51, .int .i64 x6872)] ∧ Hp C w' ρ (Box b4139 [v1, v4, v7] :: Box b4141 [.slice none 0 0, .slice none 0 0, .slice none 0 0] :: Arr (.slice (some ⟨b4158, 0, none⟩) (x2.length : Int).toNat (x2.length : Int).toNat) 1 c4552 :: Box b4948 [v6873, v6877, .slice none 0 0] :: Arr v6873 256 c6874 :: Arr v6877 1 c6878 :: hs)) ?_ ?_
      · exact fun a hf => ⟨(.slice none 0 0), [], (.slice none 0 0), [], 0, [], [], rfl, rdL.nil, rdL.nil, hf.sub ⟨rfl, rfl, rfl, rfl, rfl, rfl, rfl, trivial⟩, H⟩
      · rintro s o7358 a wd7361 ⟨v6873, c6874, v6877, c6878, x6872, x6875, x6879, rfl, r6876, r6880, hf, H⟩ hB7359 hO7360
        replace hB7359 : F_dofferref18_Trim_l1 N x2 x5 x4553 x6872 x6875 x6879 = some o7358 := hB7359
        unfold F_dofferref18_Trim_l1 at hB7359
        refine CW.at hf <| C_seq <| R_nd <| nq (Q_lss rfl rfl) rfl rfl <| WL_nil <| x_then <| C_seq ?_
        refine C_cond rfl (fun hb => ?_) (fun hb => ?_)
        · replace hB7359 := itT hb hB7359
          refine C_skip <| x_then ?_
          obtain ⟨o7599, ho7599, hB7359⟩ := bnd hB7359
          refine C_cut (fun a w' => ∃ (v7591 : Value) (c7592 : (List Value)) (v7595 : Value) (c7596 : (List Value)) (x7593 : (List (List Int))) (x7597 : (List Int)), (x7593, x7597) = o7599 ∧ rdL (eA 256 (eI .i64)) ρ x7593 c7592 ∧ rdL (eI .i64) ρ x7597 c7596 ∧ Fr 113 a [(1, .pointer (some ⟨b4139, 0, none⟩)), (2, .pointer (some ⟨b4141, 0, none⟩)), (5, (.slice (some ⟨b4158, 0, none⟩) (x2.length : Int).toNat (x2.length : Int).toNat)), (8, .pointer (some ⟨b4948, 0, none⟩)), (49, v1), (50, .int .i64 (x2.length : Int)), (51, .int .i64 x6872)] ∧ Hp C w' ρ (Box b4139 [v1, v4, v7] :: Box b4141 [.slice none 0 0, .slice none 0 0, .slice none 0 0] :: Arr (.slice (some ⟨b4158, 0, none⟩) (x2.length : Int).toNat (x2.length : Int).toNat) 1 c4552 :: Box b4948 [v7591, v7595, .slice none 0 0] :: Arr v7591 256 c7592 :: Arr v7595 1 c7596 :: hs)) ?_ ?_
          · refine C_block <| C_seq <| R_nd <| nq (Q_move rfl) rfl rfl ?_
            obtain ⟨x7600, hx7600, ho7599⟩ := bnd ho7599
            obtain ⟨b7601, o7602, c7603, hc7604, ha7605, hi7606⟩ := idxR r3 hx7600
            refine nq (Q_idx hi7606 Tryd.underlying27 ty57 rfl rfl) rfl rfl <| nq (v := .agg c7603.toArray) (Q_ld (ha7605.up H.ok.view) ty57 ((eA 256 (eI .i64)).len hc7604) (fun h => nomatch h) rfl rfl) rfl rfl <| ne (E_allocA (N := 256) (n := 1) (zs := (repC 256 [.int .i64 0])) H ty57 rfl (by simp [repC_length])) rfl rfl ?_
            rintro _ wd7608 ⟨b7607, rfl, H⟩
            refine nq (Q_assign rfl) rfl rfl <| ne (E_stW (k := 0) H rfl ty57 rfl rfl (rdL.one hc7604.2) (arr_clen (rdL_rep (e:=(eI .i64)) (ρ:=ρ) (rfl) 256) List.length_replicate) (arr_clen hc7604.2 hc7604.1)) rfl rfl ?_
            rintro _ wd7609 H
            dsimp only [List.set] at H
            refine WL_nil <| x_then <| C_seq ?_
            obtain ⟨o7618, ho7618, ho7599⟩ := bnd ho7599
            refine C_cut (fun a w' => ∃ (x7617 : Bool), x7617 = o7618 ∧ Fr 113 a [(1, .pointer (some ⟨b4139, 0, none⟩)), (2, .pointer (some ⟨b4141, 0, none⟩)), (5, (.slice (some ⟨b4158, 0, none⟩) (x2.length : Int).toNat (x2.length : Int).toNat)), (8, .pointer (some ⟨b4948, 0, none⟩)), (9, .int .i64 x6872), (10, .pointer (some ⟨b7607, 0, none⟩)), (49, v1), (50, .int .i64 (x2.length : Int)), (51, .int .i64 x6872), (64, .bool x7617)] ∧ Hp C w' ρ (Box b4139 [v1, v4, v7] :: Arr (.slice (some ⟨b7607, 0, none⟩) 256 256) 1 c7603 :: Box b4141 [.slice none 0 0, .slice none 0 0, .slice none 0 0] :: Arr (.slice (some ⟨b4158, 0, none⟩) (x2.length : Int).toNat (x2.length : Int).toNat) 1 c4552 :: Box b4948 [v6873, v6877, .slice none 0 0] :: Arr v6873 256 c6874 :: Arr v6877 1 c6878 :: hs)) ?_ ?_
            · refine R_nd <| nq (Q_move rfl) rfl rfl <| nq (Q_gtr rfl rfl) rfl rfl <| nq (Q_move rfl) rfl rfl ?_
              rcases Bool.eq_false_or_eq_true (decide (x6872 > 0)) with hb | hb
              · rw [hb]
                replace ho7618 := itT hb ho7618
                refine gq (Q_move rfl) rfl rfl rfl <| gq (Q_move rfl) rfl rfl rfl ?_
                obtain ⟨x7619, hx7619, ho7618⟩ := bnd ho7618
                obtain ⟨b7620, o7621, hi7625, hc7623, ha7624⟩ := arr_at (hs := [Arr (.slice (some ⟨b4158, 0, none⟩) (x2.length : Int).toNat (x2.length : Int).toNat) 1 c4552]) (k := 0) (by decide) (H.okS (by simp)) rfl r4554 hx7619
                refine gq (Q_idx hi7625 Tryd.underlying23 ty3 rfl rfl) rfl rfl rfl <| gq (v := .int .i64 x7619) (Q_ld (show cellsAt _ _ _ [.int .i64 x7619] from (show _ = [_] from hc7623) ▸ (ha7624 _ (Ok.subS (by simp) H.ok))) ty3 rfl (fun _ => rfl) rfl rfl) rfl rfl rfl <| gq (Q_eql rfl rfl) rfl rfl rfl <| nq (Q_pickT rfl rfl) rfl rfl <| WL_nil ?_
                replace H := H.front 6 rfl
                dsimp only [List.eraseIdx] at H
                replace H := H.front 6 rfl
                dsimp only [List.eraseIdx] at H
                replace H := H.front 6 rfl
                dsimp only [List.eraseIdx] at H
                replace H := H.front 6 rfl
                dsimp only [List.eraseIdx] at H
                replace H := H.front 6 rfl
                dsimp only [List.eraseIdx] at H
                replace H := H.front 5 rfl
                dsimp only [List.eraseIdx] at H
                replace H := H.front 6 rfl
                dsimp only [List.eraseIdx] at H
                obtain rfl := Option.some.inj ho7618
                refine x_A fun a hf => ⟨x7619 == 0, rfl, hf.sub ⟨rfl, rfl, rfl, rfl, rfl, rfl, rfl, rfl, rfl, rfl, trivial⟩, H⟩
              · rw [hb]
                replace ho7618 := itF hb ho7618
                refine gs rfl rfl rfl rfl <| gs rfl rfl rfl rfl <| gs rfl rfl rfl rfl <| gs rfl rfl rfl rfl <| gs rfl rfl rfl rfl <| nq (Q_pickF rfl rfl) rfl rfl <| WL_nil ?_
                replace H := H.front 6 rfl
                dsimp only [List.eraseIdx] at H
                replace H := H.front 6 rfl
                dsimp only [List.eraseIdx] at H
                replace H := H.front 6 rfl
                dsimp only [List.eraseIdx] at H
                replace H := H.front 6 rfl
                dsimp only [List.eraseIdx] at H
                replace H := H.front 6 rfl
                dsimp only [List.eraseIdx] at H
                replace H := H.front 5 rfl
                dsimp only [List.eraseIdx] at H
                replace H := H.front 6 rfl
                dsimp only [List.eraseIdx] at H
                obtain rfl := Option.some.inj ho7618
                refine x_A fun a hf => ⟨false, rfl, hf.sub ⟨rfl, rfl, rfl, rfl, rfl, rfl, rfl, rfl, rfl, rfl, trivial⟩, H⟩
            · rintro a wd7626 ⟨x7617, rfl, hf, H⟩
              try dsimp only at ho7599
              refine CW.at hf ?_
              refine C_cond rfl (fun hb => ?_) (fun hb => ?_)
              · replace ho7599 := itT hb ho7599
                refine C_exit <| x_then_exit <| x_block_exit ?_
                replace H := H.front 6 rfl
                dsimp only [List.eraseIdx] at H
                replace H := H.front 6 rfl
                dsimp only [List.eraseIdx] at H
                replace H := H.front 6 rfl
                dsimp only [List.eraseIdx] at H
                replace H := H.front 6 rfl
                dsimp only [List.eraseIdx] at H
                replace H := H.front 6 rfl
                dsimp only [List.eraseIdx] at H
                replace H := H.front 5 rfl
                dsimp only [List.eraseIdx] at H
                replace H := H.drop 6 rfl
                dsimp only [List.eraseIdx] at H
                obtain rfl := Option.some.inj ho7599
                refine x_A fun a hf => ⟨v6873, c6874, v6877, c6878, x6875, x6879, rfl, r6876, r6880, hf.sub ⟨rfl, rfl, rfl, rfl, rfl, rfl, rfl, trivial⟩, H⟩
              · replace ho7599 := itF hb ho7599
                refine C_skip <| x_then <| C_seq <| R_nd <| nq (v := .agg (repC 256 [.int .i64 0]).toArray) (Q_build0 (zs := (repC 256 [.int .i64 0])) ty57 Tryd.underlying57 ty3 rfl) rfl rfl <| ne (E_allocA (N := 256) (n := 1) (zs := (repC 256 [.int .i64 0])) H ty57 rfl (by simp [repC_length])) rfl rfl ?_
                rintro _ wd7628 ⟨b7627, rfl, H⟩
                refine ne (E_stW (k := 0) H rfl ty57 rfl rfl (rdL.one (rdL_rep (e:=(eI .i64)) (ρ:=ρ) (rfl) 256)) (arr_clen (rdL_rep (e:=(eI .i64)) (ρ:=ρ) (rfl) 256) List.length_replicate) (arr_clen (rdL_rep (e:=(eI .i64)) (ρ:=ρ) (rfl) 256) List.length_replicate)) rfl rfl ?_
                rintro _ wd7629 H
                dsimp only [List.set] at H
                refine WL_nil <| x_then <| C_seq <| C_seq <| R_nd <| nq (Q_ldW (k := 2) H.ok rfl ty57 rfl (arr_clen hc7604.2 hc7604.1)) rfl rfl <| nq (Q_move rfl) rfl rfl <| WL_nil <| x_then ?_
                obtain ⟨o7698, ho7698, ho7599⟩ := bnd ho7599
                refine C_cutQ (fun a w' => ∃ (c7694 : (List Value)) (x7695 : (List Int)), x7695 = o7698 ∧ rdL (eI .i64) ρ x7695 c7694 ∧ x7695.length = 256 ∧ Fr 113 a [(1, .pointer (some ⟨b4139, 0, none⟩)), (2, .pointer (some ⟨b4141, 0, none⟩)), (5, (.slice (some ⟨b4158, 0, none⟩) (x2.length : Int).toNat (x2.length : Int).toNat)), (8, .pointer (some ⟨b4948, 0, none⟩)), (9, .int .i64 x6872), (11, .pointer (some ⟨b7627, 0, none⟩)), (49, v1), (50, .int .i64 (x2.length : Int)), (51, .int .i64 x6872)] ∧ Hp C w' ρ (Box b4139 [v1, v4, v7] :: Arr (.slice (some ⟨b7627, 0, none⟩) 256 256) 1 c7694 :: Box b4141 [.slice none 0 0, .slice none 0 0, .slice none 0 0] :: Arr (.slice (some ⟨b4158, 0, none⟩) (x2.length : Int).toNat (x2.length : Int).toNat) 1 c4552 :: Box b4948 [v6873, v6877, .slice none 0 0] :: Arr v6873 256 c6874 :: Arr v6877 1 c6878 :: hs)) ?_ ?_
                · refine C_block ?_
                  replace H := H.front 7 rfl
                  dsimp only [List.eraseIdx] at H
                  replace H := H.front 7 rfl
                  dsimp only [List.eraseIdx] at H
                  replace H := H.front 7 rfl
                  dsimp only [List.eraseIdx] at H
                  replace H := H.front 7 rfl
                  dsimp only [List.eraseIdx] at H
                  replace H := H.front 7 rfl
                  dsimp only [List.eraseIdx] at H
                  replace H := H.front 5 rfl
                  dsimp only [List.eraseIdx] at H
                  replace H := H.front 6 rfl
                  dsimp only [List.eraseIdx] at H
                  replace H := H.drop 7 rfl
                  dsimp only [List.eraseIdx] at H
                  refine C_iter (f := fun s => F_dofferref18_Trim_l2 N x4553 x7600 s.1 s.2) ho7698 (fun s a w' => ∃ (c7719 : (List Value)) (x7720 : (List Int)) (x7723 : Int), (x7720, x7723) = s ∧ rdL (eI .i64) ρ x7720 c7719 ∧ x7720.length = 256 ∧ Fr 113 a [(1, .pointer (some ⟨b4139, 0, none⟩)), (2, .pointer (some ⟨b4141, 0, none⟩)), (5, (.slice (some ⟨b4158, 0, none⟩) (x2.length : Int).toNat (x2.length : Int).toNat)), (8, .pointer (some ⟨b4948, 0, none⟩)), (9, .int .i64 x6872), (11, .pointer (some ⟨b7627, 0, none⟩)), (49, v1), (50, .int .i64 (x2.length : Int)), (51, .int .i64 x6872), (66, .agg c7603.toArray), (67, .int .i64 x7723)] ∧ Hp C w' ρ (Box b4139 [v1, v4, v7] :: Arr (.slice (some ⟨b7627, 0, none⟩) 256 256) 1 c7719 :: Box b4141 [.slice none 0 0, .slice none 0 0, .slice none 0 0] :: Arr (.slice (some ⟨b4158, 0, none⟩) (x2.length : Int).toNat (x2.length : Int).toNat) 1 c4552 :: Box b4948 [v6873, v6877, .slice none 0 0] :: Arr v6873 256 c6874 :: Arr v6877 1 c6878 :: hs)) ?_ ?_
                  · exact fun a hf => ⟨(repC 256 [.int .i64 0]), (List.replicate 256 0), 0, rfl, (rdL_rep (e:=(eI .i64)) (ρ:=ρ) (rfl) 256), List.length_replicate, hf.sub ⟨rfl, rfl, rfl, rfl, rfl, rfl, rfl, rfl, rfl, rfl, rfl, trivial⟩, H⟩
                  · rintro s o7744 a wd7747 ⟨c7719, x7720, x7723, rfl, r7721, lp7722, hf, H⟩ hB7745 hO7746
                    replace hB7745 : F_dofferref18_Trim_l2 N x4553 x7600 x7720 x7723 = some o7744 := hB7745
                    unfold F_dofferref18_Trim_l2 at hB7745
                    refine CW.at hf <| C_seq <| R_nd <| nq (Q_lss rfl rfl) rfl rfl <| WL_nil <| x_then <| C_seq ?_
                    refine C_cond rfl (fun hb => ?_) (fun hb => ?_)
                    · replace hB7745 := itT hb hB7745
                      refine C_skip <| x_then <| C_seq <| C_block <| C_seq <| R_nd <| nq (Q_move rfl) rfl rfl ?_
                      obtain ⟨x7748, hx7748, hB7745⟩ := bnd hB7745
                      refine nq (Q_ixI hc7604.2 hc7604.1 hx7748 Tryd.underlying57 rfl rfl ty3 rfl) rfl rfl <| nq (Q_assign rfl) rfl rfl <| nq (Q_assign rfl) rfl rfl <| WL_nil <| x_then <| R_nd <| nq (Q_move rfl) rfl rfl <| nq (Q_move rfl) rfl rfl <| nq (Q_move rfl) rfl rfl ?_
                      obtain ⟨x7749, hx7749, hB7745⟩ := bnd hB7745
                      obtain ⟨b7750, o7751, hi7755, hc7753, ha7754⟩ := arr_at (hs := [Arr (.slice (some ⟨b4158, 0, none⟩) (x2.length : Int).toNat (x2.length : Int).toNat) 1 c4552]) (k := 0) (by decide) (H.okS (by simp)) rfl r4554 hx7749
                      refine nq (Q_idx hi7755 Tryd.underlying23 ty3 rfl rfl) rfl rfl <| nq (v := .int .i64 x7749) (Q_ld (show cellsAt _ _ _ [.int .i64 x7749] from (show _ = [_] from hc7753) ▸ (ha7754 _ (Ok.subS (by simp) H.ok))) ty3 rfl (fun _ => rfl) rfl rfl) rfl rfl ?_
                      obtain ⟨x7756, hx7756, hB7745⟩ := bnd hB7745
                      have hn7758 := idx_lt (N := 256) (lp7722) hx7756
                      have hi7757 : IdxOk (.slice (some ⟨b7627, 0, none⟩) 256 256) x7723 1 b7627 (0 + x7723.toNat * 1) := ⟨0, 256, 256, rfl, hn7758.1, hn7758.2, rfl⟩
                      refine nq (Q_idxA hn7758.1 hn7758.2 Tryd.underlying57 ty3 rfl rfl) rfl rfl ?_
                      obtain ⟨x7759, hx7759, hB7745⟩ := bnd hB7745
                      obtain ⟨hs7760a, hs7760b, hs7760c⟩ := setI_some hx7759
                      have r7761 : rdL (eI .i64) ρ x7759 (setC c7719 (x7723.toNat * 1 + 0) [.int .i64 x7749]) := hs7760c ▸ rdL.set r7721 hs7760b (rfl)
                      refine ne (E_stA (k := 1) (j := 0) (c := [.int .i64 x7749]) H rfl ty3 hi7757 rfl rfl rfl rfl (one_cons rfl one_nil) (by decide)) rfl rfl ?_
                      rintro _ wd7762 H
                      dsimp only [List.set] at H
                      refine WL_nil <| x_block <| x_then <| R_nd <| nq (Q_add rfl rfl) rfl rfl <| nq (Q_move rfl) rfl rfl <| WL_nil ?_
                      replace H := H.front 6 rfl
                      dsimp only [List.eraseIdx] at H
                      replace H := H.front 6 rfl
                      dsimp only [List.eraseIdx] at H
                      replace H := H.front 6 rfl
                      dsimp only [List.eraseIdx] at H
                      replace H := H.front 6 rfl
                      dsimp only [List.eraseIdx] at H
                      replace H := H.front 6 rfl
                      dsimp only [List.eraseIdx] at H
                      replace H := H.front 6 rfl
                      dsimp only [List.eraseIdx] at H
                      replace H := H.front 6 rfl
                      dsimp only [List.eraseIdx] at H
                      obtain rfl := Option.some.inj hB7745
                      refine x_A fun a hf => ⟨_, rfl, (setC c7719 (x7723.toNat * 1 + 0) [.int .i64 x7749]), x7759, w64 (x7723 + 1), rfl, r7761, (setI_len hx7759 lp7722), hf.sub ⟨rfl, rfl, rfl, rfl, rfl, rfl, rfl, rfl, rfl, rfl, rfl, trivial⟩, H⟩
                    · replace hB7745 := itF hb hB7745
                      refine C_exit <| x_then_exit <| x_then_exit <| x_block_exit ?_
                      replace H := H.front 6 rfl
                      dsimp only [List.eraseIdx] at H
                      replace H := H.front 6 rfl
                      dsimp only [List.eraseIdx] at H
                      replace H := H.front 6 rfl
                      dsimp only [List.eraseIdx] at H
                      replace H := H.front 6 rfl
                      dsimp only [List.eraseIdx] at H
                      replace H := H.front 6 rfl
                      dsimp only [List.eraseIdx] at H
                      replace H := H.front 6 rfl
                      dsimp only [List.eraseIdx] at H
                      replace H := H.front 6 rfl
                      dsimp only [List.eraseIdx] at H
                      obtain rfl := Option.some.inj hB7745
                      obtain rfl := hO7746 _ rfl
                      refine x_A fun a hf => ⟨c7719, x7720, rfl, r7721, lp7722, hf.sub ⟨rfl, rfl, rfl, rfl, rfl, rfl, rfl, rfl, rfl, trivial⟩, H⟩
                · rintro a wd7763 ⟨c7694, x7695, rfl, r7696, lp7697, hf, H⟩
                  try dsimp only at ho7599
                  refine XX.at hf <| x_then <| C_seq <| R_nd <| nq (v := .pointer (some ⟨b4948, 0, none⟩)) (Q_fld Tryd.underlying29 rfl ty27 (by decide) rfl rfl) rfl rfl <| nq (v := v6873) (Q_ldB (k := 4) (cs := [v6873]) H.ok rfl ty27 rfl rfl rfl (fun _ => rfl) rfl) rfl rfl <| nq (Q_ldW (k := 1) H.ok rfl ty57 rfl (arr_clen r7696 lp7697)) rfl rfl <| ne (E_bslice (xs := [.tmp 80]) (vs := [.agg c7694.toArray]) H Tryd.underlying27 ty57 (by decide) (cs := c7694) rfl (sz_cons (arr_clen r7696 lp7697) sz_nil) (by simp [Value.cells]) (by simp) (by simp) rfl rfl) rfl rfl ?_
                  rintro _ wd7765 ⟨b7764, rfl, H⟩
                  obtain ⟨x7766, hx7766, ho7599⟩ := bnd ho7599
                  obtain ⟨ha7767a, ha7767b⟩ := app_some hx7766
                  have r7769 : rdL (eA 256 (eI .i64)) ρ x7766 (c6874 ++ c7694) := ha7767b ▸ rdL.app r6876 (show rdL (eA 256 (eI .i64)) ρ ([x7695]) c7694 from rdL.single ⟨lp7697, r7696⟩)
                  refine ne (E_append (k := 6) H rfl Tryd.underlying27 ty57 rfl (by decide) (by decide) rfl rfl (Src.ofArr (k := 0) H.ok rfl) (rdL.one (show rdL (eA 256 (eI .i64)) ρ ([x7695]) c7694 from rdL.single ⟨lp7697, r7696⟩)) (app_fit r6876 (show rdL (eA 256 (eI .i64)) ρ ([x7695]) c7694 from rdL.single ⟨lp7697, r7696⟩) ha7767a)) rfl rfl ?_
                  rintro v7768 wd7771 ⟨H, hc7770⟩
                  dsimp only [List.set] at H
                  refine nq (v := .pointer (some ⟨b4948, 0, none⟩)) (Q_fld Tryd.underlying29 rfl ty27 (by decide) rfl rfl) rfl rfl <| ne (E_stB (k := 5) (cs := [v7768]) (vs' := [v7768, v6877, .slice none 0 0]) H rfl ty27 rfl rfl (arr_cells (H.ok.get (k := 6) rfl)).1 rfl (one_cons (arr_cells (H.ok.get (k := 6) rfl)).2 one_nil) (by simp) rfl) rfl rfl ?_
                  rintro _ wd7772 H
                  dsimp only [List.set] at H
                  refine WL_nil <| x_then ?_
                  obtain ⟨o7802, ho7802, ho7599⟩ := bnd ho7599
                  refine C_cutQ (fun a w' => ∃ (v7798 : Value) (c7799 : (List Value)) (x7800 : (List Int)), x7800 = o7802 ∧ rdL (eI .i64) ρ x7800 c7799 ∧ Fr 113 a [(1, .pointer (some ⟨b4139, 0, none⟩)), (2, .pointer (some ⟨b4141, 0, none⟩)), (5, (.slice (some ⟨b4158, 0, none⟩) (x2.length : Int).toNat (x2.length : Int).toNat)), (8, .pointer (some ⟨b4948, 0, none⟩)), (49, v1), (50, .int .i64 (x2.length : Int)), (51, .int .i64 x6872)] ∧ Hp C w' ρ (Box b4139 [v1, v4, v7] :: Box b4141 [.slice none 0 0, .slice none 0 0, .slice none 0 0] :: Arr (.slice (some ⟨b4158, 0, none⟩) (x2.length : Int).toNat (x2.length : Int).toNat) 1 c4552 :: Box b4948 [v7768, v7798, .slice none 0 0] :: Arr v7768 256 (c6874 ++ c7694) :: Arr v7798 1 c7799 :: hs)) ?_ ?_
                  · refine R_dr (.take 0 (.take 2 (.take 3 (.take 4 (.take 5 (.take 6 (.two 1 7 (.one 7 (.one 8 (.take 9 (.one 10 .done)))) (.one 1 (.one 8 (.take 9 (.one 10 .done))))))))))) (fun w' => Ok w' ρ [Arr (.slice (some ⟨b7764, 0, none⟩) 1 1) 256 c7694, Box b4139 [v1, v4, v7], Arr (.slice (some ⟨b7627, 0, none⟩) 256 256) 1 c7694, Box b4141 [.slice none 0 0, .slice none 0 0, .slice none 0 0], Arr (.slice (some ⟨b4158, 0, none⟩) (x2.length : Int).toNat (x2.length : Int).toNat) 1 c4552, Arr v7768 256 (c6874 ++ c7694)]) (by kernel_rfl) (by kernel_rfl) (by kernel_rfl) (H.drew.okS (by simp)) ?_
                    replace H := H.drew
                    refine dq (v := .pointer (some ⟨b4948, 1, none⟩)) rfl (fun _ _ => Q_fld Tryd.underlying29 rfl ty23 (by decide) rfl rfl) rfl rfl <| dq (v := .pointer (some ⟨b4139, 1, none⟩)) rfl (fun _ _ => Q_fld Tryd.underlying29 rfl ty23 (by decide) rfl rfl) rfl rfl <| dq (v := v4) rfl (fun _ hw => Q_ldB (k := 1) (cs := [v4]) hw rfl ty23 rfl rfl rfl (fun _ => rfl) rfl) rfl rfl <| dq rfl (fun _ _ => Q_move rfl) rfl rfl ?_
                    obtain ⟨x7803, hx7803, ho7802⟩ := bnd ho7802
                    obtain ⟨b7804, o7805, c7806, hc7807, ha7808, hi7809⟩ := idxR r6 hx7803
                    refine dq rfl (fun _ _ => Q_idx hi7809 Tryd.underlying23 ty3 rfl rfl) rfl rfl <| dq (v := .int .i64 x7803) rfl (fun _ hw => Q_ld (show cellsAt _ _ _ [.int .i64 x7803] from (show _ = [_] from hc7807) ▸ (ha7808.up hw.view)) ty3 rfl (fun _ => rfl) rfl rfl) rfl rfl ?_
                    refine d2 ?_ ?_
                    · refine de rfl (Eff.quiet (v := v6877) (Q_ldB (k := 5) (cs := [v6877]) H.ok rfl ty23 rfl rfl rfl (fun _ => rfl) rfl)) rfl rfl ?_
                      rintro _ _ ⟨rfl, rfl⟩
                      refine ⟨H.okS (by simp), ?_⟩
                      refine d1 (de rfl (E_bslice (xs := [.tmp 90]) (vs := [.int .i64 x7803]) H Tryd.underlying23 ty3 (by decide) (cs := [.int .i64 x7803]) rfl (sz_cons rfl sz_nil) rfl (by simp) (by simp) rfl rfl) rfl rfl ?_)
                      rintro _ wd7811 ⟨b7810, rfl, H⟩
                      refine ⟨H.okS (by simp), ?_⟩
                      obtain ⟨x7812, hx7812, ho7802⟩ := bnd ho7802
                      obtain ⟨ha7813a, ha7813b⟩ := app_some hx7812
                      have r7815 : rdL (eI .i64) ρ x7812 (c6878 ++ ([.int .i64 x7803])) := ha7813b ▸ rdL.app r6880 (show rdL (eI .i64) ρ ([x7803]) ([.int .i64 x7803]) from ⟨([.int .i64 x7803]), _, rfl, rfl, rdL.nil⟩)
                      refine d1 (de rfl (E_append (k := 8) H rfl Tryd.underlying23 ty3 rfl (by decide) (by decide) rfl rfl (Src.ofArr (k := 0) H.ok rfl) (rdL.one (show rdL (eI .i64) ρ ([x7803]) ([.int .i64 x7803]) from ⟨([.int .i64 x7803]), _, rfl, rfl, rdL.nil⟩)) (app_fit r6880 (show rdL (eI .i64) ρ ([x7803]) ([.int .i64 x7803]) from ⟨([.int .i64 x7803]), _, rfl, rfl, rdL.nil⟩) ha7813a)) rfl rfl ?_)
                      rintro v7814 wd7817 ⟨H, hc7816⟩
                      dsimp only [List.set] at H
                      refine ⟨H.okS (by simp), ?_⟩
                      refine dq (v := .pointer (some ⟨b4948, 1, none⟩)) rfl (fun _ _ => Q_fld Tryd.underlying29 rfl ty23 (by decide) rfl rfl) rfl rfl ?_
                      refine d1 (de rfl (E_stB (k := 6) (cs := [v7814]) (vs' := [v7768, v7814, .slice none 0 0]) H rfl ty23 rfl rfl (arr_cells (H.ok.get (k := 8) rfl)).1 rfl (one_cons (arr_cells (H.ok.get (k := 8) rfl)).2 one_nil) (by simp) rfl) rfl rfl ?_)
                      rintro _ wd7818 H
                      dsimp only [List.set] at H
                      refine ⟨H.okS (by simp), ?_⟩
                      refine DL_nil ?_
                      replace H := H.front 8 rfl
                      dsimp only [List.eraseIdx] at H
                      replace H := H.front 8 rfl
                      dsimp only [List.eraseIdx] at H
                      replace H := H.front 8 rfl
                      dsimp only [List.eraseIdx] at H
                      replace H := H.front 8 rfl
                      dsimp only [List.eraseIdx] at H
                      replace H := H.front 8 rfl
                      dsimp only [List.eraseIdx] at H
                      replace H := H.front 7 rfl
                      dsimp only [List.eraseIdx] at H
                      replace H := H.drop 6 rfl
                      dsimp only [List.eraseIdx] at H
                      replace H := H.drop 6 rfl
                      dsimp only [List.eraseIdx] at H
                      replace H := H.drop 6 rfl
                      dsimp only [List.eraseIdx] at H
                      obtain rfl := Option.some.inj ho7802
                      refine x_A fun a hf => ⟨v7814, (c6878 ++ ([.int .i64 x7803])), x7812, rfl, r7815, hf.sub ⟨rfl, rfl, rfl, rfl, rfl, rfl, rfl, trivial⟩, H⟩
                    · refine de rfl (E_bslice (xs := [.tmp 90]) (vs := [.int .i64 x7803]) H Tryd.underlying23 ty3 (by decide) (cs := [.int .i64 x7803]) rfl (sz_cons rfl sz_nil) rfl (by simp) (by simp) rfl rfl) rfl rfl ?_
                      rintro _ wd7820 ⟨b7819, rfl, H⟩
                      refine ⟨H.okS (by simp), ?_⟩
                      refine d1 (de rfl (Eff.quiet (v := v6877) (Q_ldB (k := 6) (cs := [v6877]) H.ok rfl ty23 rfl rfl rfl (fun _ => rfl) rfl)) rfl rfl ?_)
                      rintro _ _ ⟨rfl, rfl⟩
                      refine ⟨H.okS (by simp), ?_⟩
                      obtain ⟨x7821, hx7821, ho7802⟩ := bnd ho7802
                      obtain ⟨ha7822a, ha7822b⟩ := app_some hx7821
                      have r7824 : rdL (eI .i64) ρ x7821 (c6878 ++ ([.int .i64 x7803])) := ha7822b ▸ rdL.app r6880 (show rdL (eI .i64) ρ ([x7803]) ([.int .i64 x7803]) from ⟨([.int .i64 x7803]), _, rfl, rfl, rdL.nil⟩)
                      refine d1 (de rfl (E_append (k := 8) H rfl Tryd.underlying23 ty3 rfl (by decide) (by decide) rfl rfl (Src.ofArr (k := 0) H.ok rfl) (rdL.one (show rdL (eI .i64) ρ ([x7803]) ([.int .i64 x7803]) from ⟨([.int .i64 x7803]), _, rfl, rfl, rdL.nil⟩)) (app_fit r6880 (show rdL (eI .i64) ρ ([x7803]) ([.int .i64 x7803]) from ⟨([.int .i64 x7803]), _, rfl, rfl, rdL.nil⟩) ha7822a)) rfl rfl ?_)
                      rintro v7823 wd7826 ⟨H, hc7825⟩
                      dsimp only [List.set] at H
                      refine ⟨H.okS (by simp), ?_⟩
                      refine dq (v := .pointer (some ⟨b4948, 1, none⟩)) rfl (fun _ _ => Q_fld Tryd.underlying29 rfl ty23 (by decide) rfl rfl) rfl rfl ?_
                      refine d1 (de rfl (E_stB (k := 6) (cs := [v7823]) (vs' := [v7768, v7823, .slice none 0 0]) H rfl ty23 rfl rfl (arr_cells (H.ok.get (k := 8) rfl)).1 rfl (one_cons (arr_cells (H.ok.get (k := 8) rfl)).2 one_nil) (by simp) rfl) rfl rfl ?_)
                      rintro _ wd7827 H
                      dsimp only [List.set] at H
                      refine ⟨H.okS (by simp), ?_⟩
                      refine DL_nil ?_
                      replace H := H.front 8 rfl
                      dsimp only [List.eraseIdx] at H
                      replace H := H.front 8 rfl
                      dsimp only [List.eraseIdx] at H
                      replace H := H.front 8 rfl
                      dsimp only [List.eraseIdx] at H
                      replace H := H.front 8 rfl
                      dsimp only [List.eraseIdx] at H
                      replace H := H.front 8 rfl
                      dsimp only [List.eraseIdx] at H
                      replace H := H.front 7 rfl
                      dsimp only [List.eraseIdx] at H
                      replace H := H.drop 6 rfl
                      dsimp only [List.eraseIdx] at H
                      replace H := H.drop 6 rfl
                      dsimp only [List.eraseIdx] at H
                      replace H := H.drop 6 rfl
                      dsimp only [List.eraseIdx] at H
                      obtain rfl := Option.some.inj ho7802
                      refine x_A fun a hf => ⟨v7823, (c6878 ++ ([.int .i64 x7803])), x7821, rfl, r7824, hf.sub ⟨rfl, rfl, rfl, rfl, rfl, rfl, rfl, trivial⟩, H⟩
                  · rintro a wd7828 ⟨v7798, c7799, x7800, rfl, r7801, hf, H⟩
                    try dsimp only at ho7599
                    refine XX.at hf <| x_block ?_
                    replace H := H.front 5 rfl
                    dsimp only [List.eraseIdx] at H
                    replace H := H.front 5 rfl
                    dsimp only [List.eraseIdx] at H
                    replace H := H.front 5 rfl
                    dsimp only [List.eraseIdx] at H
                    replace H := H.front 5 rfl
                    dsimp only [List.eraseIdx] at H
                    replace H := H.front 5 rfl
                    dsimp only [List.eraseIdx] at H
                    replace H := H.front 5 rfl
                    dsimp only [List.eraseIdx] at H
                    obtain rfl := Option.some.inj ho7599
                    refine x_A fun a hf => ⟨v7768, (c6874 ++ c7694), v7798, c7799, x7766, x7800, rfl, r7769, r7801, hf.sub ⟨rfl, rfl, rfl, rfl, rfl, rfl, rfl, trivial⟩, H⟩
          · rintro a wd7829 ⟨v7591, c7592, v7595, c7596, x7593, x7597, rfl, r7594, r7598, hf, H⟩
            try dsimp only at hB7359
            refine CW.at hf <| R_nd <| nq (Q_add rfl rfl) rfl rfl <| nq (Q_move rfl) rfl rfl <| WL_nil ?_
            replace H := H.front 5 rfl
            dsimp only [List.eraseIdx] at H
            replace H := H.front 5 rfl
            dsimp only [List.eraseIdx] at H
            replace H := H.front 5 rfl
            dsimp only [List.eraseIdx] at H
            replace H := H.front 5 rfl
            dsimp only [List.eraseIdx] at H
            replace H := H.front 5 rfl
            dsimp only [List.eraseIdx] at H
            replace H := H.front 5 rfl
            dsimp only [List.eraseIdx] at H
            obtain rfl := Option.some.inj hB7359
            refine x_A fun a hf => ⟨_, rfl, v7591, c7592, v7595, c7596, w64 (x6872 + 1), x7593, x7597, rfl, r7594, r7598, hf.sub ⟨rfl, rfl, rfl, rfl, rfl, rfl, rfl, trivial⟩, H⟩
        · replace hB7359 := itF hb hB7359
          refine C_exit <| x_then_exit <| x_then_exit <| x_block_exit ?_
          replace H := H.front 5 rfl
          dsimp only [List.eraseIdx] at H
          replace H := H.front 5 rfl
          dsimp only [List.eraseIdx] at H
          replace H := H.front 5 rfl
          dsimp only [List.eraseIdx] at H
          replace H := H.front 5 rfl
          dsimp only [List.eraseIdx] at H
          replace H := H.front 5 rfl
          dsimp only [List.eraseIdx] at H
          replace H := H.front 5 rfl
          dsimp only [List.eraseIdx] at H
          obtain rfl := Option.some.inj hB7359
          obtain rfl := hO7360 _ rfl
          refine x_A fun a hf => ⟨v6873, c6874, v6877, c6878, x6875, x6879, rfl, r6876, r6880, hf.sub ⟨rfl, rfl, rfl, rfl, trivial⟩, H⟩
    · rintro a wd7830 ⟨v6386, c6387, v6390, c6391, x6388, x6392, rfl, r6389, r6393, hf, H⟩
      try dsimp only at hF
      refine XX.at hf <| x_then <| C_seq <| C_seq <| R_nd <| nq (v := .pointer (some ⟨b4139, 2, none⟩)) (Q_fld Tryd.underlying29 rfl ty23 (by decide) rfl rfl) rfl rfl <| nq (v := v7) (Q_ldB (k := 0) (cs := [v7]) H.ok rfl ty23 rfl rfl rfl (fun _ => rfl) rfl) rfl rfl <| nq (Q_len Tryd.underlying23 rfl r9) rfl rfl <| nq (Q_move rfl) rfl rfl <| WL_nil <| x_then ?_
      obtain ⟨o8043, ho8043, hF⟩ := bnd hF
      refine C_cutQ (fun a w' => ∃ (v8039 : Value) (c8040 : (List Value)) (x8041 : (List Int)), x8041 = o8043 ∧ rdL (eI .i64) ρ x8041 c8040 ∧ Fr 113 a [(2, .pointer (some ⟨b4141, 0, none⟩)), (8, .pointer (some ⟨b4948, 0, none⟩))] ∧ Hp C w' ρ (Box b4141 [.slice none 0 0, .slice none 0 0, .slice none 0 0] :: Box b4948 [v6386, v6390, v8039] :: Arr v6386 256 c6387 :: Arr v6390 1 c6391 :: Arr v8039 1 c8040 :: hs)) ?_ ?_
      · refine C_block ?_
        have H := H.nilArr 1
        replace H := H.front 6 rfl
        dsimp only [List.eraseIdx] at H
        replace H := H.front 6 rfl
        dsimp only [List.eraseIdx] at H
        replace H := H.front 6 rfl
        dsimp only [List.eraseIdx] at H
        replace H := H.front 6 rfl
        dsimp only [List.eraseIdx] at H
        replace H := H.front 6 rfl
        dsimp only [List.eraseIdx] at H
        replace H := H.drop 6 rfl
        dsimp only [List.eraseIdx] at H
        refine C_iter (f := fun s => F_dofferref18_Trim_l3 N x8 x4553 s.1 s.2) ho8043 (fun s a w' => ∃ (v8112 : Value) (c8113 : (List Value)) (x8114 : (List Int)) (x8116 : Int), (x8114, x8116) = s ∧ rdL (eI .i64) ρ x8114 c8113 ∧ Fr 113 a [(2, .pointer (some ⟨b4141, 0, none⟩)), (5, (.slice (some ⟨b4158, 0, none⟩) (x2.length : Int).toNat (x2.length : Int).toNat)), (8, .pointer (some ⟨b4948, 0, none⟩)), (96, v7), (97, .int .i64 (x8.length : Int)), (98, .int .i64 x8116)] ∧ Hp C w' ρ (Box b4141 [.slice none 0 0, .slice none 0 0, .slice none 0 0] :: Arr (.slice (some ⟨b4158, 0, none⟩) (x2.length : Int).toNat (x2.length : Int).toNat) 1 c4552 :: Box b4948 [v6386, v6390, v8112] :: Arr v6386 256 c6387 :: Arr v6390 1 c6391 :: Arr v8112 1 c8113 :: hs)) ?_ ?_
        · exact fun a hf => ⟨(.slice none 0 0), [], [], 0, rfl, rdL.nil, hf.sub ⟨rfl, rfl, rfl, rfl, rfl, rfl, trivial⟩, H⟩
        · rintro s o8185 a wd8188 ⟨v8112, c8113, x8114, x8116, rfl, r8115, hf, H⟩ hB8186 hO8187
          replace hB8186 : F_dofferref18_Trim_l3 N x8 x4553 x8114 x8116 = some o8185 := hB8186
          unfold F_dofferref18_Trim_l3 at hB8186
          refine CW.at hf <| C_seq <| R_nd <| nq (Q_lss rfl rfl) rfl rfl <| WL_nil <| x_then <| C_seq ?_
          refine C_cond rfl (fun hb => ?_) (fun hb => ?_)
          · replace hB8186 := itT hb hB8186
            refine C_skip <| x_then <| C_seq <| C_block <| C_seq <| R_nd ?_
            obtain ⟨x8189, hx8189, hB8186⟩ := bnd hB8186
            obtain ⟨b8190, o8191, c8192, hc8193, ha8194, hi8195⟩ := idxR r9 hx8189
            refine nq (Q_idx hi8195 Tryd.underlying23 ty3 rfl rfl) rfl rfl <| nq (v := .int .i64 x8189) (Q_ld (show cellsAt _ _ _ [.int .i64 x8189] from (show _ = [_] from hc8193) ▸ (ha8194.up H.ok.view)) ty3 rfl (fun _ => rfl) rfl rfl) rfl rfl <| nq (Q_assign rfl) rfl rfl <| WL_nil <| x_then ?_
            obtain ⟨o8225, ho8225, hB8186⟩ := bnd hB8186
            refine C_cutQ (fun a w' => ∃ (v8221 : Value) (c8222 : (List Value)) (x8223 : (List Int)), x8223 = o8225 ∧ rdL (eI .i64) ρ x8223 c8222 ∧ Fr 113 a [(2, .pointer (some ⟨b4141, 0, none⟩)), (5, (.slice (some ⟨b4158, 0, none⟩) (x2.length : Int).toNat (x2.length : Int).toNat)), (8, .pointer (some ⟨b4948, 0, none⟩)), (96, v7), (97, .int .i64 (x8.length : Int)), (98, .int .i64 x8116)] ∧ Hp C w' ρ (Box b4141 [.slice none 0 0, .slice none 0 0, .slice none 0 0] :: Arr (.slice (some ⟨b4158, 0, none⟩) (x2.length : Int).toNat (x2.length : Int).toNat) 1 c4552 :: Box b4948 [v6386, v6390, v8221] :: Arr v6386 256 c6387 :: Arr v6390 1 c6391 :: Arr v8221 1 c8222 :: hs)) ?_ ?_
            · refine R_dr (.take 0 (.take 2 (.take 3 (.take 4 (.take 5 (.two 1 6 (.one 6 (.one 7 (.take 8 (.one 9 .done)))) (.one 1 (.one 7 (.take 8 (.one 9 .done)))))))))) (fun w' => Ok w' ρ [Box b4141 [.slice none 0 0, .slice none 0 0, .slice none 0 0], Arr (.slice (some ⟨b4158, 0, none⟩) (x2.length : Int).toNat (x2.length : Int).toNat) 1 c4552, Arr v6386 256 c6387, Arr v6390 1 c6391]) (by kernel_rfl) (by kernel_rfl) (by kernel_rfl) (H.drew.okS (by simp)) ?_
              replace H := H.drew
              refine dq (v := .pointer (some ⟨b4948, 2, none⟩)) rfl (fun _ _ => Q_fld Tryd.underlying29 rfl ty23 (by decide) rfl rfl) rfl rfl <| dq rfl (fun _ _ => Q_move rfl) rfl rfl <| dq rfl (fun _ _ => Q_move rfl) rfl rfl ?_
              obtain ⟨x8226, hx8226, ho8225⟩ := bnd ho8225
              obtain ⟨b8227, o8228, hi8232, hc8230, ha8231⟩ := arr_at (hs := [Arr (.slice (some ⟨b4158, 0, none⟩) (x2.length : Int).toNat (x2.length : Int).toNat) 1 c4552]) (k := 0) (by decide) (H.okS (by simp)) rfl r4554 hx8226
              refine dq rfl (fun _ _ => Q_idx hi8232 Tryd.underlying23 ty3 rfl rfl) rfl rfl <| dq (v := .int .i64 x8226) rfl (fun _ hw => Q_ld (show cellsAt _ _ _ [.int .i64 x8226] from (show _ = [_] from hc8230) ▸ (ha8231 _ (Ok.subS (by simp) hw))) ty3 rfl (fun _ => rfl) rfl rfl) rfl rfl ?_
              refine d2 ?_ ?_
              · refine de rfl (Eff.quiet (v := v8112) (Q_ldB (k := 2) (cs := [v8112]) H.ok rfl ty23 rfl rfl rfl (fun _ => rfl) rfl)) rfl rfl ?_
                rintro _ _ ⟨rfl, rfl⟩
                refine ⟨H.okS (by simp), ?_⟩
                refine d1 (de rfl (E_bslice (xs := [.tmp 107]) (vs := [.int .i64 x8226]) H Tryd.underlying23 ty3 (by decide) (cs := [.int .i64 x8226]) rfl (sz_cons rfl sz_nil) rfl (by simp) (by simp) rfl rfl) rfl rfl ?_)
                rintro _ wd8234 ⟨b8233, rfl, H⟩
                refine ⟨H.okS (by simp), ?_⟩
                obtain ⟨x8235, hx8235, ho8225⟩ := bnd ho8225
                obtain ⟨ha8236a, ha8236b⟩ := app_some hx8235
                have r8238 : rdL (eI .i64) ρ x8235 (c8113 ++ ([.int .i64 x8226])) := ha8236b ▸ rdL.app r8115 (show rdL (eI .i64) ρ ([x8226]) ([.int .i64 x8226]) from ⟨([.int .i64 x8226]), _, rfl, rfl, rdL.nil⟩)
                refine d1 (de rfl (E_append (k := 6) H rfl Tryd.underlying23 ty3 rfl (by decide) (by decide) rfl rfl (Src.ofArr (k := 0) H.ok rfl) (rdL.one (show rdL (eI .i64) ρ ([x8226]) ([.int .i64 x8226]) from ⟨([.int .i64 x8226]), _, rfl, rfl, rdL.nil⟩)) (app_fit r8115 (show rdL (eI .i64) ρ ([x8226]) ([.int .i64 x8226]) from ⟨([.int .i64 x8226]), _, rfl, rfl, rdL.nil⟩) ha8236a)) rfl rfl ?_)
                rintro v8237 wd8240 ⟨H, hc8239⟩
                dsimp only [List.set] at H
                refine ⟨H.okS (by simp), ?_⟩
                refine dq (v := .pointer (some ⟨b4948, 2, none⟩)) rfl (fun _ _ => Q_fld Tryd.underlying29 rfl ty23 (by decide) rfl rfl) rfl rfl ?_
                refine d1 (de rfl (E_stB (k := 3) (cs := [v8237]) (vs' := [v6386, v6390, v8237]) H rfl ty23 rfl rfl (arr_cells (H.ok.get (k := 6) rfl)).1 rfl (one_cons (arr_cells (H.ok.get (k := 6) rfl)).2 one_nil) (by simp) rfl) rfl rfl ?_)
                rintro _ wd8241 H
                dsimp only [List.set] at H
                refine ⟨H.okS (by simp), ?_⟩
                refine DL_nil ?_
                replace H := H.front 6 rfl
                dsimp only [List.eraseIdx] at H
                replace H := H.front 6 rfl
                dsimp only [List.eraseIdx] at H
                replace H := H.front 6 rfl
                dsimp only [List.eraseIdx] at H
                replace H := H.front 6 rfl
                dsimp only [List.eraseIdx] at H
                replace H := H.front 6 rfl
                dsimp only [List.eraseIdx] at H
                replace H := H.front 6 rfl
                dsimp only [List.eraseIdx] at H
                replace H := H.drop 6 rfl
                dsimp only [List.eraseIdx] at H
                obtain rfl := Option.some.inj ho8225
                refine x_A fun a hf => ⟨v8237, (c8113 ++ ([.int .i64 x8226])), x8235, rfl, r8238, hf.sub ⟨rfl, rfl, rfl, rfl, rfl, rfl, trivial⟩, H⟩
              · refine de rfl (E_bslice (xs := [.tmp 107]) (vs := [.int .i64 x8226]) H Tryd.underlying23 ty3 (by decide) (cs := [.int .i64 x8226]) rfl (sz_cons rfl sz_nil) rfl (by simp) (by simp) rfl rfl) rfl rfl ?_
                rintro _ wd8243 ⟨b8242, rfl, H⟩
                refine ⟨H.okS (by simp), ?_⟩
                refine d1 (de rfl (Eff.quiet (v := v8112) (Q_ldB (k := 3) (cs := [v8112]) H.ok rfl ty23 rfl rfl rfl (fun _ => rfl) rfl)) rfl rfl ?_)
                rintro _ _ ⟨rfl, rfl⟩
                refine ⟨H.okS (by simp), ?_⟩
                obtain ⟨x8244, hx8244, ho8225⟩ := bnd ho8225
                obtain ⟨ha8245a, ha8245b⟩ := app_some hx8244
                have r8247 : rdL (eI .i64) ρ x8244 (c8113 ++ ([.int .i64 x8226])) := ha8245b ▸ rdL.app r8115 (show rdL (eI .i64) ρ ([x8226]) ([.int .i64 x8226]) from ⟨([.int .i64 x8226]), _, rfl, rfl, rdL.nil⟩)
                refine d1 (de rfl (E_append (k := 6) H rfl Tryd.underlying23 ty3 rfl (by decide) (by decide) rfl rfl (Src.ofArr (k := 0) H.ok rfl) (rdL.one (show rdL (eI .i64) ρ ([x8226]) ([.int .i64 x8226]) from ⟨([.int .i64 x8226]), _, rfl, rfl, rdL.nil⟩)) (app_fit r8115 (show rdL (eI .i64) ρ ([x8226]) ([.int .i64 x8226]) from ⟨([.int .i64 x8226]), _, rfl, rfl, rdL.nil⟩) ha8245a)) rfl rfl ?_)
                rintro v8246 wd8249 ⟨H, hc8248⟩
                dsimp only [List.set] at H
                refine ⟨H.okS (by simp), ?_⟩
                refine dq (v := .pointer (some ⟨b4948, 2, none⟩)) rfl (fun _ _ => Q_fld Tryd.underlying29 rfl ty23 (by decide) rfl rfl) rfl rfl ?_
                refine d1 (de rfl (E_stB (k := 3) (cs := [v8246]) (vs' := [v6386, v6390, v8246]) H rfl ty23 rfl rfl (arr_cells (H.ok.get (k := 6) rfl)).1 rfl (one_cons (arr_cells (H.ok.get (k := 6) rfl)).2 one_nil) (by simp) rfl) rfl rfl ?_)
                rintro _ wd8250 H
                dsimp only [List.set] at H
                refine ⟨H.okS (by simp), ?_⟩
                refine DL_nil ?_
                replace H := H.front 6 rfl
                dsimp only [List.eraseIdx] at H
                replace H := H.front 6 rfl
                dsimp only [List.eraseIdx] at H
                replace H := H.front 6 rfl
                dsimp only [List.eraseIdx] at H
                replace H := H.front 6 rfl
                dsimp only [List.eraseIdx] at H
                replace H := H.front 6 rfl
                dsimp only [List.eraseIdx] at H
                replace H := H.front 6 rfl
                dsimp only [List.eraseIdx] at H
                replace H := H.drop 6 rfl
                dsimp only [List.eraseIdx] at H
                obtain rfl := Option.some.inj ho8225
                refine x_A fun a hf => ⟨v8246, (c8113 ++ ([.int .i64 x8226])), x8244, rfl, r8247, hf.sub ⟨rfl, rfl, rfl, rfl, rfl, rfl, trivial⟩, H⟩
            · rintro a wd8251 ⟨v8221, c8222, x8223, rfl, r8224, hf, H⟩
              try dsimp only at hB8186
              refine XX.at hf <| x_block <| x_then <| R_nd <| nq (Q_add rfl rfl) rfl rfl <| nq (Q_move rfl) rfl rfl <| WL_nil ?_
              replace H := H.front 5 rfl
              dsimp only [List.eraseIdx] at H
              replace H := H.front 5 rfl
              dsimp only [List.eraseIdx] at H
              replace H := H.front 5 rfl
              dsimp only [List.eraseIdx] at H
              replace H := H.front 5 rfl
              dsimp only [List.eraseIdx] at H
              replace H := H.front 5 rfl
              dsimp only [List.eraseIdx] at H
              replace H := H.front 5 rfl
              dsimp only [List.eraseIdx] at H
              obtain rfl := Option.some.inj hB8186
              refine x_A fun a hf => ⟨_, rfl, v8221, c8222, x8223, w64 (x8116 + 1), rfl, r8224, hf.sub ⟨rfl, rfl, rfl, rfl, rfl, rfl, trivial⟩, H⟩
          · replace hB8186 := itF hb hB8186
            refine C_exit <| x_then_exit <| x_then_exit <| x_block_exit ?_
            replace H := H.front 5 rfl
            dsimp only [List.eraseIdx] at H
            replace H := H.front 5 rfl
            dsimp only [List.eraseIdx] at H
            replace H := H.front 5 rfl
            dsimp only [List.eraseIdx] at H
            replace H := H.front 5 rfl
            dsimp only [List.eraseIdx] at H
            replace H := H.front 4 rfl
            dsimp only [List.eraseIdx] at H
            replace H := H.drop 5 rfl
            dsimp only [List.eraseIdx] at H
            obtain rfl := Option.some.inj hB8186
            obtain rfl := hO8187 _ rfl
            refine x_A fun a hf => ⟨v8112, c8113, x8114, rfl, r8115, hf.sub ⟨rfl, rfl, trivial⟩, H⟩
      · rintro a wd8252 ⟨v8039, c8040, x8041, rfl, r8042, hf, H⟩
        try dsimp only at hF
        refine XX.at hf <| x_then <| C_seq <| R_nd <| nq (v := .agg #[v6386, v6390, v8039]) (Q_ldB (k := 1) (cs := [v6386, v6390, v8039]) H.ok rfl ty29 rfl rfl rfl (fun h => nomatch h) rfl) rfl rfl <| ne (E_stB (k := 0) (cs := [v6386, v6390, v8039]) (vs' := [v6386, v6390, v8039]) H rfl ty29 rfl rfl rfl rfl (one_cons (arr_cells (H.ok.get (k := 2) rfl)).2 (one_cons (arr_cells (H.ok.get (k := 3) rfl)).2 (one_cons (arr_cells (H.ok.get (k := 4) rfl)).2 one_nil))) (by simp) rfl) rfl rfl ?_
        rintro _ wd8253 H
        dsimp only [List.set] at H
        refine WL_nil <| x_then <| C_ret ?_
        have hRV : RV Tryd.prog wd8253 [(2, .pointer (some ⟨b4141, 0, none⟩))] [.cell 2 29] [.agg #[v6386, v6390, v8039]] := ⟨⟨_, rfl, run_ldv ty29 rfl (fun h => nomatch h) (box_at (H.ok.get (k := 0) rfl) 0 3)⟩, trivial⟩
        replace H := H.front 4 rfl
        dsimp only [List.eraseIdx] at H
        replace H := H.front 4 rfl
        dsimp only [List.eraseIdx] at H
        replace H := H.front 4 rfl
        dsimp only [List.eraseIdx] at H
        replace H := H.drop 3 rfl
        dsimp only [List.eraseIdx] at H
        replace H := H.drop 3 rfl
        dsimp only [List.eraseIdx] at H
        obtain rfl := Option.some.inj hF
        exact fn_retV (rs := [.cell 2 29]) (vs := [.agg #[v6386, v6390, v8039]]) rfl hRV ⟨v6386, c6387, v6390, c6391, v8039, c8040, x6388, x6392, x8041, rfl, rfl, r6389, r6393, r8042, H⟩
theorem c_71 {N : Nat} {C : Cx} {w : World} {ρ : View} {hs : List Hl} (H : Hp C w ρ (hs)) {r : (List (List Int))} (hF : F_dofferlaw19_pairs N = some r) :
    Calls Tryd.prog 71 [].toArray w (Rets (fun v w' => (∃ (v464 : Value) (c465 : (List Value)) (v468 : Value) (c469 : (List Value)) (v471 : Value) (c472 : (List Value)) (x466 : (List (List Int))), x466 = r ∧ .agg #[v464, v468, v471] = v ∧ rdL (eA 256 (eI .i64)) ρ x466 c465 ∧ rdL (eI .i64) ρ ([(-1), 0, 0]) c469 ∧ rdL (eI .i64) ρ ([1]) c472 ∧ Hp C w' ρ (Arr v464 256 c465 :: Arr v468 1 c469 :: Arr v471 1 c472 :: hs)))) := by
  unfold F_dofferlaw19_pairs at hF
  have h0 : Tryd.f71.body = some _ := rfl
  refine fn_calls' Tryd.func71 h0 (n := 22) rfl (by simp) <| C_seq <| R_nd <| ne (E_alloc H ty25 (zs := [.slice none 0 0, .slice none 0 0, .slice none 0 0]) rfl) rfl rfl ?_
  rintro _ wd475 ⟨b474, rfl, H⟩
  refine WL_nil <| x_then <| C_seq <| R_nd ?_
  obtain ⟨x476, hx476, hF⟩ := bnd hF
  obtain ⟨hm478a, hm478b, hm478c⟩ := mk_some hx476
  refine ne (E_make H Tryd.underlying22 ty58 (zs := (repC 256 [.int .i64 0])) rfl (by simp [repC_length]) (by decide) (by decide) rfl hm478a hm478b) rfl rfl ?_
  rintro _ wd479 ⟨b477, rfl, H⟩
  refine ne (E_bslice (xs := [.const (.int .i64 (-1)), .const (.int .i64 0), .const (.int .i64 0)]) (vs := [.int .i64 (-1), .int .i64 0, .int .i64 0]) H Tryd.underlying23 ty3 (by decide) (cs := [.int .i64 (-1), .int .i64 0, .int .i64 0]) rfl (sz_cons rfl (sz_cons rfl (sz_cons rfl sz_nil))) rfl (by simp) (by simp) rfl rfl) rfl rfl ?_
  rintro _ wd481 ⟨b480, rfl, H⟩
  refine ne (E_bslice (xs := [.const (.int .i64 1)]) (vs := [.int .i64 1]) H Tryd.underlying23 ty3 (by decide) (cs := [.int .i64 1]) rfl (sz_cons rfl sz_nil) rfl (by simp) (by simp) rfl rfl) rfl rfl ?_
  rintro _ wd483 ⟨b482, rfl, H⟩
  refine nq (v := .agg #[(.slice (some ⟨b477, 0, none⟩) (3 : Int).toNat (3 : Int).toNat), (.slice (some ⟨b480, 0, none⟩) 3 3), (.slice (some ⟨b482, 0, none⟩) 1 1)]) (Q_buildS st25.choose_spec (ps := [(0, [(.slice (some ⟨b477, 0, none⟩) (3 : Int).toNat (3 : Int).toNat)]), (1, [(.slice (some ⟨b480, 0, none⟩) 3 3)]), (2, [(.slice (some ⟨b482, 0, none⟩) 1 1)])]) rfl ⟨rfl, (arr_cells (H.ok.get (k := 2) rfl)).1, by simp, ⟨rfl, (arr_cells (H.ok.get (k := 1) rfl)).1, by simp, ⟨rfl, (arr_cells (H.ok.get (k := 0) rfl)).1, by simp, trivial⟩⟩⟩ rfl) rfl rfl <| ne (E_alloc H ty25 (zs := [.slice none 0 0, .slice none 0 0, .slice none 0 0]) rfl) rfl rfl ?_
  rintro _ wd485 ⟨b484, rfl, H⟩
  refine ne (E_stB (k := 0) (cs := [(.slice (some ⟨b477, 0, none⟩) (3 : Int).toNat (3 : Int).toNat), (.slice (some ⟨b480, 0, none⟩) 3 3), (.slice (some ⟨b482, 0, none⟩) 1 1)]) (vs' := [(.slice (some ⟨b477, 0, none⟩) (3 : Int).toNat (3 : Int).toNat), (.slice (some ⟨b480, 0, none⟩) 3 3), (.slice (some ⟨b482, 0, none⟩) 1 1)]) H rfl ty25 rfl rfl rfl rfl (one_cons (arr_cells (H.ok.get (k := 3) rfl)).2 (one_cons (arr_cells (H.ok.get (k := 2) rfl)).2 (one_cons (arr_cells (H.ok.get (k := 1) rfl)).2 one_nil))) (by simp) rfl) rfl rfl ?_
  rintro _ wd486 H
  dsimp only [List.set] at H
  refine WL_nil <| x_then <| C_seq <| C_seq <| R_nd <| nq (Q_move rfl) rfl rfl <| WL_nil <| x_then ?_
  obtain ⟨o701, ho701, hF⟩ := bnd hF
  refine C_cutQ (fun a w' => ∃ (c698 : (List Value)) (x699 : (List (List Int))), x699 = o701 ∧ rdL (eA 256 (eI .i64)) ρ x699 c698 ∧ Fr 22 a [(0, .pointer (some ⟨b474, 0, none⟩)), (1, .pointer (some ⟨b484, 0, none⟩))] ∧ Hp C w' ρ (Box b474 [.slice none 0 0, .slice none 0 0, .slice none 0 0] :: Box b484 [(.slice (some ⟨b477, 0, none⟩) (3 : Int).toNat (3 : Int).toNat), (.slice (some ⟨b480, 0, none⟩) 3 3), (.slice (some ⟨b482, 0, none⟩) 1 1)] :: Arr (.slice (some ⟨b477, 0, none⟩) (3 : Int).toNat (3 : Int).toNat) 256 c698 :: Arr (.slice (some ⟨b480, 0, none⟩) 3 3) 1 ([.int .i64 (-1), .int .i64 0, .int .i64 0]) :: Arr (.slice (some ⟨b482, 0, none⟩) 1 1) 1 ([.int .i64 1]) :: hs)) ?_ ?_
  · refine C_block ?_
    replace H := H.front 1 rfl
    dsimp only [List.eraseIdx] at H
    replace H := H.front 2 rfl
    dsimp only [List.eraseIdx] at H
    replace H := H.front 3 rfl
    dsimp only [List.eraseIdx] at H
    replace H := H.front 3 rfl
    dsimp only [List.eraseIdx] at H
    replace H := H.front 4 rfl
    dsimp only [List.eraseIdx] at H
    refine C_iter (f := fun s => F_dofferlaw19_pairs_l0 N s.1 s.2) ho701 (fun s a w' => ∃ (c771 : (List Value)) (x772 : (List (List Int))) (x774 : Int), (x772, x774) = s ∧ rdL (eA 256 (eI .i64)) ρ x772 c771 ∧ Fr 22 a [(0, .pointer (some ⟨b474, 0, none⟩)), (1, .pointer (some ⟨b484, 0, none⟩)), (7, .int .i64 x774)] ∧ Hp C w' ρ (Box b474 [.slice none 0 0, .slice none 0 0, .slice none 0 0] :: Box b484 [(.slice (some ⟨b477, 0, none⟩) (3 : Int).toNat (3 : Int).toNat), (.slice (some ⟨b480, 0, none⟩) 3 3), (.slice (some ⟨b482, 0, none⟩) 1 1)] :: Arr (.slice (some ⟨b477, 0, none⟩) (3 : Int).toNat (3 : Int).toNat) 256 c771 :: Arr (.slice (some ⟨b480, 0, none⟩) 3 3) 1 ([.int .i64 (-1), .int .i64 0, .int .i64 0]) :: Arr (.slice (some ⟨b482, 0, none⟩) 1 1) 1 ([.int .i64 1]) :: hs)) ?_ ?_
    · exact fun a hf => ⟨(repC (3 : Int).toNat (repC 256 [.int .i64 0])), x476, 0, rfl, (hm478c ▸ rdL_rep (e := (eA 256 (eI .i64))) (ρ := ρ) (⟨by simp, rdL_rep (e:=(eI .i64)) (ρ:=ρ) (rfl) 256⟩) _), hf.sub ⟨rfl, rfl, rfl, trivial⟩, H⟩
    · rintro s o844 a wd847 ⟨c771, x772, x774, rfl, r773, hf, H⟩ hB845 hO846
      replace hB845 : F_dofferlaw19_pairs_l0 N x772 x774 = some o844 := hB845
      unfold F_dofferlaw19_pairs_l0 at hB845
      refine CW.at hf <| C_seq <| R_nd <| nq (Q_lss rfl rfl) rfl rfl <| WL_nil <| x_then <| C_seq ?_
      refine C_cond rfl (fun hb => ?_) (fun hb => ?_)
      · replace hB845 := itT hb hB845
        refine C_skip <| x_then <| C_seq <| C_block <| C_seq <| R_nd <| nq (Q_move rfl) rfl rfl <| nq (Q_assign rfl) rfl rfl <| WL_nil <| x_then ?_
        obtain ⟨o881, ho881, hB845⟩ := bnd hB845
        refine C_cutQ (fun a w' => ∃ (c878 : (List Value)) (x879 : (List (List Int))), x879 = o881 ∧ rdL (eA 256 (eI .i64)) ρ x879 c878 ∧ Fr 22 a [(0, .pointer (some ⟨b474, 0, none⟩)), (1, .pointer (some ⟨b484, 0, none⟩)), (7, .int .i64 x774)] ∧ Hp C w' ρ (Box b474 [.slice none 0 0, .slice none 0 0, .slice none 0 0] :: Box b484 [(.slice (some ⟨b477, 0, none⟩) (3 : Int).toNat (3 : Int).toNat), (.slice (some ⟨b480, 0, none⟩) 3 3), (.slice (some ⟨b482, 0, none⟩) 1 1)] :: Arr (.slice (some ⟨b477, 0, none⟩) (3 : Int).toNat (3 : Int).toNat) 256 c878 :: Arr (.slice (some ⟨b480, 0, none⟩) 3 3) 1 ([.int .i64 (-1), .int .i64 0, .int .i64 0]) :: Arr (.slice (some ⟨b482, 0, none⟩) 1 1) 1 ([.int .i64 1]) :: hs)) ?_ ?_
        · refine R_dr (.take 0 (.take 1 (.take 2 (.take 3 (.take 4 (.take 5 (.take 6 (.take 7 (.take 9 (.one 8 (.take 10 (.one 11 .done)))))))))))) (fun w' => Ok w' ρ [Box b474 [.slice none 0 0, .slice none 0 0, .slice none 0 0], Box b484 [(.slice (some ⟨b477, 0, none⟩) (3 : Int).toNat (3 : Int).toNat), (.slice (some ⟨b480, 0, none⟩) 3 3), (.slice (some ⟨b482, 0, none⟩) 1 1)], Arr (.slice (some ⟨b480, 0, none⟩) 3 3) 1 ([.int .i64 (-1), .int .i64 0, .int .i64 0]), Arr (.slice (some ⟨b482, 0, none⟩) 1 1) 1 ([.int .i64 1])]) (by kernel_rfl) (by kernel_rfl) (by kernel_rfl) (H.drew.okS (by simp)) ?_
          replace H := H.drew
          refine dq (v := .pointer (some ⟨b484, 0, none⟩)) rfl (fun _ _ => Q_fld Tryd.underlying25 rfl ty22 (by decide) rfl rfl) rfl rfl <| dq (v := (.slice (some ⟨b477, 0, none⟩) (3 : Int).toNat (3 : Int).toNat)) rfl (fun _ hw => Q_ldB (k := 1) (cs := [(.slice (some ⟨b477, 0, none⟩) (3 : Int).toNat (3 : Int).toNat)]) hw rfl ty22 rfl rfl rfl (fun _ => rfl) rfl) rfl rfl <| dq rfl (fun _ _ => Q_move rfl) rfl rfl <| dq (v := .pointer (some ⟨b484, 0, none⟩)) rfl (fun _ _ => Q_fld Tryd.underlying25 rfl ty22 (by decide) rfl rfl) rfl rfl <| dq (v := (.slice (some ⟨b477, 0, none⟩) (3 : Int).toNat (3 : Int).toNat)) rfl (fun _ hw => Q_ldB (k := 1) (cs := [(.slice (some ⟨b477, 0, none⟩) (3 : Int).toNat (3 : Int).toNat)]) hw rfl ty22 rfl rfl rfl (fun _ => rfl) rfl) rfl rfl <| dq rfl (fun _ _ => Q_move rfl) rfl rfl ?_
          obtain ⟨x882, hx882, ho881⟩ := bnd ho881
          obtain ⟨b883, o884, hi888, hc886, ha887⟩ := arr_at (hs := [Arr (.slice (some ⟨b477, 0, none⟩) (3 : Int).toNat (3 : Int).toNat) 256 c771]) (k := 0) (by decide) (H.okS (by simp)) rfl r773 hx882
          refine dq rfl (fun _ _ => Q_idx hi888 Tryd.underlying22 ty58 rfl rfl) rfl rfl ?_
          obtain ⟨x889, hx889, ho881⟩ := bnd ho881
          have hn890 := idx_lt hc886.1 hx889
          refine dq rfl (fun _ _ => Q_idxA hn890.1 hn890.2 Tryd.underlying58 ty3 rfl rfl) rfl rfl ?_
          obtain ⟨x891, hx891, ho881⟩ := bnd ho881
          obtain ⟨b892, o893, hi897, hc895, ha896⟩ := arr_at (hs := [Arr (.slice (some ⟨b477, 0, none⟩) (3 : Int).toNat (3 : Int).toNat) 256 c771]) (k := 0) (by decide) (H.okS (by simp)) rfl r773 hx891
          refine dq rfl (fun _ _ => Q_idx hi897 Tryd.underlying22 ty58 rfl rfl) rfl rfl ?_
          obtain ⟨x898, hx898, ho881⟩ := bnd ho881
          obtain ⟨x899, hx899, ho881⟩ := bnd ho881
          have r900 : rdL (eA 256 (eI .i64)) ρ x899 (setC c771 ((1 : Int).toNat * 256 + x774.toNat * 1) [.int .i64 2]) := rdL_set2 (e := (eI .i64)) (N := 256) r773 hc886 hx898 hx899 (rfl)
          refine d1 (de rfl (E_stA (k := 2) (j := x774.toNat * 1) (c := [.int .i64 2]) H rfl ty3 hi888 rfl rfl rfl rfl (one_cons rfl one_nil) (idx_fit (N := 256) (m := 1) (idx_lt hc886.1 hx889))) rfl rfl ?_)
          rintro _ wd901 H
          dsimp only [List.set] at H
          refine ⟨H.okS (by simp), ?_⟩
          obtain ⟨x902, hx902, ho881⟩ := bnd ho881
          have hn903 := idx_lt hc895.1 hx902
          refine dq rfl (fun _ _ => Q_idxA hn903.1 hn903.2 Tryd.underlying58 ty3 rfl rfl) rfl rfl ?_
          obtain ⟨x904, hx904, ho881⟩ := bnd ho881
          obtain ⟨hc905, ha906⟩ := arr_re (by decide) (H.okS (l := [Arr (.slice (some ⟨b477, 0, none⟩) (3 : Int).toNat (3 : Int).toNat) 256 (setC c771 ((1 : Int).toNat * 256 + x774.toNat * 1) [.int .i64 2])]) (by simp)) r900 hx904 hi897
          obtain ⟨x907, hx907, ho881⟩ := bnd ho881
          obtain ⟨x908, hx908, ho881⟩ := bnd ho881
          obtain ⟨x909, hx909, ho881⟩ := bnd ho881
          have r910 : rdL (eA 256 (eI .i64)) ρ x909 (setC (setC c771 ((1 : Int).toNat * 256 + x774.toNat * 1) [.int .i64 2]) ((2 : Int).toNat * 256 + x774.toNat * 1) [.int .i64 1]) := rdL_set2 (e := (eI .i64)) (N := 256) r900 hc905 hx908 hx909 (rfl)
          refine d1 (de rfl (E_stA (k := 2) (j := x774.toNat * 1) (c := [.int .i64 1]) H rfl ty3 hi897 rfl rfl rfl rfl (one_cons rfl one_nil) (idx_fit (N := 256) (m := 1) (idx_lt hc905.1 hx907))) rfl rfl ?_)
          rintro _ wd911 H
          dsimp only [List.set] at H
          refine ⟨H.okS (by simp), ?_⟩
          refine DL_nil ?_
          replace H := H.front 4 rfl
          dsimp only [List.eraseIdx] at H
          replace H := H.front 4 rfl
          dsimp only [List.eraseIdx] at H
          replace H := H.front 4 rfl
          dsimp only [List.eraseIdx] at H
          replace H := H.front 4 rfl
          dsimp only [List.eraseIdx] at H
          replace H := H.front 4 rfl
          dsimp only [List.eraseIdx] at H
          obtain rfl := Option.some.inj ho881
          refine x_A fun a hf => ⟨(setC (setC c771 ((1 : Int).toNat * 256 + x774.toNat * 1) [.int .i64 2]) ((2 : Int).toNat * 256 + x774.toNat * 1) [.int .i64 1]), x909, rfl, r910, hf.sub ⟨rfl, rfl, rfl, trivial⟩, H⟩
        · rintro a wd912 ⟨c878, x879, rfl, r880, hf, H⟩
          try dsimp only at hB845
          refine XX.at hf <| x_block <| x_then <| R_nd <| nq (Q_add rfl rfl) rfl rfl <| nq (Q_move rfl) rfl rfl <| WL_nil ?_
          replace H := H.front 4 rfl
          dsimp only [List.eraseIdx] at H
          replace H := H.front 4 rfl
          dsimp only [List.eraseIdx] at H
          replace H := H.front 4 rfl
          dsimp only [List.eraseIdx] at H
          replace H := H.front 4 rfl
          dsimp only [List.eraseIdx] at H
          replace H := H.front 4 rfl
          dsimp only [List.eraseIdx] at H
          obtain rfl := Option.some.inj hB845
          refine x_A fun a hf => ⟨_, rfl, c878, x879, w64 (x774 + 1), rfl, r880, hf.sub ⟨rfl, rfl, rfl, trivial⟩, H⟩
      · replace hB845 := itF hb hB845
        refine C_exit <| x_then_exit <| x_then_exit <| x_block_exit ?_
        replace H := H.front 4 rfl
        dsimp only [List.eraseIdx] at H
        replace H := H.front 4 rfl
        dsimp only [List.eraseIdx] at H
        replace H := H.front 4 rfl
        dsimp only [List.eraseIdx] at H
        replace H := H.front 4 rfl
        dsimp only [List.eraseIdx] at H
        replace H := H.front 4 rfl
        dsimp only [List.eraseIdx] at H
        obtain rfl := Option.some.inj hB845
        obtain rfl := hO846 _ rfl
        refine x_A fun a hf => ⟨c771, x772, rfl, r773, hf.sub ⟨rfl, rfl, trivial⟩, H⟩
  · rintro a wd913 ⟨c698, x699, rfl, r700, hf, H⟩
    try dsimp only at hF
    refine XX.at hf <| x_then <| C_seq <| R_nd <| nq (v := .agg #[(.slice (some ⟨b477, 0, none⟩) (3 : Int).toNat (3 : Int).toNat), (.slice (some ⟨b480, 0, none⟩) 3 3), (.slice (some ⟨b482, 0, none⟩) 1 1)]) (Q_ldB (k := 1) (cs := [(.slice (some ⟨b477, 0, none⟩) (3 : Int).toNat (3 : Int).toNat), (.slice (some ⟨b480, 0, none⟩) 3 3), (.slice (some ⟨b482, 0, none⟩) 1 1)]) H.ok rfl ty25 rfl rfl rfl (fun h => nomatch h) rfl) rfl rfl <| ne (E_stB (k := 0) (cs := [(.slice (some ⟨b477, 0, none⟩) (3 : Int).toNat (3 : Int).toNat), (.slice (some ⟨b480, 0, none⟩) 3 3), (.slice (some ⟨b482, 0, none⟩) 1 1)]) (vs' := [(.slice (some ⟨b477, 0, none⟩) (3 : Int).toNat (3 : Int).toNat), (.slice (some ⟨b480, 0, none⟩) 3 3), (.slice (some ⟨b482, 0, none⟩) 1 1)]) H rfl ty25 rfl rfl rfl rfl (one_cons (arr_cells (H.ok.get (k := 2) rfl)).2 (one_cons (arr_cells (H.ok.get (k := 3) rfl)).2 (one_cons (arr_cells (H.ok.get (k := 4) rfl)).2 one_nil))) (by simp) rfl) rfl rfl ?_
    rintro _ wd914 H
    dsimp only [List.set] at H
    refine WL_nil <| x_then <| C_ret ?_
    have hRV : RV Tryd.prog wd914 [(0, .pointer (some ⟨b474, 0, none⟩))] [.cell 0 25] [.agg #[(.slice (some ⟨b477, 0, none⟩) (3 : Int).toNat (3 : Int).toNat), (.slice (some ⟨b480, 0, none⟩) 3 3), (.slice (some ⟨b482, 0, none⟩) 1 1)]] := ⟨⟨_, rfl, run_ldv ty25 rfl (fun h => nomatch h) (box_at (H.ok.get (k := 0) rfl) 0 3)⟩, trivial⟩
    replace H := H.front 4 rfl
    dsimp only [List.eraseIdx] at H
    replace H := H.front 4 rfl
    dsimp only [List.eraseIdx] at H
    replace H := H.front 4 rfl
    dsimp only [List.eraseIdx] at H
    replace H := H.drop 3 rfl
    dsimp only [List.eraseIdx] at H
    replace H := H.drop 3 rfl
    dsimp only [List.eraseIdx] at H
    obtain rfl := Option.some.inj hF
    exact fn_retV (rs := [.cell 0 25]) (vs := [.agg #[(.slice (some ⟨b477, 0, none⟩) (3 : Int).toNat (3 : Int).toNat), (.slice (some ⟨b480, 0, none⟩) 3 3), (.slice (some ⟨b482, 0, none⟩) 1 1)]]) rfl hRV ⟨(.slice (some ⟨b477, 0, none⟩) (3 : Int).toNat (3 : Int).toNat), c698, (.slice (some ⟨b480, 0, none⟩) 3 3), [.int .i64 (-1), .int .i64 0, .int .i64 0], (.slice (some ⟨b482, 0, none⟩) 1 1), [.int .i64 1], x699, rfl, rfl, r700, (show rdL (eI .i64) ρ ([(-1), 0, 0]) ([.int .i64 (-1), .int .i64 0, .int .i64 0]) from ⟨([.int .i64 (-1)]), _, rfl, rfl, ⟨([.int .i64 0]), _, rfl, rfl, ⟨([.int .i64 0]), _, rfl, rfl, rdL.nil⟩⟩⟩), (show rdL (eI .i64) ρ ([1]) ([.int .i64 1]) from ⟨([.int .i64 1]), _, rfl, rfl, rdL.nil⟩), H⟩
theorem c_90 {N : Nat} {C : Cx} {w : World} {ρ : View} {hs : List Hl} {b1 : Nat} {v2 : Value} {v5 : Value} {v8 : Value} {v11 : Value} {c12 : List Value} {c15 : List Value} {v18 : Value} {v19 : Value} {c20 : List Value} {c22 : List Value} {v25 : Value} {x3 : (List (List Int))} {x6 : (List Int)} {x9 : (List Int)} {x13 : (List (List (List Int)))} {x16 : (List Int)} {x21 : (List (List Int))} {x23 : (List (Int × Int))} {x26 : Int} (H : Hp C w ρ (Box b1 [v2, v5, v8, v11, v18, v19, v25] :: NA (eI .i64) 256 v11 c12 x13.flatten :: Arr v18 1 c15 :: NA (eI .i64) 1 v19 c20 x21 :: Arr v25 2 c22 :: hs)) (_r4 : RdSl ρ (eA 256 (eI .i64)) v2 x3) (_r7 : RdSl ρ (eI .i64) v5 x6) (_r10 : RdSl ρ (eI .i64) v8 x9) (_gl14 : ∀ a ∈ x13, a.length = 256) (_r17 : rdL (eI .i64) ρ x16 c15) (r24 : rdL (eP (eI .i64) (eI .u8)) ρ x23 c22) {r : (List (Int × Int))} (hF : F_hopcroft_splitter_later N x3 x6 x9 x13 x16 x21 x23 x26 = some r) :
    Calls Tryd.prog 90 [.pointer (some ⟨b1, 0, none⟩), .int .i64 x26].toArray w (Rets (fun v w' => (∃ (v125 : Value) (c126 : (List Value)) (x127 : (List (Int × Int))), x127 = r ∧ .tuple [].toArray = v ∧ rdL (eP (eI .i64) (eI .u8)) ρ x127 c126 ∧ Hp C w' ρ (Box b1 [v2, v5, v8, v11, v18, v19, v125] :: NA (eI .i64) 256 v11 c12 x13.flatten :: Arr v18 1 c15 :: NA (eI .i64) 1 v19 c20 x21 :: Arr v125 2 c126 :: hs)))) := by
  unfold F_hopcroft_splitter_later at hF
  have h0 : Tryd.f90.body = some _ := rfl
  refine fn_calls' Tryd.func90 h0 (n := 22) rfl (by simp) <| C_seq <| R_nd <| nq (Q_move rfl) rfl rfl <| WL_nil <| x_then ?_
  obtain ⟨o179, ho179, hF⟩ := bnd hF
  refine C_cutQ (fun a w' => ∃ (v175 : Value) (c176 : (List Value)) (x177 : (List (Int × Int))), x177 = o179 ∧ rdL (eP (eI .i64) (eI .u8)) ρ x177 c176 ∧ Fr 22 a [] ∧ Hp C w' ρ (Box b1 [v2, v5, v8, v11, v18, v19, v175] :: NA (eI .i64) 256 v11 c12 x13.flatten :: Arr v18 1 c15 :: NA (eI .i64) 1 v19 c20 x21 :: Arr v175 2 c176 :: hs)) ?_ ?_
  · refine C_block ?_
    replace H := H.front 4 rfl
    dsimp only [List.eraseIdx] at H
    replace H := H.front 4 rfl
    dsimp only [List.eraseIdx] at H
    replace H := H.front 4 rfl
    dsimp only [List.eraseIdx] at H
    replace H := H.front 4 rfl
    dsimp only [List.eraseIdx] at H
    replace H := H.front 4 rfl
    dsimp only [List.eraseIdx] at H
    refine C_iter (f := fun s => F_hopcroft_splitter_later_l0 N x26 s.1 s.2) ho179 (fun s a w' => ∃ (v194 : Value) (c195 : (List Value)) (x196 : (List (Int × Int))) (x198 : Int), (x196, x198) = s ∧ rdL (eP (eI .i64) (eI .u8)) ρ x196 c195 ∧ Fr 22 a [(0, .pointer (some ⟨b1, 0, none⟩)), (1, .int .i64 x26), (5, .int .i64 x198)] ∧ Hp C w' ρ (Box b1 [v2, v5, v8, v11, v18, v19, v194] :: NA (eI .i64) 256 v11 c12 x13.flatten :: Arr v18 1 c15 :: NA (eI .i64) 1 v19 c20 x21 :: Arr v194 2 c195 :: hs)) ?_ ?_
    · exact fun a hf => ⟨v25, c22, x23, 0, rfl, r24, hf.sub ⟨rfl, rfl, rfl, trivial⟩, H⟩
    · rintro s o213 a wd216 ⟨v194, c195, x196, x198, rfl, r197, hf, H⟩ hB214 hO215
      replace hB214 : F_hopcroft_splitter_later_l0 N x26 x196 x198 = some o213 := hB214
      unfold F_hopcroft_splitter_later_l0 at hB214
      refine CW.at hf <| C_seq <| R_nd <| nq (Q_lss rfl rfl) rfl rfl <| WL_nil <| x_then <| C_seq ?_
      refine C_cond rfl (fun hb => ?_) (fun hb => ?_)
      · replace hB214 := itT hb hB214
        refine C_skip <| x_then <| C_seq <| C_block <| C_seq <| R_nd <| nq (Q_move rfl) rfl rfl <| nq (Q_assign rfl) rfl rfl <| WL_nil <| x_then <| R_nd <| nq (Q_move rfl) rfl rfl <| nq (Q_move rfl) rfl rfl <| nq (Q_nilP rfl) rfl rfl ?_
        refine nq (v := .pointer (some ⟨b1, 6, none⟩)) (Q_fld Tryd.underlying107 rfl ty105 (by decide) rfl rfl) rfl rfl <| nq (v := v194) (Q_ldB (k := 0) (cs := [v194]) H.ok rfl ty105 rfl rfl rfl (fun _ => rfl) rfl) rfl rfl <| nq (Q_move rfl) rfl rfl <| nq (Q_move rfl) rfl rfl <| nq (Q_cvI ⟨_, Tryd.underlying3⟩ Tryd.underlying5 rfl) rfl rfl <| nq (v := .agg #[.int .i64 x26, .int .u8 (IntKind.wrap .u8 x198)]) (Q_buildS st113.choose_spec (ps := [(0, [.int .i64 x26]), (1, [.int .u8 (IntKind.wrap .u8 x198)])]) rfl ⟨rfl, rfl, by simp, ⟨rfl, rfl, by simp, trivial⟩⟩ rfl) rfl rfl <| ne (E_bslice (xs := [.tmp 16]) (vs := [.agg #[.int .i64 x26, .int .u8 (IntKind.wrap .u8 x198)]]) H Tryd.underlying105 ty113 (by decide) (cs := [.int .i64 x26, .int .u8 (IntKind.wrap .u8 x198)]) rfl (sz_cons rfl sz_nil) rfl (by simp) (by simp) rfl rfl) rfl rfl ?_
        rintro _ wd218 ⟨b217, rfl, H⟩
        obtain ⟨x219, hx219, hB214⟩ := bnd hB214
        obtain ⟨ha220a, ha220b⟩ := app_some hx219
        have r222 : rdL (eP (eI .i64) (eI .u8)) ρ x219 (c195 ++ ([.int .i64 x26, .int .u8 (IntKind.wrap .u8 x198)])) := ha220b ▸ rdL.app r197 (show rdL (eP (eI .i64) (eI .u8)) ρ ([(x26, IntKind.wrap .u8 x198)]) ([.int .i64 x26, .int .u8 (IntKind.wrap .u8 x198)]) from ⟨([.int .i64 x26, .int .u8 (IntKind.wrap .u8 x198)]), _, rfl, ⟨[.int .i64 x26], _, rfl, rfl, rfl⟩, rdL.nil⟩)
        refine ne (E_append (k := 5) H rfl Tryd.underlying105 ty113 rfl (by decide) (by decide) rfl rfl (Src.ofArr (k := 0) H.ok rfl) (rdL.one (show rdL (eP (eI .i64) (eI .u8)) ρ ([(x26, IntKind.wrap .u8 x198)]) ([.int .i64 x26, .int .u8 (IntKind.wrap .u8 x198)]) from ⟨([.int .i64 x26, .int .u8 (IntKind.wrap .u8 x198)]), _, rfl, ⟨[.int .i64 x26], _, rfl, rfl, rfl⟩, rdL.nil⟩)) (app_fit r197 (show rdL (eP (eI .i64) (eI .u8)) ρ ([(x26, IntKind.wrap .u8 x198)]) ([.int .i64 x26, .int .u8 (IntKind.wrap .u8 x198)]) from ⟨([.int .i64 x26, .int .u8 (IntKind.wrap .u8 x198)]), _, rfl, ⟨[.int .i64 x26], _, rfl, rfl, rfl⟩, rdL.nil⟩) ha220a)) rfl rfl ?_
        rintro v221 wd224 ⟨H, hc223⟩
        dsimp only [List.set] at H
        refine nq (Q_nilP rfl) rfl rfl <| nq (v := .pointer (some ⟨b1, 6, none⟩)) (Q_fld Tryd.underlying107 rfl ty105 (by decide) rfl rfl) rfl rfl <| ne (E_stB (k := 1) (cs := [v221]) (vs' := [v2, v5, v8, v11, v18, v19, v221]) H rfl ty105 rfl rfl (arr_cells (H.ok.get (k := 5) rfl)).1 rfl (one_cons (arr_cells (H.ok.get (k := 5) rfl)).2 one_nil) (by simp) rfl) rfl rfl ?_
        rintro _ wd225 H
        dsimp only [List.set] at H
        refine WL_nil <| x_block <| x_then <| R_nd <| nq (Q_add rfl rfl) rfl rfl <| nq (Q_move rfl) rfl rfl <| WL_nil ?_
        replace H := H.front 5 rfl
        dsimp only [List.eraseIdx] at H
        replace H := H.front 5 rfl
        dsimp only [List.eraseIdx] at H
        replace H := H.front 5 rfl
        dsimp only [List.eraseIdx] at H
        replace H := H.front 5 rfl
        dsimp only [List.eraseIdx] at H
        replace H := H.front 5 rfl
        dsimp only [List.eraseIdx] at H
        replace H := H.drop 5 rfl
        dsimp only [List.eraseIdx] at H
        obtain rfl := Option.some.inj hB214
        refine x_A fun a hf => ⟨_, rfl, v221, (c195 ++ ([.int .i64 x26, .int .u8 (IntKind.wrap .u8 x198)])), x219, w64 (x198 + 1), rfl, r222, hf.sub ⟨rfl, rfl, rfl, trivial⟩, H⟩
      · replace hB214 := itF hb hB214
        refine C_exit <| x_then_exit <| x_then_exit <| x_block_exit ?_
        replace H := H.front 4 rfl
        dsimp only [List.eraseIdx] at H
        replace H := H.front 4 rfl
        dsimp only [List.eraseIdx] at H
        replace H := H.front 4 rfl
        dsimp only [List.eraseIdx] at H
        replace H := H.front 4 rfl
        dsimp only [List.eraseIdx] at H
        replace H := H.front 4 rfl
        dsimp only [List.eraseIdx] at H
        obtain rfl := Option.some.inj hB214
        obtain rfl := hO215 _ rfl
        refine x_A fun a hf => ⟨v194, c195, x196, rfl, r197, hf.sub trivial, H⟩
  · rintro a wd226 ⟨v175, c176, x177, rfl, r178, hf, H⟩
    try dsimp only at hF
    refine XX.at hf ?_
    replace H := H.front 4 rfl
    dsimp only [List.eraseIdx] at H
    replace H := H.front 4 rfl
    dsimp only [List.eraseIdx] at H
    replace H := H.front 4 rfl
    dsimp only [List.eraseIdx] at H
    replace H := H.front 4 rfl
    dsimp only [List.eraseIdx] at H
    replace H := H.front 4 rfl
    dsimp only [List.eraseIdx] at H
    obtain rfl := Option.some.inj hF
    exact fn_end (l := []) (vs := []) rfl rfl rfl ⟨v175, c176, x177, rfl, rfl, r178, H⟩
end Go.Proofs.YteiaphkejkgfkaaDoor
