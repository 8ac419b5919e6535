/-
  The walks of the law TrimFinds, printed by my program, part 2: each function of the code computes its pure function.
-/
import Derived.Test.YteiaphkejkgfkaaDoorTrimFindsa
namespace Go.Proofs.YteiaphkejkgfkaaDoor
open Go Go.Eng
set_option maxRecDepth 100000
theorem c_29 {N : Nat} {C : Cx} {w : World} {ρ : View} {hs : List Hl} {v1 : Value} {v4 : Value} {v7 : Value} {x2 : (List (List Int))} {x5 : (List Int)} {x8 : (List Int)} (H : Hp C w ρ (hs)) {ge0 : Value} (gl0 : GErr ρ 0 ge0) (gl1 : GTab ρ 1 .u8 tab_math_bits_deBruijn64tab) (r3 : RdSl ρ (eA 256 (eI .i64)) v1 x2) (r6 : RdSl ρ (eI .i64) v4 x5) (r9 : RdSl ρ (eI .i64) v7 x8) {r : ((List (List Int)) × (List Int) × (List Int))} (hF : F_trim_Trim N x2 x5 x8 = some r) :
    Calls Tryd.prog 29 [.agg #[v1, v4, v7]].toArray w (Rets (fun v w' => (∃ (v1970 : Value) (c1971 : (List Value)) (v1974 : Value) (c1975 : (List Value)) (v1978 : Value) (c1979 : (List Value)) (x1972 : (List (List Int))) (x1976 : (List Int)) (x1980 : (List Int)), (x1972, x1976, x1980) = r ∧ .agg #[v1970, v1974, v1978] = v ∧ rdL (eA 256 (eI .i64)) ρ x1972 c1971 ∧ rdL (eI .i64) ρ x1976 c1975 ∧ rdL (eI .i64) ρ x1980 c1979 ∧ Hp C w' ρ (Arr v1970 256 c1971 :: Arr v1974 1 c1975 :: Arr v1978 1 c1979 :: hs)))) := by
  unfold F_trim_Trim at hF
  have h0 : Tryd.f29.body = some _ := rfl
  refine fn_calls' Tryd.func29 h0 (n := 95) rfl (by simp) <| C_seq <| R_nd <| ne (E_box H (vs := [v1, v4, v7]) rfl rfl) rfl rfl ?_
  rintro _ wd1983 ⟨b1982, rfl, H⟩
  refine ne (E_alloc H ty25 (zs := [.slice none 0 0, .slice none 0 0, .slice none 0 0]) rfl) rfl rfl ?_
  rintro _ wd1985 ⟨b1984, rfl, H⟩
  refine WL_nil <| x_then <| C_seq <| C_seq <| R_nd <| nq (v := .agg #[v1, v4, v7]) (Q_ldB (k := 1) (cs := [v1, v4, v7]) H.ok rfl ty25 rfl rfl rfl (fun h => nomatch h) rfl) rfl rfl ?_
  obtain ⟨q1986, hq1986, hF⟩ := bnd hF
  refine ne (E_call fn26 rfl (c_26 H  r3 r6 r9 hq1986)) rfl rfl ?_
  rintro _ wd1989 ⟨x1988, rfl, rfl, H⟩
  try dsimp only at hF
  refine nq (Q_not rfl) rfl rfl <| WL_nil <| x_then ?_
  refine C_cond rfl (fun hb => ?_) (fun hb => ?_)
  · replace hF := itT hb hF
    refine C_seq <| R_nd <| nq (v := .agg #[.slice none 0 0, .slice none 0 0, .slice none 0 0]) (Q_buildS st25.choose_spec (ps := []) rfl trivial rfl) rfl rfl <| ne (E_stB (k := 0) (cs := [.slice none 0 0, .slice none 0 0, .slice none 0 0]) (vs' := [.slice none 0 0, .slice none 0 0, .slice none 0 0]) H rfl ty25 rfl rfl rfl rfl (one_cons rfl (one_cons rfl (one_cons rfl one_nil))) (by simp) rfl) rfl rfl ?_
    rintro _ wd1990 H
    dsimp only [List.set] at H
    refine WL_nil <| x_then <| C_ret <| x_then_ret ?_
    have H := H.nilArr 256
    have H := H.nilArr 1
    have H := H.nilArr 1
    have hRV : RV Tryd.prog wd1990 [(2, .pointer (some ⟨b1984, 0, none⟩))] [.cell 2 25] [.agg #[(.slice none 0 0), (.slice none 0 0), (.slice none 0 0)]] := ⟨⟨_, rfl, run_ldv ty25 rfl (fun h => nomatch h) (box_at (H.ok.get (k := 3) rfl) 0 3)⟩, trivial⟩
    replace H := H.front 1 rfl
    dsimp only [List.eraseIdx] at H
    replace H := H.front 2 rfl
    dsimp only [List.eraseIdx] at H
    replace H := H.drop 3 rfl
    dsimp only [List.eraseIdx] at H
    replace H := H.drop 3 rfl
    dsimp only [List.eraseIdx] at H
    obtain rfl := Option.some.inj hF
    exact fn_retV (rs := [.cell 2 25]) (vs := [.agg #[(.slice none 0 0), (.slice none 0 0), (.slice none 0 0)]]) rfl hRV ⟨(.slice none 0 0), [], (.slice none 0 0), [], (.slice none 0 0), [], [], [], [], rfl, rfl, rdL.nil, rdL.nil, rdL.nil, H⟩
  · replace hF := itF hb hF
    refine C_skip <| x_then <| C_seq <| R_nd <| nq (v := .agg #[v1, v4, v7]) (Q_ldB (k := 1) (cs := [v1, v4, v7]) H.ok rfl ty25 rfl rfl rfl (fun h => nomatch h) rfl) rfl rfl ?_
    obtain ⟨q1991, hq1991, hF⟩ := bnd hF
    refine ne (E_call fn62 rfl (c_62 H gl0 gl1 r3 r6 r9 hq1991)) rfl rfl ?_
    rintro _ wd1997 ⟨v1993, c1994, x1995, rfl, rfl, r1996, H⟩
    try dsimp only at hF
    refine nq (Q_assign rfl) rfl rfl <| WL_nil <| x_then <| C_seq <| R_nd <| nq (v := .pointer (some ⟨b1982, 0, none⟩)) (Q_fld Tryd.underlying25 rfl ty22 (by decide) rfl rfl) rfl rfl <| nq (v := v1) (Q_ldB (k := 2) (cs := [v1]) H.ok rfl ty22 rfl rfl rfl (fun _ => rfl) rfl) rfl rfl <| nq (Q_len Tryd.underlying22 rfl r3) rfl rfl ?_
    obtain ⟨x1998, hx1998, hF⟩ := bnd hF
    obtain ⟨hm2000a, hm2000b, hm2000c⟩ := mk_some hx1998
    refine ne (E_make H Tryd.underlying23 ty3 (zs := [.int .i64 0]) rfl rfl (by decide) (by decide) rfl hm2000a hm2000b) rfl rfl ?_
    rintro _ wd2001 ⟨b1999, rfl, H⟩
    refine nq (Q_assign rfl) rfl rfl <| WL_nil <| x_then <| C_seq <| C_seq <| R_nd <| nq (Q_move rfl) rfl rfl <| nq (Q_lenA (k := 1) H.ok rfl r1996 (by decide) Tryd.underlying23 rfl) rfl rfl <| nq (Q_move rfl) rfl rfl <| WL_nil <| x_then ?_
    obtain ⟨o2075, ho2075, hF⟩ := bnd hF
    refine C_cutQ (fun a w' => ∃ (c2072 : (List Value)) (x2073 : (List Int)), x2073 = o2075 ∧ rdL (eI .i64) ρ x2073 c2072 ∧ Fr 95 a [(1, .pointer (some ⟨b1982, 0, none⟩)), (2, .pointer (some ⟨b1984, 0, none⟩)), (3, v1993), (4, (.slice (some ⟨b1999, 0, none⟩) (x2.length : Int).toNat (x2.length : Int).toNat))] ∧ Hp C w' ρ (Box b1982 [v1, v4, v7] :: Box b1984 [.slice none 0 0, .slice none 0 0, .slice none 0 0] :: Arr v1993 1 c1994 :: Arr (.slice (some ⟨b1999, 0, none⟩) (x2.length : Int).toNat (x2.length : Int).toNat) 1 c2072 :: hs)) ?_ ?_
    · refine C_block ?_
      replace H := H.front 1 rfl
      dsimp only [List.eraseIdx] at H
      replace H := H.front 2 rfl
      dsimp only [List.eraseIdx] at H
      replace H := H.front 3 rfl
      dsimp only [List.eraseIdx] at H
      refine C_iter (f := fun s => F_trim_Trim_l0 N x1995 s.1 s.2) ho2075 (fun s a w' => ∃ (c2099 : (List Value)) (x2098 : Int) (x2100 : (List Int)), (x2098, x2100) = s ∧ rdL (eI .i64) ρ x2100 c2099 ∧ Fr 95 a [(1, .pointer (some ⟨b1982, 0, none⟩)), (2, .pointer (some ⟨b1984, 0, none⟩)), (3, v1993), (4, (.slice (some ⟨b1999, 0, none⟩) (x2.length : Int).toNat (x2.length : Int).toNat)), (25, v1993), (26, .int .i64 (x1995.length : Int)), (27, .int .i64 x2098)] ∧ Hp C w' ρ (Box b1982 [v1, v4, v7] :: Box b1984 [.slice none 0 0, .slice none 0 0, .slice none 0 0] :: Arr v1993 1 c1994 :: Arr (.slice (some ⟨b1999, 0, none⟩) (x2.length : Int).toNat (x2.length : Int).toNat) 1 c2099 :: hs)) ?_ ?_
      · exact fun a hf => ⟨(repC (x2.length : Int).toNat [.int .i64 0]), 0, x1998, rfl, (hm2000c ▸ rdL_rep (e := (eI .i64)) (ρ := ρ) (rfl) _), hf.sub ⟨rfl, rfl, rfl, rfl, rfl, rfl, rfl, trivial⟩, H⟩
      · rintro s o2124 a wd2127 ⟨c2099, x2098, x2100, rfl, r2101, hf, H⟩ hB2125 hO2126
        replace hB2125 : F_trim_Trim_l0 N x1995 x2098 x2100 = some o2124 := hB2125
        unfold F_trim_Trim_l0 at hB2125
        refine CW.at hf <| C_seq <| R_nd <| nq (Q_lss rfl rfl) rfl rfl <| WL_nil <| x_then <| C_seq ?_
        refine C_cond rfl (fun hb => ?_) (fun hb => ?_)
        · replace hB2125 := itT hb hB2125
          refine C_skip <| x_then <| C_seq <| C_block <| C_seq <| R_nd <| nq (Q_move rfl) rfl rfl ?_
          obtain ⟨x2128, hx2128, hB2125⟩ := bnd hB2125
          obtain ⟨b2129, o2130, hi2134, hc2132, ha2133⟩ := arr_at (hs := [Arr v1993 1 c1994]) (k := 0) (by decide) (H.okS (by simp)) rfl r1996 hx2128
          refine nq (Q_idx hi2134 Tryd.underlying23 ty3 rfl rfl) rfl rfl <| nq (v := .int .i64 x2128) (Q_ld (show cellsAt _ _ _ [.int .i64 x2128] from (show _ = [_] from hc2132) ▸ (ha2133 _ (Ok.subS (by simp) H.ok))) ty3 rfl (fun _ => rfl) rfl rfl) rfl rfl <| nq (Q_assign rfl) rfl rfl <| nq (Q_assign rfl) rfl rfl <| WL_nil <| x_then <| R_nd <| nq (Q_move rfl) rfl rfl <| nq (Q_move rfl) rfl rfl <| nq (Q_move rfl) rfl rfl ?_
          obtain ⟨x2135, hx2135, hB2125⟩ := bnd hB2125
          obtain ⟨b2136, o2137, hi2141, hc2139, ha2140⟩ := arr_at (hs := [Arr (.slice (some ⟨b1999, 0, none⟩) (x2.length : Int).toNat (x2.length : Int).toNat) 1 c2099]) (k := 0) (by decide) (H.okS (by simp)) rfl r2101 hx2135
          refine nq (Q_idx hi2141 Tryd.underlying23 ty3 rfl rfl) rfl rfl ?_
          obtain ⟨x2142, hx2142, hB2125⟩ := bnd hB2125
          obtain ⟨hs2143a, hs2143b, hs2143c⟩ := setI_some hx2142
          have r2144 : rdL (eI .i64) ρ x2142 (setC c2099 (x2128.toNat * 1 + 0) [.int .i64 x2098]) := hs2143c ▸ rdL.set r2101 hs2143b (rfl)
          refine ne (E_stA (k := 3) (j := 0) (c := [.int .i64 x2098]) H rfl ty3 hi2141 rfl rfl rfl rfl (one_cons rfl one_nil) (by decide)) rfl rfl ?_
          rintro _ wd2145 H
          dsimp only [List.set] at H
          refine WL_nil <| x_block <| x_then <| R_nd <| nq (Q_add rfl rfl) rfl rfl <| nq (Q_move rfl) rfl rfl <| WL_nil ?_
          replace H := H.front 3 rfl
          dsimp only [List.eraseIdx] at H
          replace H := H.front 3 rfl
          dsimp only [List.eraseIdx] at H
          replace H := H.front 3 rfl
          dsimp only [List.eraseIdx] at H
          replace H := H.front 3 rfl
          dsimp only [List.eraseIdx] at H
          obtain rfl := Option.some.inj hB2125
          refine x_A fun a hf => ⟨_, rfl, (setC c2099 (x2128.toNat * 1 + 0) [.int .i64 x2098]), w64 (x2098 + 1), x2142, rfl, r2144, hf.sub ⟨rfl, rfl, rfl, rfl, rfl, rfl, rfl, trivial⟩, H⟩
        · replace hB2125 := itF hb hB2125
          refine C_exit <| x_then_exit <| x_then_exit <| x_block_exit ?_
          replace H := H.front 3 rfl
          dsimp only [List.eraseIdx] at H
          replace H := H.front 3 rfl
          dsimp only [List.eraseIdx] at H
          replace H := H.front 3 rfl
          dsimp only [List.eraseIdx] at H
          replace H := H.front 3 rfl
          dsimp only [List.eraseIdx] at H
          obtain rfl := Option.some.inj hB2125
          obtain rfl := hO2126 _ rfl
          refine x_A fun a hf => ⟨c2099, x2100, rfl, r2101, hf.sub ⟨rfl, rfl, rfl, rfl, trivial⟩, H⟩
    · rintro a wd2146 ⟨c2072, x2073, rfl, r2074, hf, H⟩
      try dsimp only at hF
      refine XX.at hf <| x_then <| C_seq <| R_nd <| ne (E_alloc H ty25 (zs := [.slice none 0 0, .slice none 0 0, .slice none 0 0]) rfl) rfl rfl ?_
      rintro _ wd2148 ⟨b2147, rfl, H⟩
      refine WL_nil <| x_then <| C_seq <| C_seq <| R_nd <| nq (Q_move rfl) rfl rfl <| nq (Q_lenA (k := 3) H.ok rfl r1996 (by decide) Tryd.underlying23 rfl) rfl rfl <| nq (Q_move rfl) rfl rfl <| WL_nil <| x_then ?_
      obtain ⟨o2836, ho2836, hF⟩ := bnd hF
      refine C_cutQ (fun a w' => ∃ (v2828 : Value) (c2829 : (List Value)) (v2832 : Value) (c2833 : (List Value)) (x2830 : (List (List Int))) (x2834 : (List Int)), (x2830, x2834) = o2836 ∧ rdL (eA 256 (eI .i64)) ρ x2830 c2829 ∧ rdL (eI .i64) ρ x2834 c2833 ∧ Fr 95 a [(1, .pointer (some ⟨b1982, 0, none⟩)), (2, .pointer (some ⟨b1984, 0, none⟩)), (4, (.slice (some ⟨b1999, 0, none⟩) (x2.length : Int).toNat (x2.length : Int).toNat)), (7, .pointer (some ⟨b2147, 0, none⟩))] ∧ Hp C w' ρ (Box b1982 [v1, v4, v7] :: Box b1984 [.slice none 0 0, .slice none 0 0, .slice none 0 0] :: Arr (.slice (some ⟨b1999, 0, none⟩) (x2.length : Int).toNat (x2.length : Int).toNat) 1 c2072 :: Box b2147 [v2828, v2832, .slice none 0 0] :: Arr v2828 256 c2829 :: Arr v2832 1 c2833 :: hs)) ?_ ?_
      · refine C_block ?_
        have H := H.nilArr 256
        have H := H.nilArr 1
        replace H := H.front 1 rfl
        dsimp only [List.eraseIdx] at H
        replace H := H.front 2 rfl
        dsimp only [List.eraseIdx] at H
        replace H := H.front 6 rfl
        dsimp only [List.eraseIdx] at H
        replace H := H.front 6 rfl
        dsimp only [List.eraseIdx] at H
        replace H := H.front 6 rfl
        dsimp only [List.eraseIdx] at H
        replace H := H.front 6 rfl
        dsimp only [List.eraseIdx] at H
        refine C_iter (f := fun s => F_trim_Trim_l1 N x2 x5 x1995 x2073 s.1 s.2.1 s.2.2) ho2836 (fun s a w' => ∃ (v3063 : Value) (c3064 : (List Value)) (v3067 : Value) (c3068 : (List Value)) (x3062 : Int) (x3065 : (List (List Int))) (x3069 : (List Int)), (x3062, x3065, x3069) = s ∧ rdL (eA 256 (eI .i64)) ρ x3065 c3064 ∧ rdL (eI .i64) ρ x3069 c3068 ∧ Fr 95 a [(1, .pointer (some ⟨b1982, 0, none⟩)), (2, .pointer (some ⟨b1984, 0, none⟩)), (4, (.slice (some ⟨b1999, 0, none⟩) (x2.length : Int).toNat (x2.length : Int).toNat)), (7, .pointer (some ⟨b2147, 0, none⟩)), (37, v1993), (38, .int .i64 (x1995.length : Int)), (39, .int .i64 x3062)] ∧ Hp C w' ρ (Box b1982 [v1, v4, v7] :: Box b1984 [.slice none 0 0, .slice none 0 0, .slice none 0 0] :: Arr v1993 1 c1994 :: Arr (.slice (some ⟨b1999, 0, none⟩) (x2.length : Int).toNat (x2.length : Int).toNat) 1 c2072 :: Box b2147 [v3063, v3067, .slice none 0 0] :: Arr v3063 256 c3064 :: Arr v3067 1 c3068 :: hs)) ?_ ?_
        · exact fun a hf => ⟨(.slice none 0 0), [], (.slice none 0 0), [], 0, [], [], rfl, rdL.nil, rdL.nil, hf.sub ⟨rfl, rfl, rfl, rfl, rfl, rfl, rfl, trivial⟩, H⟩
        · rintro s o3296 a wd3299 ⟨v3063, c3064, v3067, c3068, x3062, x3065, x3069, rfl, r3066, r3070, hf, H⟩ hB3297 hO3298
          replace hB3297 : F_trim_Trim_l1 N x2 x5 x1995 x2073 x3062 x3065 x3069 = some o3296 := hB3297
          unfold F_trim_Trim_l1 at hB3297
          refine CW.at hf <| C_seq <| R_nd <| nq (Q_lss rfl rfl) rfl rfl <| WL_nil <| x_then <| C_seq ?_
          refine C_cond rfl (fun hb => ?_) (fun hb => ?_)
          · replace hB3297 := itT hb hB3297
            refine C_skip <| x_then <| C_seq <| C_block <| C_seq <| R_nd ?_
            obtain ⟨x3300, hx3300, hB3297⟩ := bnd hB3297
            obtain ⟨b3301, o3302, hi3306, hc3304, ha3305⟩ := arr_at (hs := [Arr v1993 1 c1994]) (k := 0) (by decide) (H.okS (by simp)) rfl r1996 hx3300
            refine nq (Q_idx hi3306 Tryd.underlying23 ty3 rfl rfl) rfl rfl <| nq (v := .int .i64 x3300) (Q_ld (show cellsAt _ _ _ [.int .i64 x3300] from (show _ = [_] from hc3304) ▸ (ha3305 _ (Ok.subS (by simp) H.ok))) ty3 rfl (fun _ => rfl) rfl rfl) rfl rfl <| nq (Q_assign rfl) rfl rfl <| WL_nil <| x_then <| C_seq <| R_nd <| nq (v := .pointer (some ⟨b1982, 0, none⟩)) (Q_fld Tryd.underlying25 rfl ty22 (by decide) rfl rfl) rfl rfl <| nq (v := v1) (Q_ldB (k := 0) (cs := [v1]) H.ok rfl ty22 rfl rfl rfl (fun _ => rfl) rfl) rfl rfl <| nq (Q_move rfl) rfl rfl ?_
            obtain ⟨x3307, hx3307, hB3297⟩ := bnd hB3297
            obtain ⟨b3308, o3309, c3310, hc3311, ha3312, hi3313⟩ := idxR r3 hx3307
            refine nq (Q_idx hi3313 Tryd.underlying22 ty58 rfl rfl) rfl rfl <| nq (v := .agg c3310.toArray) (Q_ld (ha3312.up H.ok.view) ty58 ((eA 256 (eI .i64)).len hc3311) (fun h => nomatch h) rfl rfl) rfl rfl <| ne (E_allocA (N := 256) (n := 1) (zs := (repC 256 [.int .i64 0])) H ty58 rfl (by simp [repC_length])) rfl rfl ?_
            rintro _ wd3315 ⟨b3314, rfl, H⟩
            refine ne (E_stW (k := 0) H rfl ty58 rfl rfl (rdL.one hc3311.2) (arr_clen (rdL_rep (e:=(eI .i64)) (ρ:=ρ) (rfl) 256) List.length_replicate) (arr_clen hc3311.2 hc3311.1)) rfl rfl ?_
            rintro _ wd3316 H
            dsimp only [List.set] at H
            refine WL_nil <| x_then <| C_seq <| C_seq <| R_nd <| nq (Q_ldW (k := 0) H.ok rfl ty58 rfl (arr_clen hc3311.2 hc3311.1)) rfl rfl <| nq (Q_move rfl) rfl rfl <| WL_nil <| x_then ?_
            obtain ⟨o3385, ho3385, hB3297⟩ := bnd hB3297
            refine C_cutQ (fun a w' => ∃ (c3381 : (List Value)) (x3382 : (List Int)), x3382 = o3385 ∧ rdL (eI .i64) ρ x3382 c3381 ∧ x3382.length = 256 ∧ Fr 95 a [(1, .pointer (some ⟨b1982, 0, none⟩)), (2, .pointer (some ⟨b1984, 0, none⟩)), (4, (.slice (some ⟨b1999, 0, none⟩) (x2.length : Int).toNat (x2.length : Int).toNat)), (7, .pointer (some ⟨b2147, 0, none⟩)), (9, .int .i64 x3300), (10, .pointer (some ⟨b3314, 0, none⟩)), (37, v1993), (38, .int .i64 (x1995.length : Int)), (39, .int .i64 x3062)] ∧ Hp C w' ρ (Box b1982 [v1, v4, v7] :: Arr (.slice (some ⟨b3314, 0, none⟩) 256 256) 1 c3381 :: Box b1984 [.slice none 0 0, .slice none 0 0, .slice none 0 0] :: Arr v1993 1 c1994 :: Arr (.slice (some ⟨b1999, 0, none⟩) (x2.length : Int).toNat (x2.length : Int).toNat) 1 c2072 :: Box b2147 [v3063, v3067, .slice none 0 0] :: Arr v3063 256 c3064 :: Arr v3067 1 c3068 :: hs)) ?_ ?_
            · refine C_block ?_
              replace H := H.front 7 rfl
              dsimp only [List.eraseIdx] at H
              replace H := H.front 7 rfl
              dsimp only [List.eraseIdx] at H
              replace H := H.front 7 rfl
              dsimp only [List.eraseIdx] at H
              replace H := H.front 7 rfl
              dsimp only [List.eraseIdx] at H
              replace H := H.front 7 rfl
              dsimp only [List.eraseIdx] at H
              replace H := H.front 7 rfl
              dsimp only [List.eraseIdx] at H
              replace H := H.front 6 rfl
              dsimp only [List.eraseIdx] at H
              replace H := H.front 7 rfl
              dsimp only [List.eraseIdx] at H
              refine C_iter (f := fun s => F_trim_Trim_l2 N x2073 x3307 s.1 s.2) ho3385 (fun s a w' => ∃ (c3406 : (List Value)) (x3407 : (List Int)) (x3410 : Int), (x3407, x3410) = s ∧ rdL (eI .i64) ρ x3407 c3406 ∧ x3407.length = 256 ∧ Fr 95 a [(1, .pointer (some ⟨b1982, 0, none⟩)), (2, .pointer (some ⟨b1984, 0, none⟩)), (4, (.slice (some ⟨b1999, 0, none⟩) (x2.length : Int).toNat (x2.length : Int).toNat)), (7, .pointer (some ⟨b2147, 0, none⟩)), (9, .int .i64 x3300), (10, .pointer (some ⟨b3314, 0, none⟩)), (37, v1993), (38, .int .i64 (x1995.length : Int)), (39, .int .i64 x3062), (48, .agg c3310.toArray), (49, .int .i64 x3410)] ∧ Hp C w' ρ (Box b1982 [v1, v4, v7] :: Arr (.slice (some ⟨b3314, 0, none⟩) 256 256) 1 c3406 :: Box b1984 [.slice none 0 0, .slice none 0 0, .slice none 0 0] :: Arr v1993 1 c1994 :: Arr (.slice (some ⟨b1999, 0, none⟩) (x2.length : Int).toNat (x2.length : Int).toNat) 1 c2072 :: Box b2147 [v3063, v3067, .slice none 0 0] :: Arr v3063 256 c3064 :: Arr v3067 1 c3068 :: hs)) ?_ ?_
              · exact fun a hf => ⟨c3310, x3307, 0, rfl, hc3311.2, hc3311.1, hf.sub ⟨rfl, rfl, rfl, rfl, rfl, rfl, rfl, rfl, rfl, rfl, rfl, trivial⟩, H⟩
              · rintro s o3431 a wd3434 ⟨c3406, x3407, x3410, rfl, r3408, lp3409, hf, H⟩ hB3432 hO3433
                replace hB3432 : F_trim_Trim_l2 N x2073 x3307 x3407 x3410 = some o3431 := hB3432
                unfold F_trim_Trim_l2 at hB3432
                refine CW.at hf <| C_seq <| R_nd <| nq (Q_lss rfl rfl) rfl rfl <| WL_nil <| x_then <| C_seq ?_
                refine C_cond rfl (fun hb => ?_) (fun hb => ?_)
                · replace hB3432 := itT hb hB3432
                  refine C_skip <| x_then <| C_seq <| C_block <| C_seq <| R_nd <| nq (Q_move rfl) rfl rfl ?_
                  obtain ⟨x3435, hx3435, hB3432⟩ := bnd hB3432
                  refine nq (Q_ixI hc3311.2 hc3311.1 hx3435 Tryd.underlying58 rfl rfl ty3 rfl) rfl rfl <| nq (Q_assign rfl) rfl rfl <| nq (Q_assign rfl) rfl rfl <| WL_nil <| x_then <| R_nd <| nq (Q_move rfl) rfl rfl <| nq (Q_move rfl) rfl rfl <| nq (Q_move rfl) rfl rfl ?_
                  obtain ⟨x3436, hx3436, hB3432⟩ := bnd hB3432
                  obtain ⟨b3437, o3438, hi3442, hc3440, ha3441⟩ := arr_at (hs := [Arr (.slice (some ⟨b1999, 0, none⟩) (x2.length : Int).toNat (x2.length : Int).toNat) 1 c2072]) (k := 0) (by decide) (H.okS (by simp)) rfl r2074 hx3436
                  refine nq (Q_idx hi3442 Tryd.underlying23 ty3 rfl rfl) rfl rfl <| nq (v := .int .i64 x3436) (Q_ld (show cellsAt _ _ _ [.int .i64 x3436] from (show _ = [_] from hc3440) ▸ (ha3441 _ (Ok.subS (by simp) H.ok))) ty3 rfl (fun _ => rfl) rfl rfl) rfl rfl ?_
                  obtain ⟨x3443, hx3443, hB3432⟩ := bnd hB3432
                  have hn3445 := idx_lt (N := 256) (lp3409) hx3443
                  have hi3444 : IdxOk (.slice (some ⟨b3314, 0, none⟩) 256 256) x3410 1 b3314 (0 + x3410.toNat * 1) := ⟨0, 256, 256, rfl, hn3445.1, hn3445.2, rfl⟩
                  refine nq (Q_idxA hn3445.1 hn3445.2 Tryd.underlying58 ty3 rfl rfl) rfl rfl ?_
                  obtain ⟨x3446, hx3446, hB3432⟩ := bnd hB3432
                  obtain ⟨hs3447a, hs3447b, hs3447c⟩ := setI_some hx3446
                  have r3448 : rdL (eI .i64) ρ x3446 (setC c3406 (x3410.toNat * 1 + 0) [.int .i64 x3436]) := hs3447c ▸ rdL.set r3408 hs3447b (rfl)
                  refine ne (E_stA (k := 1) (j := 0) (c := [.int .i64 x3436]) H rfl ty3 hi3444 rfl rfl rfl rfl (one_cons rfl one_nil) (by decide)) rfl rfl ?_
                  rintro _ wd3449 H
                  dsimp only [List.set] at H
                  refine WL_nil <| x_block <| x_then <| R_nd <| nq (Q_add rfl rfl) rfl rfl <| nq (Q_move rfl) rfl rfl <| WL_nil ?_
                  replace H := H.front 7 rfl
                  dsimp only [List.eraseIdx] at H
                  replace H := H.front 7 rfl
                  dsimp only [List.eraseIdx] at H
                  replace H := H.front 7 rfl
                  dsimp only [List.eraseIdx] at H
                  replace H := H.front 7 rfl
                  dsimp only [List.eraseIdx] at H
                  replace H := H.front 7 rfl
                  dsimp only [List.eraseIdx] at H
                  replace H := H.front 7 rfl
                  dsimp only [List.eraseIdx] at H
                  replace H := H.front 7 rfl
                  dsimp only [List.eraseIdx] at H
                  replace H := H.front 7 rfl
                  dsimp only [List.eraseIdx] at H
                  obtain rfl := Option.some.inj hB3432
                  refine x_A fun a hf => ⟨_, rfl, (setC c3406 (x3410.toNat * 1 + 0) [.int .i64 x3436]), x3446, w64 (x3410 + 1), rfl, r3448, (setI_len hx3446 lp3409), hf.sub ⟨rfl, rfl, rfl, rfl, rfl, rfl, rfl, rfl, rfl, rfl, rfl, trivial⟩, H⟩
                · replace hB3432 := itF hb hB3432
                  refine C_exit <| x_then_exit <| x_then_exit <| x_block_exit ?_
                  replace H := H.front 7 rfl
                  dsimp only [List.eraseIdx] at H
                  replace H := H.front 7 rfl
                  dsimp only [List.eraseIdx] at H
                  replace H := H.front 7 rfl
                  dsimp only [List.eraseIdx] at H
                  replace H := H.front 7 rfl
                  dsimp only [List.eraseIdx] at H
                  replace H := H.front 7 rfl
                  dsimp only [List.eraseIdx] at H
                  replace H := H.front 7 rfl
                  dsimp only [List.eraseIdx] at H
                  replace H := H.front 7 rfl
                  dsimp only [List.eraseIdx] at H
                  replace H := H.front 7 rfl
                  dsimp only [List.eraseIdx] at H
                  obtain rfl := Option.some.inj hB3432
                  obtain rfl := hO3433 _ rfl
                  refine x_A fun a hf => ⟨c3406, x3407, rfl, r3408, lp3409, hf.sub ⟨rfl, rfl, rfl, rfl, rfl, rfl, rfl, rfl, rfl, trivial⟩, H⟩
            · rintro a wd3450 ⟨c3381, x3382, rfl, r3383, lp3384, hf, H⟩
              try dsimp only at hB3297
              refine XX.at hf <| x_then <| C_seq <| R_nd <| nq (v := .pointer (some ⟨b2147, 0, none⟩)) (Q_fld Tryd.underlying25 rfl ty22 (by decide) rfl rfl) rfl rfl <| nq (v := v3063) (Q_ldB (k := 5) (cs := [v3063]) H.ok rfl ty22 rfl rfl rfl (fun _ => rfl) rfl) rfl rfl <| nq (Q_ldW (k := 1) H.ok rfl ty58 rfl (arr_clen r3383 lp3384)) rfl rfl <| ne (E_bslice (xs := [.tmp 62]) (vs := [.agg c3381.toArray]) H Tryd.underlying22 ty58 (by decide) (cs := c3381) rfl (sz_cons (arr_clen r3383 lp3384) sz_nil) (by simp [Value.cells]) (by simp) (by simp) rfl rfl) rfl rfl ?_
              rintro _ wd3452 ⟨b3451, rfl, H⟩
              obtain ⟨x3453, hx3453, hB3297⟩ := bnd hB3297
              obtain ⟨ha3454a, ha3454b⟩ := app_some hx3453
              have r3456 : rdL (eA 256 (eI .i64)) ρ x3453 (c3064 ++ c3381) := ha3454b ▸ rdL.app r3066 (show rdL (eA 256 (eI .i64)) ρ ([x3382]) c3381 from rdL.single ⟨lp3384, r3383⟩)
              refine ne (E_append (k := 7) H rfl Tryd.underlying22 ty58 rfl (by decide) (by decide) rfl rfl (Src.ofArr (k := 0) H.ok rfl) (rdL.one (show rdL (eA 256 (eI .i64)) ρ ([x3382]) c3381 from rdL.single ⟨lp3384, r3383⟩)) (app_fit r3066 (show rdL (eA 256 (eI .i64)) ρ ([x3382]) c3381 from rdL.single ⟨lp3384, r3383⟩) ha3454a)) rfl rfl ?_
              rintro v3455 wd3458 ⟨H, hc3457⟩
              dsimp only [List.set] at H
              refine nq (v := .pointer (some ⟨b2147, 0, none⟩)) (Q_fld Tryd.underlying25 rfl ty22 (by decide) rfl rfl) rfl rfl <| ne (E_stB (k := 6) (cs := [v3455]) (vs' := [v3455, v3067, .slice none 0 0]) H rfl ty22 rfl rfl (arr_cells (H.ok.get (k := 7) rfl)).1 rfl (one_cons (arr_cells (H.ok.get (k := 7) rfl)).2 one_nil) (by simp) rfl) rfl rfl ?_
              rintro _ wd3459 H
              dsimp only [List.set] at H
              refine WL_nil <| x_then ?_
              obtain ⟨o3489, ho3489, hB3297⟩ := bnd hB3297
              refine C_cutQ (fun a w' => ∃ (v3485 : Value) (c3486 : (List Value)) (x3487 : (List Int)), x3487 = o3489 ∧ rdL (eI .i64) ρ x3487 c3486 ∧ Fr 95 a [(1, .pointer (some ⟨b1982, 0, none⟩)), (2, .pointer (some ⟨b1984, 0, none⟩)), (4, (.slice (some ⟨b1999, 0, none⟩) (x2.length : Int).toNat (x2.length : Int).toNat)), (7, .pointer (some ⟨b2147, 0, none⟩)), (37, v1993), (38, .int .i64 (x1995.length : Int)), (39, .int .i64 x3062)] ∧ Hp C w' ρ (Box b1982 [v1, v4, v7] :: Box b1984 [.slice none 0 0, .slice none 0 0, .slice none 0 0] :: Arr v1993 1 c1994 :: Arr (.slice (some ⟨b1999, 0, none⟩) (x2.length : Int).toNat (x2.length : Int).toNat) 1 c2072 :: Box b2147 [v3455, v3485, .slice none 0 0] :: Arr v3455 256 (c3064 ++ c3381) :: Arr v3485 1 c3486 :: hs)) ?_ ?_
              · refine R_dr (.take 0 (.take 2 (.take 3 (.take 4 (.take 5 (.take 6 (.two 1 7 (.one 7 (.one 8 (.take 9 (.one 10 .done)))) (.one 1 (.one 8 (.take 9 (.one 10 .done))))))))))) (fun w' => Ok w' ρ [Arr (.slice (some ⟨b3451, 0, none⟩) 1 1) 256 c3381, Box b1982 [v1, v4, v7], Arr (.slice (some ⟨b3314, 0, none⟩) 256 256) 1 c3381, Box b1984 [.slice none 0 0, .slice none 0 0, .slice none 0 0], Arr v1993 1 c1994, Arr (.slice (some ⟨b1999, 0, none⟩) (x2.length : Int).toNat (x2.length : Int).toNat) 1 c2072, Arr v3455 256 (c3064 ++ c3381)]) (by kernel_rfl) (by kernel_rfl) (by kernel_rfl) (H.drew.okS (by simp)) ?_
                replace H := H.drew
                refine dq (v := .pointer (some ⟨b2147, 1, none⟩)) rfl (fun _ _ => Q_fld Tryd.underlying25 rfl ty23 (by decide) rfl rfl) rfl rfl <| dq (v := .pointer (some ⟨b1982, 1, none⟩)) rfl (fun _ _ => Q_fld Tryd.underlying25 rfl ty23 (by decide) rfl rfl) rfl rfl <| dq (v := v4) rfl (fun _ hw => Q_ldB (k := 1) (cs := [v4]) hw rfl ty23 rfl rfl rfl (fun _ => rfl) rfl) rfl rfl <| dq rfl (fun _ _ => Q_move rfl) rfl rfl ?_
                obtain ⟨x3490, hx3490, ho3489⟩ := bnd ho3489
                obtain ⟨b3491, o3492, c3493, hc3494, ha3495, hi3496⟩ := idxR r6 hx3490
                refine dq rfl (fun _ _ => Q_idx hi3496 Tryd.underlying23 ty3 rfl rfl) rfl rfl <| dq (v := .int .i64 x3490) rfl (fun _ hw => Q_ld (show cellsAt _ _ _ [.int .i64 x3490] from (show _ = [_] from hc3494) ▸ (ha3495.up hw.view)) ty3 rfl (fun _ => rfl) rfl rfl) rfl rfl ?_
                refine d2 ?_ ?_
                · refine de rfl (Eff.quiet (v := v3067) (Q_ldB (k := 6) (cs := [v3067]) H.ok rfl ty23 rfl rfl rfl (fun _ => rfl) rfl)) rfl rfl ?_
                  rintro _ _ ⟨rfl, rfl⟩
                  refine ⟨H.okS (by simp), ?_⟩
                  refine d1 (de rfl (E_bslice (xs := [.tmp 72]) (vs := [.int .i64 x3490]) H Tryd.underlying23 ty3 (by decide) (cs := [.int .i64 x3490]) rfl (sz_cons rfl sz_nil) rfl (by simp) (by simp) rfl rfl) rfl rfl ?_)
                  rintro _ wd3498 ⟨b3497, rfl, H⟩
                  refine ⟨H.okS (by simp), ?_⟩
                  obtain ⟨x3499, hx3499, ho3489⟩ := bnd ho3489
                  obtain ⟨ha3500a, ha3500b⟩ := app_some hx3499
                  have r3502 : rdL (eI .i64) ρ x3499 (c3068 ++ ([.int .i64 x3490])) := ha3500b ▸ rdL.app r3070 (show rdL (eI .i64) ρ ([x3490]) ([.int .i64 x3490]) from ⟨([.int .i64 x3490]), _, rfl, rfl, rdL.nil⟩)
                  refine d1 (de rfl (E_append (k := 9) H rfl Tryd.underlying23 ty3 rfl (by decide) (by decide) rfl rfl (Src.ofArr (k := 0) H.ok rfl) (rdL.one (show rdL (eI .i64) ρ ([x3490]) ([.int .i64 x3490]) from ⟨([.int .i64 x3490]), _, rfl, rfl, rdL.nil⟩)) (app_fit r3070 (show rdL (eI .i64) ρ ([x3490]) ([.int .i64 x3490]) from ⟨([.int .i64 x3490]), _, rfl, rfl, rdL.nil⟩) ha3500a)) rfl rfl ?_)
                  rintro v3501 wd3504 ⟨H, hc3503⟩
                  dsimp only [List.set] at H
                  refine ⟨H.okS (by simp), ?_⟩
                  refine dq (v := .pointer (some ⟨b2147, 1, none⟩)) rfl (fun _ _ => Q_fld Tryd.underlying25 rfl ty23 (by decide) rfl rfl) rfl rfl ?_
                  refine d1 (de rfl (E_stB (k := 7) (cs := [v3501]) (vs' := [v3455, v3501, .slice none 0 0]) H rfl ty23 rfl rfl (arr_cells (H.ok.get (k := 9) rfl)).1 rfl (one_cons (arr_cells (H.ok.get (k := 9) rfl)).2 one_nil) (by simp) rfl) rfl rfl ?_)
                  rintro _ wd3505 H
                  dsimp only [List.set] at H
                  refine ⟨H.okS (by simp), ?_⟩
                  refine DL_nil ?_
                  replace H := H.front 9 rfl
                  dsimp only [List.eraseIdx] at H
                  replace H := H.front 9 rfl
                  dsimp only [List.eraseIdx] at H
                  replace H := H.front 9 rfl
                  dsimp only [List.eraseIdx] at H
                  replace H := H.front 9 rfl
                  dsimp only [List.eraseIdx] at H
                  replace H := H.front 9 rfl
                  dsimp only [List.eraseIdx] at H
                  replace H := H.front 9 rfl
                  dsimp only [List.eraseIdx] at H
                  replace H := H.front 8 rfl
                  dsimp only [List.eraseIdx] at H
                  replace H := H.drop 7 rfl
                  dsimp only [List.eraseIdx] at H
                  replace H := H.drop 7 rfl
                  dsimp only [List.eraseIdx] at H
                  replace H := H.drop 7 rfl
                  dsimp only [List.eraseIdx] at H
                  obtain rfl := Option.some.inj ho3489
                  refine x_A fun a hf => ⟨v3501, (c3068 ++ ([.int .i64 x3490])), x3499, rfl, r3502, hf.sub ⟨rfl, rfl, rfl, rfl, rfl, rfl, rfl, trivial⟩, H⟩
                · refine de rfl (E_bslice (xs := [.tmp 72]) (vs := [.int .i64 x3490]) H Tryd.underlying23 ty3 (by decide) (cs := [.int .i64 x3490]) rfl (sz_cons rfl sz_nil) rfl (by simp) (by simp) rfl rfl) rfl rfl ?_
                  rintro _ wd3507 ⟨b3506, rfl, H⟩
                  refine ⟨H.okS (by simp), ?_⟩
                  refine d1 (de rfl (Eff.quiet (v := v3067) (Q_ldB (k := 7) (cs := [v3067]) H.ok rfl ty23 rfl rfl rfl (fun _ => rfl) rfl)) rfl rfl ?_)
                  rintro _ _ ⟨rfl, rfl⟩
                  refine ⟨H.okS (by simp), ?_⟩
                  obtain ⟨x3508, hx3508, ho3489⟩ := bnd ho3489
                  obtain ⟨ha3509a, ha3509b⟩ := app_some hx3508
                  have r3511 : rdL (eI .i64) ρ x3508 (c3068 ++ ([.int .i64 x3490])) := ha3509b ▸ rdL.app r3070 (show rdL (eI .i64) ρ ([x3490]) ([.int .i64 x3490]) from ⟨([.int .i64 x3490]), _, rfl, rfl, rdL.nil⟩)
                  refine d1 (de rfl (E_append (k := 9) H rfl Tryd.underlying23 ty3 rfl (by decide) (by decide) rfl rfl (Src.ofArr (k := 0) H.ok rfl) (rdL.one (show rdL (eI .i64) ρ ([x3490]) ([.int .i64 x3490]) from ⟨([.int .i64 x3490]), _, rfl, rfl, rdL.nil⟩)) (app_fit r3070 (show rdL (eI .i64) ρ ([x3490]) ([.int .i64 x3490]) from ⟨([.int .i64 x3490]), _, rfl, rfl, rdL.nil⟩) ha3509a)) rfl rfl ?_)
                  rintro v3510 wd3513 ⟨H, hc3512⟩
                  dsimp only [List.set] at H
                  refine ⟨H.okS (by simp), ?_⟩
                  refine dq (v := .pointer (some ⟨b2147, 1, none⟩)) rfl (fun _ _ => Q_fld Tryd.underlying25 rfl ty23 (by decide) rfl rfl) rfl rfl ?_
                  refine d1 (de rfl (E_stB (k := 7) (cs := [v3510]) (vs' := [v3455, v3510, .slice none 0 0]) H rfl ty23 rfl rfl (arr_cells (H.ok.get (k := 9) rfl)).1 rfl (one_cons (arr_cells (H.ok.get (k := 9) rfl)).2 one_nil) (by simp) rfl) rfl rfl ?_)
                  rintro _ wd3514 H
                  dsimp only [List.set] at H
                  refine ⟨H.okS (by simp), ?_⟩
                  refine DL_nil ?_
                  replace H := H.front 9 rfl
                  dsimp only [List.eraseIdx] at H
                  replace H := H.front 9 rfl
                  dsimp only [List.eraseIdx] at H
                  replace H := H.front 9 rfl
                  dsimp only [List.eraseIdx] at H
                  replace H := H.front 9 rfl
                  dsimp only [List.eraseIdx] at H
                  replace H := H.front 9 rfl
                  dsimp only [List.eraseIdx] at H
                  replace H := H.front 9 rfl
                  dsimp only [List.eraseIdx] at H
                  replace H := H.front 8 rfl
                  dsimp only [List.eraseIdx] at H
                  replace H := H.drop 7 rfl
                  dsimp only [List.eraseIdx] at H
                  replace H := H.drop 7 rfl
                  dsimp only [List.eraseIdx] at H
                  replace H := H.drop 7 rfl
                  dsimp only [List.eraseIdx] at H
                  obtain rfl := Option.some.inj ho3489
                  refine x_A fun a hf => ⟨v3510, (c3068 ++ ([.int .i64 x3490])), x3508, rfl, r3511, hf.sub ⟨rfl, rfl, rfl, rfl, rfl, rfl, rfl, trivial⟩, H⟩
              · rintro a wd3515 ⟨v3485, c3486, x3487, rfl, r3488, hf, H⟩
                try dsimp only at hB3297
                refine XX.at hf <| x_block <| x_then <| R_nd <| nq (Q_add rfl rfl) rfl rfl <| nq (Q_move rfl) rfl rfl <| WL_nil ?_
                replace H := H.front 6 rfl
                dsimp only [List.eraseIdx] at H
                replace H := H.front 6 rfl
                dsimp only [List.eraseIdx] at H
                replace H := H.front 6 rfl
                dsimp only [List.eraseIdx] at H
                replace H := H.front 6 rfl
                dsimp only [List.eraseIdx] at H
                replace H := H.front 6 rfl
                dsimp only [List.eraseIdx] at H
                replace H := H.front 6 rfl
                dsimp only [List.eraseIdx] at H
                replace H := H.front 6 rfl
                dsimp only [List.eraseIdx] at H
                obtain rfl := Option.some.inj hB3297
                refine x_A fun a hf => ⟨_, rfl, v3455, (c3064 ++ c3381), v3485, c3486, w64 (x3062 + 1), x3453, x3487, rfl, r3456, r3488, hf.sub ⟨rfl, rfl, rfl, rfl, rfl, rfl, rfl, trivial⟩, H⟩
          · replace hB3297 := itF hb hB3297
            refine C_exit <| x_then_exit <| x_then_exit <| x_block_exit ?_
            replace H := H.front 6 rfl
            dsimp only [List.eraseIdx] at H
            replace H := H.front 6 rfl
            dsimp only [List.eraseIdx] at H
            replace H := H.front 6 rfl
            dsimp only [List.eraseIdx] at H
            replace H := H.front 6 rfl
            dsimp only [List.eraseIdx] at H
            replace H := H.front 5 rfl
            dsimp only [List.eraseIdx] at H
            replace H := H.front 5 rfl
            dsimp only [List.eraseIdx] at H
            replace H := H.drop 6 rfl
            dsimp only [List.eraseIdx] at H
            obtain rfl := Option.some.inj hB3297
            obtain rfl := hO3298 _ rfl
            refine x_A fun a hf => ⟨v3063, c3064, v3067, c3068, x3065, x3069, rfl, r3066, r3070, hf.sub ⟨rfl, rfl, rfl, rfl, trivial⟩, H⟩
      · rintro a wd3516 ⟨v2828, c2829, v2832, c2833, x2830, x2834, rfl, r2831, r2835, hf, H⟩
        try dsimp only at hF
        refine XX.at hf <| x_then <| C_seq <| C_seq <| R_nd <| nq (v := .pointer (some ⟨b1982, 2, none⟩)) (Q_fld Tryd.underlying25 rfl ty23 (by decide) rfl rfl) rfl rfl <| nq (v := v7) (Q_ldB (k := 0) (cs := [v7]) H.ok rfl ty23 rfl rfl rfl (fun _ => rfl) rfl) rfl rfl <| nq (Q_len Tryd.underlying23 rfl r9) rfl rfl <| nq (Q_move rfl) rfl rfl <| WL_nil <| x_then ?_
        obtain ⟨o3729, ho3729, hF⟩ := bnd hF
        refine C_cutQ (fun a w' => ∃ (v3725 : Value) (c3726 : (List Value)) (x3727 : (List Int)), x3727 = o3729 ∧ rdL (eI .i64) ρ x3727 c3726 ∧ Fr 95 a [(2, .pointer (some ⟨b1984, 0, none⟩)), (7, .pointer (some ⟨b2147, 0, none⟩))] ∧ Hp C w' ρ (Box b1984 [.slice none 0 0, .slice none 0 0, .slice none 0 0] :: Box b2147 [v2828, v2832, v3725] :: Arr v2828 256 c2829 :: Arr v2832 1 c2833 :: Arr v3725 1 c3726 :: hs)) ?_ ?_
        · refine C_block ?_
          have H := H.nilArr 1
          replace H := H.front 6 rfl
          dsimp only [List.eraseIdx] at H
          replace H := H.front 6 rfl
          dsimp only [List.eraseIdx] at H
          replace H := H.front 6 rfl
          dsimp only [List.eraseIdx] at H
          replace H := H.front 6 rfl
          dsimp only [List.eraseIdx] at H
          replace H := H.front 6 rfl
          dsimp only [List.eraseIdx] at H
          replace H := H.drop 6 rfl
          dsimp only [List.eraseIdx] at H
          refine C_iter (f := fun s => F_trim_Trim_l3 N x8 x2073 s.1 s.2) ho3729 (fun s a w' => ∃ (v3798 : Value) (c3799 : (List Value)) (x3800 : (List Int)) (x3802 : Int), (x3800, x3802) = s ∧ rdL (eI .i64) ρ x3800 c3799 ∧ Fr 95 a [(2, .pointer (some ⟨b1984, 0, none⟩)), (4, (.slice (some ⟨b1999, 0, none⟩) (x2.length : Int).toNat (x2.length : Int).toNat)), (7, .pointer (some ⟨b2147, 0, none⟩)), (78, v7), (79, .int .i64 (x8.length : Int)), (80, .int .i64 x3802)] ∧ Hp C w' ρ (Box b1984 [.slice none 0 0, .slice none 0 0, .slice none 0 0] :: Arr (.slice (some ⟨b1999, 0, none⟩) (x2.length : Int).toNat (x2.length : Int).toNat) 1 c2072 :: Box b2147 [v2828, v2832, v3798] :: Arr v2828 256 c2829 :: Arr v2832 1 c2833 :: Arr v3798 1 c3799 :: hs)) ?_ ?_
          · exact fun a hf => ⟨(.slice none 0 0), [], [], 0, rfl, rdL.nil, hf.sub ⟨rfl, rfl, rfl, rfl, rfl, rfl, trivial⟩, H⟩
          · rintro s o3871 a wd3874 ⟨v3798, c3799, x3800, x3802, rfl, r3801, hf, H⟩ hB3872 hO3873
            replace hB3872 : F_trim_Trim_l3 N x8 x2073 x3800 x3802 = some o3871 := hB3872
            unfold F_trim_Trim_l3 at hB3872
            refine CW.at hf <| C_seq <| R_nd <| nq (Q_lss rfl rfl) rfl rfl <| WL_nil <| x_then <| C_seq ?_
            refine C_cond rfl (fun hb => ?_) (fun hb => ?_)
            · replace hB3872 := itT hb hB3872
              refine C_skip <| x_then <| C_seq <| C_block <| C_seq <| R_nd ?_
              obtain ⟨x3875, hx3875, hB3872⟩ := bnd hB3872
              obtain ⟨b3876, o3877, c3878, hc3879, ha3880, hi3881⟩ := idxR r9 hx3875
              refine nq (Q_idx hi3881 Tryd.underlying23 ty3 rfl rfl) rfl rfl <| nq (v := .int .i64 x3875) (Q_ld (show cellsAt _ _ _ [.int .i64 x3875] from (show _ = [_] from hc3879) ▸ (ha3880.up H.ok.view)) ty3 rfl (fun _ => rfl) rfl rfl) rfl rfl <| nq (Q_assign rfl) rfl rfl <| WL_nil <| x_then ?_
              obtain ⟨o3911, ho3911, hB3872⟩ := bnd hB3872
              refine C_cutQ (fun a w' => ∃ (v3907 : Value) (c3908 : (List Value)) (x3909 : (List Int)), x3909 = o3911 ∧ rdL (eI .i64) ρ x3909 c3908 ∧ Fr 95 a [(2, .pointer (some ⟨b1984, 0, none⟩)), (4, (.slice (some ⟨b1999, 0, none⟩) (x2.length : Int).toNat (x2.length : Int).toNat)), (7, .pointer (some ⟨b2147, 0, none⟩)), (78, v7), (79, .int .i64 (x8.length : Int)), (80, .int .i64 x3802)] ∧ Hp C w' ρ (Box b1984 [.slice none 0 0, .slice none 0 0, .slice none 0 0] :: Arr (.slice (some ⟨b1999, 0, none⟩) (x2.length : Int).toNat (x2.length : Int).toNat) 1 c2072 :: Box b2147 [v2828, v2832, v3907] :: Arr v2828 256 c2829 :: Arr v2832 1 c2833 :: Arr v3907 1 c3908 :: hs)) ?_ ?_
              · refine R_dr (.take 0 (.take 2 (.take 3 (.take 4 (.take 5 (.two 1 6 (.one 6 (.one 7 (.take 8 (.one 9 .done)))) (.one 1 (.one 7 (.take 8 (.one 9 .done)))))))))) (fun w' => Ok w' ρ [Box b1984 [.slice none 0 0, .slice none 0 0, .slice none 0 0], Arr (.slice (some ⟨b1999, 0, none⟩) (x2.length : Int).toNat (x2.length : Int).toNat) 1 c2072, Arr v2828 256 c2829, Arr v2832 1 c2833]) (by kernel_rfl) (by kernel_rfl) (by kernel_rfl) (H.drew.okS (by simp)) ?_
                replace H := H.drew
                refine dq (v := .pointer (some ⟨b2147, 2, none⟩)) rfl (fun _ _ => Q_fld Tryd.underlying25 rfl ty23 (by decide) rfl rfl) rfl rfl <| dq rfl (fun _ _ => Q_move rfl) rfl rfl <| dq rfl (fun _ _ => Q_move rfl) rfl rfl ?_
                obtain ⟨x3912, hx3912, ho3911⟩ := bnd ho3911
                obtain ⟨b3913, o3914, hi3918, hc3916, ha3917⟩ := arr_at (hs := [Arr (.slice (some ⟨b1999, 0, none⟩) (x2.length : Int).toNat (x2.length : Int).toNat) 1 c2072]) (k := 0) (by decide) (H.okS (by simp)) rfl r2074 hx3912
                refine dq rfl (fun _ _ => Q_idx hi3918 Tryd.underlying23 ty3 rfl rfl) rfl rfl <| dq (v := .int .i64 x3912) rfl (fun _ hw => Q_ld (show cellsAt _ _ _ [.int .i64 x3912] from (show _ = [_] from hc3916) ▸ (ha3917 _ (Ok.subS (by simp) hw))) ty3 rfl (fun _ => rfl) rfl rfl) rfl rfl ?_
                refine d2 ?_ ?_
                · refine de rfl (Eff.quiet (v := v3798) (Q_ldB (k := 2) (cs := [v3798]) H.ok rfl ty23 rfl rfl rfl (fun _ => rfl) rfl)) rfl rfl ?_
                  rintro _ _ ⟨rfl, rfl⟩
                  refine ⟨H.okS (by simp), ?_⟩
                  refine d1 (de rfl (E_bslice (xs := [.tmp 89]) (vs := [.int .i64 x3912]) H Tryd.underlying23 ty3 (by decide) (cs := [.int .i64 x3912]) rfl (sz_cons rfl sz_nil) rfl (by simp) (by simp) rfl rfl) rfl rfl ?_)
                  rintro _ wd3920 ⟨b3919, rfl, H⟩
                  refine ⟨H.okS (by simp), ?_⟩
                  obtain ⟨x3921, hx3921, ho3911⟩ := bnd ho3911
                  obtain ⟨ha3922a, ha3922b⟩ := app_some hx3921
                  have r3924 : rdL (eI .i64) ρ x3921 (c3799 ++ ([.int .i64 x3912])) := ha3922b ▸ rdL.app r3801 (show rdL (eI .i64) ρ ([x3912]) ([.int .i64 x3912]) from ⟨([.int .i64 x3912]), _, rfl, rfl, rdL.nil⟩)
                  refine d1 (de rfl (E_append (k := 6) H rfl Tryd.underlying23 ty3 rfl (by decide) (by decide) rfl rfl (Src.ofArr (k := 0) H.ok rfl) (rdL.one (show rdL (eI .i64) ρ ([x3912]) ([.int .i64 x3912]) from ⟨([.int .i64 x3912]), _, rfl, rfl, rdL.nil⟩)) (app_fit r3801 (show rdL (eI .i64) ρ ([x3912]) ([.int .i64 x3912]) from ⟨([.int .i64 x3912]), _, rfl, rfl, rdL.nil⟩) ha3922a)) rfl rfl ?_)
                  rintro v3923 wd3926 ⟨H, hc3925⟩
                  dsimp only [List.set] at H
                  refine ⟨H.okS (by simp), ?_⟩
                  refine dq (v := .pointer (some ⟨b2147, 2, none⟩)) rfl (fun _ _ => Q_fld Tryd.underlying25 rfl ty23 (by decide) rfl rfl) rfl rfl ?_
                  refine d1 (de rfl (E_stB (k := 3) (cs := [v3923]) (vs' := [v2828, v2832, v3923]) H rfl ty23 rfl rfl (arr_cells (H.ok.get (k := 6) rfl)).1 rfl (one_cons (arr_cells (H.ok.get (k := 6) rfl)).2 one_nil) (by simp) rfl) rfl rfl ?_)
                  rintro _ wd3927 H
                  dsimp only [List.set] at H
                  refine ⟨H.okS (by simp), ?_⟩
                  refine DL_nil ?_
                  replace H := H.front 6 rfl
                  dsimp only [List.eraseIdx] at H
                  replace H := H.front 6 rfl
                  dsimp only [List.eraseIdx] at H
                  replace H := H.front 6 rfl
                  dsimp only [List.eraseIdx] at H
                  replace H := H.front 6 rfl
                  dsimp only [List.eraseIdx] at H
                  replace H := H.front 6 rfl
                  dsimp only [List.eraseIdx] at H
                  replace H := H.front 6 rfl
                  dsimp only [List.eraseIdx] at H
                  replace H := H.drop 6 rfl
                  dsimp only [List.eraseIdx] at H
                  obtain rfl := Option.some.inj ho3911
                  refine x_A fun a hf => ⟨v3923, (c3799 ++ ([.int .i64 x3912])), x3921, rfl, r3924, hf.sub ⟨rfl, rfl, rfl, rfl, rfl, rfl, trivial⟩, H⟩
                · refine de rfl (E_bslice (xs := [.tmp 89]) (vs := [.int .i64 x3912]) H Tryd.underlying23 ty3 (by decide) (cs := [.int .i64 x3912]) rfl (sz_cons rfl sz_nil) rfl (by simp) (by simp) rfl rfl) rfl rfl ?_
                  rintro _ wd3929 ⟨b3928, rfl, H⟩
                  refine ⟨H.okS (by simp), ?_⟩
                  refine d1 (de rfl (Eff.quiet (v := v3798) (Q_ldB (k := 3) (cs := [v3798]) H.ok rfl ty23 rfl rfl rfl (fun _ => rfl) rfl)) rfl rfl ?_)
                  rintro _ _ ⟨rfl, rfl⟩
                  refine ⟨H.okS (by simp), ?_⟩
                  obtain ⟨x3930, hx3930, ho3911⟩ := bnd ho3911
                  obtain ⟨ha3931a, ha3931b⟩ := app_some hx3930
                  have r3933 : rdL (eI .i64) ρ x3930 (c3799 ++ ([.int .i64 x3912])) := ha3931b ▸ rdL.app r3801 (show rdL (eI .i64) ρ ([x3912]) ([.int .i64 x3912]) from ⟨([.int .i64 x3912]), _, rfl, rfl, rdL.nil⟩)
                  refine d1 (de rfl (E_append (k := 6) H rfl Tryd.underlying23 ty3 rfl (by decide) (by decide) rfl rfl (Src.ofArr (k := 0) H.ok rfl) (rdL.one (show rdL (eI .i64) ρ ([x3912]) ([.int .i64 x3912]) from ⟨([.int .i64 x3912]), _, rfl, rfl, rdL.nil⟩)) (app_fit r3801 (show rdL (eI .i64) ρ ([x3912]) ([.int .i64 x3912]) from ⟨([.int .i64 x3912]), _, rfl, rfl, rdL.nil⟩) ha3931a)) rfl rfl ?_)
                  rintro v3932 wd3935 ⟨H, hc3934⟩
                  dsimp only [List.set] at H
                  refine ⟨H.okS (by simp), ?_⟩
                  refine dq (v := .pointer (some ⟨b2147, 2, none⟩)) rfl (fun _ _ => Q_fld Tryd.underlying25 rfl ty23 (by decide) rfl rfl) rfl rfl ?_
                  refine d1 (de rfl (E_stB (k := 3) (cs := [v3932]) (vs' := [v2828, v2832, v3932]) H rfl ty23 rfl rfl (arr_cells (H.ok.get (k := 6) rfl)).1 rfl (one_cons (arr_cells (H.ok.get (k := 6) rfl)).2 one_nil) (by simp) rfl) rfl rfl ?_)
                  rintro _ wd3936 H
                  dsimp only [List.set] at H
                  refine ⟨H.okS (by simp), ?_⟩
                  refine DL_nil ?_
                  replace H := H.front 6 rfl
                  dsimp only [List.eraseIdx] at H
                  replace H := H.front 6 rfl
                  dsimp only [List.eraseIdx] at H
                  replace H := H.front 6 rfl
                  dsimp only [List.eraseIdx] at H
                  replace H := H.front 6 rfl
                  dsimp only [List.eraseIdx] at H
                  replace H := H.front 6 rfl
                  dsimp only [List.eraseIdx] at H
                  replace H := H.front 6 rfl
                  dsimp only [List.eraseIdx] at H
                  replace H := H.drop 6 rfl
                  dsimp only [List.eraseIdx] at H
                  obtain rfl := Option.some.inj ho3911
                  refine x_A fun a hf => ⟨v3932, (c3799 ++ ([.int .i64 x3912])), x3930, rfl, r3933, hf.sub ⟨rfl, rfl, rfl, rfl, rfl, rfl, trivial⟩, H⟩
              · rintro a wd3937 ⟨v3907, c3908, x3909, rfl, r3910, hf, H⟩
                try dsimp only at hB3872
                refine XX.at hf <| x_block <| x_then <| R_nd <| nq (Q_add rfl rfl) rfl rfl <| nq (Q_move rfl) rfl rfl <| WL_nil ?_
                replace H := H.front 5 rfl
                dsimp only [List.eraseIdx] at H
                replace H := H.front 5 rfl
                dsimp only [List.eraseIdx] at H
                replace H := H.front 5 rfl
                dsimp only [List.eraseIdx] at H
                replace H := H.front 5 rfl
                dsimp only [List.eraseIdx] at H
                replace H := H.front 5 rfl
                dsimp only [List.eraseIdx] at H
                replace H := H.front 5 rfl
                dsimp only [List.eraseIdx] at H
                obtain rfl := Option.some.inj hB3872
                refine x_A fun a hf => ⟨_, rfl, v3907, c3908, x3909, w64 (x3802 + 1), rfl, r3910, hf.sub ⟨rfl, rfl, rfl, rfl, rfl, rfl, trivial⟩, H⟩
            · replace hB3872 := itF hb hB3872
              refine C_exit <| x_then_exit <| x_then_exit <| x_block_exit ?_
              replace H := H.front 5 rfl
              dsimp only [List.eraseIdx] at H
              replace H := H.front 5 rfl
              dsimp only [List.eraseIdx] at H
              replace H := H.front 5 rfl
              dsimp only [List.eraseIdx] at H
              replace H := H.front 5 rfl
              dsimp only [List.eraseIdx] at H
              replace H := H.front 4 rfl
              dsimp only [List.eraseIdx] at H
              replace H := H.drop 5 rfl
              dsimp only [List.eraseIdx] at H
              obtain rfl := Option.some.inj hB3872
              obtain rfl := hO3873 _ rfl
              refine x_A fun a hf => ⟨v3798, c3799, x3800, rfl, r3801, hf.sub ⟨rfl, rfl, trivial⟩, H⟩
        · rintro a wd3938 ⟨v3725, c3726, x3727, rfl, r3728, hf, H⟩
          try dsimp only at hF
          refine XX.at hf <| x_then <| C_seq <| R_nd <| nq (v := .agg #[v2828, v2832, v3725]) (Q_ldB (k := 1) (cs := [v2828, v2832, v3725]) H.ok rfl ty25 rfl rfl rfl (fun h => nomatch h) rfl) rfl rfl <| ne (E_stB (k := 0) (cs := [v2828, v2832, v3725]) (vs' := [v2828, v2832, v3725]) H rfl ty25 rfl rfl rfl rfl (one_cons (arr_cells (H.ok.get (k := 2) rfl)).2 (one_cons (arr_cells (H.ok.get (k := 3) rfl)).2 (one_cons (arr_cells (H.ok.get (k := 4) rfl)).2 one_nil))) (by simp) rfl) rfl rfl ?_
          rintro _ wd3939 H
          dsimp only [List.set] at H
          refine WL_nil <| x_then <| C_ret ?_
          have hRV : RV Tryd.prog wd3939 [(2, .pointer (some ⟨b1984, 0, none⟩))] [.cell 2 25] [.agg #[v2828, v2832, v3725]] := ⟨⟨_, rfl, run_ldv ty25 rfl (fun h => nomatch h) (box_at (H.ok.get (k := 0) rfl) 0 3)⟩, trivial⟩
          replace H := H.front 4 rfl
          dsimp only [List.eraseIdx] at H
          replace H := H.front 4 rfl
          dsimp only [List.eraseIdx] at H
          replace H := H.front 4 rfl
          dsimp only [List.eraseIdx] at H
          replace H := H.drop 3 rfl
          dsimp only [List.eraseIdx] at H
          replace H := H.drop 3 rfl
          dsimp only [List.eraseIdx] at H
          obtain rfl := Option.some.inj hF
          exact fn_retV (rs := [.cell 2 25]) (vs := [.agg #[v2828, v2832, v3725]]) rfl hRV ⟨v2828, c2829, v2832, c2833, v3725, c3726, x2830, x2834, x3727, rfl, rfl, r2831, r2835, r3728, H⟩
theorem c_69 {N : Nat} {C : Cx} {w : World} {ρ : View} {hs : List Hl} {v1 : Value} {v4 : Value} {x2 : (List (List Int))} {x5 : (List (List Int))} (H : Hp C w ρ (hs)) (r3 : RdSl ρ (eA 256 (eI .i64)) v1 x2) (r6 : RdSl ρ (eA 256 (eI .i64)) v4 x5) {r : Bool} (hF : F_slices_Equal_subset_Row_subset_Row N x2 x5 = some r) :
    Calls Tryd.prog 69 [v1, v4].toArray w (Rets (fun v w' => (∃ (x107 : Bool), x107 = r ∧ .bool x107 = v ∧ Hp C w' ρ (hs)))) := by
  unfold F_slices_Equal_subset_Row_subset_Row at hF
  have h0 : Tryd.f69.body = some _ := rfl
  refine fn_calls' Tryd.func69 h0 (n := 26) rfl (by simp) <| C_seq <| R_nd <| nq (Q_assign rfl) rfl rfl <| WL_nil <| x_then <| C_seq <| C_seq <| R_nd <| nq (Q_move rfl) rfl rfl <| nq (Q_len Tryd.underlying22 rfl r3) rfl rfl <| nq (Q_move rfl) rfl rfl <| nq (Q_len Tryd.underlying22 rfl r6) rfl rfl <| nq (Q_neq rfl rfl) rfl rfl ?_
  refine WL_nil <| x_then ?_
  refine C_cond rfl (fun hb => ?_) (fun hb => ?_)
  · replace hF := itT hb hF
    refine C_seq <| R_nd <| nq (Q_assign rfl) rfl rfl <| WL_nil <| x_then <| C_ret <| x_then_ret ?_
    obtain rfl := Option.some.inj hF
    exact fn_ret (l := [.tmp 4]) (vs := [.bool false]) rfl rfl rfl ⟨false, rfl, rfl, H⟩
  · replace hF := itF hb hF
    refine C_skip <| x_then <| C_seq <| C_seq <| R_nd <| nq (Q_move rfl) rfl rfl <| nq (Q_len Tryd.underlying22 rfl r3) rfl rfl <| nq (Q_move rfl) rfl rfl <| WL_nil <| x_then ?_
    obtain ⟨o157, ho157, hF⟩ := bnd hF
    refine C_cutQ (fun a w' => .inl () = o157 ∧ Fr 26 a [] ∧ Hp C w' ρ (hs)) ?_ ?_
    · refine C_block ?_
      refine C_iter (f := fun s => F_slices_Equal_subset_Row_subset_Row_l0 N x2 x5 s) ho157 (fun s a w' => ∃ (x173 : Int), x173 = s ∧ Fr 26 a [(0, v1), (1, v4), (12, .int .i64 (x2.length : Int)), (13, .int .i64 x173)] ∧ Hp C w' ρ (hs)) ?_ ?_
      · exact fun a hf => ⟨0, rfl, hf.sub ⟨rfl, rfl, rfl, rfl, trivial⟩, H⟩
      · rintro s o189 a wd192 ⟨x173, rfl, hf, H⟩ hB190 hO191
        replace hB190 : F_slices_Equal_subset_Row_subset_Row_l0 N x2 x5 x173 = some o189 := hB190
        unfold F_slices_Equal_subset_Row_subset_Row_l0 at hB190
        refine CW.at hf <| C_seq <| R_nd <| nq (Q_lss rfl rfl) rfl rfl <| WL_nil <| x_then <| C_seq ?_
        refine C_cond rfl (fun hb => ?_) (fun hb => ?_)
        · replace hB190 := itT hb hB190
          refine C_skip <| x_then <| C_seq <| C_block <| C_seq <| R_nd <| nq (Q_move rfl) rfl rfl <| nq (Q_assign rfl) rfl rfl <| WL_nil <| x_then <| C_seq <| R_dr (.take 0 (.take 1 (.take 2 (.take 3 (.take 4 (.take 5 (.take 6 (.take 7 (.take 8 .done))))))))) (fun w' => Ok w' ρ []) (by kernel_rfl) (by kernel_rfl) (by kernel_rfl) (H.drew.okS (by simp)) ?_
          replace H := H.drew
          refine dq rfl (fun _ _ => Q_move rfl) rfl rfl <| dq rfl (fun _ _ => Q_move rfl) rfl rfl ?_
          obtain ⟨x193, hx193, hB190⟩ := bnd hB190
          obtain ⟨b194, o195, c196, hc197, ha198, hi199⟩ := idxR r3 hx193
          refine dq rfl (fun _ _ => Q_idx hi199 Tryd.underlying22 ty58 rfl rfl) rfl rfl <| dq (v := .agg c196.toArray) rfl (fun _ hw => Q_ld (ha198.up hw.view) ty58 ((eA 256 (eI .i64)).len hc197) (fun h => nomatch h) rfl rfl) rfl rfl <| dq rfl (fun _ _ => Q_move rfl) rfl rfl <| dq rfl (fun _ _ => Q_move rfl) rfl rfl ?_
          obtain ⟨x200, hx200, hB190⟩ := bnd hB190
          obtain ⟨b201, o202, c203, hc204, ha205, hi206⟩ := idxR r6 hx200
          refine dq rfl (fun _ _ => Q_idx hi206 Tryd.underlying22 ty58 rfl rfl) rfl rfl <| dq (v := .agg c203.toArray) rfl (fun _ hw => Q_ld (ha205.up hw.view) ty58 ((eA 256 (eI .i64)).len hc204) (fun h => nomatch h) rfl rfl) rfl rfl <| dq (v := .bool (x193 != x200)) rfl (fun _ _ => Q_neqA Tryd.underlying58 ty3 (by kernel_rfl) Tryd.underlying3 hc197.2 hc197.1 hc204.2 hc204.1 rfl rfl) rfl rfl <| DL_nil <| x_then ?_
          refine C_cond rfl (fun hb => ?_) (fun hb => ?_)
          · replace hB190 := itT hb hB190
            refine C_seq <| R_nd <| nq (Q_assign rfl) rfl rfl <| WL_nil <| x_then <| C_ret <| x_block_ret <| x_then_ret <| x_then_ret <| x_block_ret <| x_then_ret <| x_then_ret ?_
            obtain rfl := Option.some.inj hB190
            obtain rfl := hO191 _ rfl
            obtain rfl := Option.some.inj (show some _ = some _ from hF)
            exact fn_ret (l := [.tmp 4]) (vs := [.bool false]) rfl rfl rfl ⟨false, rfl, rfl, H⟩
          · replace hB190 := itF hb hB190
            refine C_skip <| x_block <| x_then <| R_nd <| nq (Q_add rfl rfl) rfl rfl <| nq (Q_move rfl) rfl rfl <| WL_nil ?_
            obtain rfl := Option.some.inj hB190
            refine x_A fun a hf => ⟨_, rfl, w64 (x173 + 1), rfl, hf.sub ⟨rfl, rfl, rfl, rfl, trivial⟩, H⟩
        · replace hB190 := itF hb hB190
          refine C_exit <| x_then_exit <| x_then_exit <| x_block_exit ?_
          obtain rfl := Option.some.inj hB190
          obtain rfl := hO191 _ rfl
          refine x_A fun a hf => ⟨rfl, hf.sub trivial, H⟩
    · rintro a wd207 ⟨rfl, hf, H⟩
      try dsimp only at hF
      refine XX.at hf <| x_then <| C_seq <| R_nd <| nq (Q_assign rfl) rfl rfl <| WL_nil <| x_then <| C_ret ?_
      obtain rfl := Option.some.inj hF
      exact fn_ret (l := [.tmp 4]) (vs := [.bool true]) rfl rfl rfl ⟨true, rfl, rfl, H⟩
theorem c_70 {N : Nat} {C : Cx} {w : World} {ρ : View} {hs : List Hl} {v1 : Value} {v4 : Value} {x2 : (List Int)} {x5 : (List Int)} (H : Hp C w ρ (hs)) (r3 : RdSl ρ (eI .i64) v1 x2) (r6 : RdSl ρ (eI .i64) v4 x5) {r : Bool} (hF : F_slices_Equal_int_int N x2 x5 = some r) :
    Calls Tryd.prog 70 [v1, v4].toArray w (Rets (fun v w' => (∃ (x107 : Bool), x107 = r ∧ .bool x107 = v ∧ Hp C w' ρ (hs)))) := by
  unfold F_slices_Equal_int_int at hF
  have h0 : Tryd.f70.body = some _ := rfl
  refine fn_calls' Tryd.func70 h0 (n := 26) rfl (by simp) <| C_seq <| R_nd <| nq (Q_assign rfl) rfl rfl <| WL_nil <| x_then <| C_seq <| C_seq <| R_nd <| nq (Q_move rfl) rfl rfl <| nq (Q_len Tryd.underlying23 rfl r3) rfl rfl <| nq (Q_move rfl) rfl rfl <| nq (Q_len Tryd.underlying23 rfl r6) rfl rfl <| nq (Q_neq rfl rfl) rfl rfl ?_
  refine WL_nil <| x_then ?_
  refine C_cond rfl (fun hb => ?_) (fun hb => ?_)
  · replace hF := itT hb hF
    refine C_seq <| R_nd <| nq (Q_assign rfl) rfl rfl <| WL_nil <| x_then <| C_ret <| x_then_ret ?_
    obtain rfl := Option.some.inj hF
    exact fn_ret (l := [.tmp 4]) (vs := [.bool false]) rfl rfl rfl ⟨false, rfl, rfl, H⟩
  · replace hF := itF hb hF
    refine C_skip <| x_then <| C_seq <| C_seq <| R_nd <| nq (Q_move rfl) rfl rfl <| nq (Q_len Tryd.underlying23 rfl r3) rfl rfl <| nq (Q_move rfl) rfl rfl <| WL_nil <| x_then ?_
    obtain ⟨o157, ho157, hF⟩ := bnd hF
    refine C_cutQ (fun a w' => .inl () = o157 ∧ Fr 26 a [] ∧ Hp C w' ρ (hs)) ?_ ?_
    · refine C_block ?_
      refine C_iter (f := fun s => F_slices_Equal_int_int_l0 N x2 x5 s) ho157 (fun s a w' => ∃ (x173 : Int), x173 = s ∧ Fr 26 a [(0, v1), (1, v4), (12, .int .i64 (x2.length : Int)), (13, .int .i64 x173)] ∧ Hp C w' ρ (hs)) ?_ ?_
      · exact fun a hf => ⟨0, rfl, hf.sub ⟨rfl, rfl, rfl, rfl, trivial⟩, H⟩
      · rintro s o189 a wd192 ⟨x173, rfl, hf, H⟩ hB190 hO191
        replace hB190 : F_slices_Equal_int_int_l0 N x2 x5 x173 = some o189 := hB190
        unfold F_slices_Equal_int_int_l0 at hB190
        refine CW.at hf <| C_seq <| R_nd <| nq (Q_lss rfl rfl) rfl rfl <| WL_nil <| x_then <| C_seq ?_
        refine C_cond rfl (fun hb => ?_) (fun hb => ?_)
        · replace hB190 := itT hb hB190
          refine C_skip <| x_then <| C_seq <| C_block <| C_seq <| R_nd <| nq (Q_move rfl) rfl rfl <| nq (Q_assign rfl) rfl rfl <| WL_nil <| x_then <| C_seq <| R_dr (.take 0 (.take 1 (.take 2 (.take 3 (.take 4 (.take 5 (.take 6 (.take 7 (.take 8 .done))))))))) (fun w' => Ok w' ρ []) (by kernel_rfl) (by kernel_rfl) (by kernel_rfl) (H.drew.okS (by simp)) ?_
          replace H := H.drew
          refine dq rfl (fun _ _ => Q_move rfl) rfl rfl <| dq rfl (fun _ _ => Q_move rfl) rfl rfl ?_
          obtain ⟨x193, hx193, hB190⟩ := bnd hB190
          obtain ⟨b194, o195, c196, hc197, ha198, hi199⟩ := idxR r3 hx193
          refine dq rfl (fun _ _ => Q_idx hi199 Tryd.underlying23 ty3 rfl rfl) rfl rfl <| dq (v := .int .i64 x193) rfl (fun _ hw => Q_ld (show cellsAt _ _ _ [.int .i64 x193] from (show _ = [_] from hc197) ▸ (ha198.up hw.view)) ty3 rfl (fun _ => rfl) rfl rfl) rfl rfl <| dq rfl (fun _ _ => Q_move rfl) rfl rfl <| dq rfl (fun _ _ => Q_move rfl) rfl rfl ?_
          obtain ⟨x200, hx200, hB190⟩ := bnd hB190
          obtain ⟨b201, o202, c203, hc204, ha205, hi206⟩ := idxR r6 hx200
          refine dq rfl (fun _ _ => Q_idx hi206 Tryd.underlying23 ty3 rfl rfl) rfl rfl <| dq (v := .int .i64 x200) rfl (fun _ hw => Q_ld (show cellsAt _ _ _ [.int .i64 x200] from (show _ = [_] from hc204) ▸ (ha205.up hw.view)) ty3 rfl (fun _ => rfl) rfl rfl) rfl rfl <| dq rfl (fun _ _ => Q_neq rfl rfl) rfl rfl <| DL_nil <| x_then ?_
          refine C_cond rfl (fun hb => ?_) (fun hb => ?_)
          · replace hB190 := itT hb hB190
            refine C_seq <| R_nd <| nq (Q_assign rfl) rfl rfl <| WL_nil <| x_then <| C_ret <| x_block_ret <| x_then_ret <| x_then_ret <| x_block_ret <| x_then_ret <| x_then_ret ?_
            obtain rfl := Option.some.inj hB190
            obtain rfl := hO191 _ rfl
            obtain rfl := Option.some.inj (show some _ = some _ from hF)
            exact fn_ret (l := [.tmp 4]) (vs := [.bool false]) rfl rfl rfl ⟨false, rfl, rfl, H⟩
          · replace hB190 := itF hb hB190
            refine C_skip <| x_block <| x_then <| R_nd <| nq (Q_add rfl rfl) rfl rfl <| nq (Q_move rfl) rfl rfl <| WL_nil ?_
            obtain rfl := Option.some.inj hB190
            refine x_A fun a hf => ⟨_, rfl, w64 (x173 + 1), rfl, hf.sub ⟨rfl, rfl, rfl, rfl, trivial⟩, H⟩
        · replace hB190 := itF hb hB190
          refine C_exit <| x_then_exit <| x_then_exit <| x_block_exit ?_
          obtain rfl := Option.some.inj hB190
          obtain rfl := hO191 _ rfl
          refine x_A fun a hf => ⟨rfl, hf.sub trivial, H⟩
    · rintro a wd207 ⟨rfl, hf, H⟩
      try dsimp only at hF
      refine XX.at hf <| x_then <| C_seq <| R_nd <| nq (Q_assign rfl) rfl rfl <| WL_nil <| x_then <| C_ret ?_
      obtain rfl := Option.some.inj hF
      exact fn_ret (l := [.tmp 4]) (vs := [.bool true]) rfl rfl rfl ⟨true, rfl, rfl, H⟩
theorem c_41 {N : Nat} {C : Cx} {w : World} {ρ : View} {hs : List Hl} {v1 : Value} {v4 : Value} {v7 : Value} {v10 : Value} {v13 : Value} {v16 : Value} {x2 : (List (List Int))} {x5 : (List Int)} {x8 : (List Int)} {x11 : (List (List Int))} {x14 : (List Int)} {x17 : (List Int)} (H : Hp C w ρ (hs)) (r3 : RdSl ρ (eA 256 (eI .i64)) v1 x2) (r6 : RdSl ρ (eI .i64) v4 x5) (r9 : RdSl ρ (eI .i64) v7 x8) (r12 : RdSl ρ (eA 256 (eI .i64)) v10 x11) (r15 : RdSl ρ (eI .i64) v13 x14) (r18 : RdSl ρ (eI .i64) v16 x17) {r : Bool} (hF : F_subset_Same N x2 x5 x8 x11 x14 x17 = some r) :
    Calls Tryd.prog 41 [.agg #[v1, v4, v7], .agg #[v10, v13, v16]].toArray w (Rets (fun v w' => (∃ (x50 : Bool), x50 = r ∧ .bool x50 = v ∧ Hp C w' ρ (hs)))) := by
  unfold F_subset_Same at hF
  have h0 : Tryd.f41.body = some _ := rfl
  refine fn_calls' Tryd.func41 h0 (n := 24) rfl (by simp) <| C_seq <| R_nd <| ne (E_box H (vs := [v1, v4, v7]) rfl rfl) rfl rfl ?_
  rintro _ wd52 ⟨b51, rfl, H⟩
  refine ne (E_box H (vs := [v10, v13, v16]) rfl rfl) rfl rfl ?_
  rintro _ wd54 ⟨b53, rfl, H⟩
  refine nq (Q_assign rfl) rfl rfl <| WL_nil <| x_then ?_
  obtain ⟨o68, ho68, hF⟩ := bnd hF
  refine C_cut (fun a w' => ∃ (x67 : Bool), x67 = o68 ∧ Fr 24 a [(4, .bool x67)] ∧ Hp C w' ρ (hs)) ?_ ?_
  · refine R_nd <| nq (v := .pointer (some ⟨b51, 0, none⟩)) (Q_fld Tryd.underlying25 rfl ty22 (by decide) rfl rfl) rfl rfl <| nq (v := v1) (Q_ldB (k := 1) (cs := [v1]) H.ok rfl ty22 rfl rfl rfl (fun _ => rfl) rfl) rfl rfl <| nq (v := .pointer (some ⟨b53, 0, none⟩)) (Q_fld Tryd.underlying25 rfl ty22 (by decide) rfl rfl) rfl rfl <| nq (v := v10) (Q_ldB (k := 0) (cs := [v10]) H.ok rfl ty22 rfl rfl rfl (fun _ => rfl) rfl) rfl rfl ?_
    obtain ⟨q69, hq69, ho68⟩ := bnd ho68
    refine ne (E_call fn69 rfl (c_69 H  r3 r12 hq69)) rfl rfl ?_
    rintro _ wd72 ⟨x71, rfl, rfl, H⟩
    try dsimp only at ho68
    refine nq (Q_move rfl) rfl rfl ?_
    rcases Bool.eq_false_or_eq_true x71 with hb | hb
    · rw [hb]
      replace ho68 := itT hb ho68
      refine gq (v := .pointer (some ⟨b51, 1, none⟩)) (Q_fld Tryd.underlying25 rfl ty23 (by decide) rfl rfl) rfl rfl rfl <| gq (v := v4) (Q_ldB (k := 1) (cs := [v4]) H.ok rfl ty23 rfl rfl rfl (fun _ => rfl) rfl) rfl rfl rfl <| gq (v := .pointer (some ⟨b53, 1, none⟩)) (Q_fld Tryd.underlying25 rfl ty23 (by decide) rfl rfl) rfl rfl rfl <| gq (v := v13) (Q_ldB (k := 0) (cs := [v13]) H.ok rfl ty23 rfl rfl rfl (fun _ => rfl) rfl) rfl rfl rfl ?_
      obtain ⟨q73, hq73, ho68⟩ := bnd ho68
      refine ge (E_call fn70 rfl (c_70 H  r6 r15 hq73)) rfl rfl rfl ?_
      rintro _ wd76 ⟨x75, rfl, rfl, H⟩
      try dsimp only at ho68
      refine nq (Q_pickT rfl rfl) rfl rfl <| nq (Q_move rfl) rfl rfl ?_
      rcases Bool.eq_false_or_eq_true x75 with hb | hb
      · rw [hb]
        replace ho68 := itT hb ho68
        refine gq (v := .pointer (some ⟨b51, 2, none⟩)) (Q_fld Tryd.underlying25 rfl ty23 (by decide) rfl rfl) rfl rfl rfl <| gq (v := v7) (Q_ldB (k := 1) (cs := [v7]) H.ok rfl ty23 rfl rfl rfl (fun _ => rfl) rfl) rfl rfl rfl <| gq (v := .pointer (some ⟨b53, 2, none⟩)) (Q_fld Tryd.underlying25 rfl ty23 (by decide) rfl rfl) rfl rfl rfl <| gq (v := v16) (Q_ldB (k := 0) (cs := [v16]) H.ok rfl ty23 rfl rfl rfl (fun _ => rfl) rfl) rfl rfl rfl ?_
        obtain ⟨q77, hq77, ho68⟩ := bnd ho68
        refine ge (E_call fn70 rfl (c_70 H  r9 r18 hq77)) rfl rfl rfl ?_
        rintro _ wd80 ⟨x79, rfl, rfl, H⟩
        try dsimp only at ho68
        refine nq (Q_pickT rfl rfl) rfl rfl <| nq (Q_assign rfl) rfl rfl <| WL_nil ?_
        replace H := H.drop 0 rfl
        dsimp only [List.eraseIdx] at H
        replace H := H.drop 0 rfl
        dsimp only [List.eraseIdx] at H
        obtain rfl := Option.some.inj ho68
        refine x_A fun a hf => ⟨x79, rfl, hf.sub ⟨rfl, trivial⟩, H⟩
      · rw [hb]
        replace ho68 := itF hb ho68
        refine gs rfl rfl rfl rfl <| gs rfl rfl rfl rfl <| gs rfl rfl rfl rfl <| gs rfl rfl rfl rfl <| gs rfl rfl rfl rfl <| nq (Q_pickF rfl rfl) rfl rfl <| nq (Q_assign rfl) rfl rfl <| WL_nil ?_
        replace H := H.drop 0 rfl
        dsimp only [List.eraseIdx] at H
        replace H := H.drop 0 rfl
        dsimp only [List.eraseIdx] at H
        obtain rfl := Option.some.inj ho68
        refine x_A fun a hf => ⟨false, rfl, hf.sub ⟨rfl, trivial⟩, H⟩
    · rw [hb]
      replace ho68 := itF hb ho68
      refine gs rfl rfl rfl rfl <| gs rfl rfl rfl rfl <| gs rfl rfl rfl rfl <| gs rfl rfl rfl rfl <| gs rfl rfl rfl rfl <| nq (Q_pickF rfl rfl) rfl rfl <| nq (Q_move rfl) rfl rfl <| gs rfl rfl rfl rfl <| gs rfl rfl rfl rfl <| gs rfl rfl rfl rfl <| gs rfl rfl rfl rfl <| gs rfl rfl rfl rfl <| nq (Q_pickF rfl rfl) rfl rfl <| nq (Q_assign rfl) rfl rfl ?_
      refine WL_nil ?_
      replace H := H.drop 0 rfl
      dsimp only [List.eraseIdx] at H
      replace H := H.drop 0 rfl
      dsimp only [List.eraseIdx] at H
      obtain rfl := Option.some.inj ho68
      refine x_A fun a hf => ⟨false, rfl, hf.sub ⟨rfl, trivial⟩, H⟩
  · rintro a wd81 ⟨x67, rfl, hf, H⟩
    try dsimp only at hF
    refine CW.at hf <| C_ret ?_
    obtain rfl := Option.some.inj hF
    exact fn_ret (l := [.tmp 4]) (vs := [.bool x67]) rfl rfl rfl ⟨x67, rfl, rfl, H⟩
theorem c_8 {N : Nat} {C : Cx} {w : World} {ρ : View} {hs : List Hl} {v1 : Value} {v4 : Value} {v7 : Value} {v10 : Value} {x2 : (List (List Int))} {x5 : (List Int)} {x8 : (List Int)} {x11 : (List Int)} {x13 : Int} (H : Hp C w ρ (hs)) {ge0 : Value} (gl0 : GErr ρ 0 ge0) (gl1 : GTab ρ 1 .u8 tab_math_bits_deBruijn64tab) (r3 : RdSl ρ (eA 256 (eI .i64)) v1 x2) (r6 : RdSl ρ (eI .i64) v4 x5) (r9 : RdSl ρ (eI .i64) v7 x8) (r12 : RdSl ρ (eI .u8) v10 x11) {r : Bool} (hF : F_dofferlaw18_TrimFinds N x2 x5 x8 x11 x13 = some r) :
    Calls Tryd.prog 8 [.agg #[v1, v4, v7], v10, .int .i64 x13].toArray w (Rets (fun v w' => (∃ (x230 : Bool), x230 = r ∧ .bool x230 = v ∧ Hp C w' ρ (hs)))) := by
  unfold F_dofferlaw18_TrimFinds at hF
  have h0 : Tryd.f8.body = some _ := rfl
  refine fn_calls' Tryd.func8 h0 (n := 71) rfl (by simp) <| C_seq <| R_nd <| ne (E_box H (vs := [v1, v4, v7]) rfl rfl) rfl rfl ?_
  rintro _ wd232 ⟨b231, rfl, H⟩
  refine nq (Q_assign rfl) rfl rfl <| WL_nil <| x_then <| C_seq <| C_seq <| R_nd ?_
  obtain ⟨q233, hq233, hF⟩ := bnd hF
  refine ne (E_call fn28 rfl (c_28 H gl0 gl1  hq233)) rfl rfl ?_
  rintro _ wd236 ⟨x235, rfl, rfl, H⟩
  try dsimp only at hF
  refine nq (Q_not rfl) rfl rfl <| WL_nil <| x_then ?_
  refine C_cond rfl (fun hb => ?_) (fun hb => ?_)
  · replace hF := itT hb hF
    refine C_seq <| R_nd <| nq (Q_assign rfl) rfl rfl <| WL_nil <| x_then <| C_ret <| x_then_ret ?_
    replace H := H.drop 0 rfl
    dsimp only [List.eraseIdx] at H
    obtain rfl := Option.some.inj hF
    exact fn_ret (l := [.tmp 6]) (vs := [.bool false]) rfl rfl rfl ⟨false, rfl, rfl, H⟩
  · replace hF := itF hb hF
    refine C_skip <| x_then <| C_seq ?_
    obtain ⟨o242, ho242, hF⟩ := bnd hF
    refine C_cut (fun a w' => ∃ (x241 : Bool), x241 = o242 ∧ Fr 71 a [(1, v10), (2, .int .i64 x13), (3, .pointer (some ⟨b231, 0, none⟩)), (24, .bool x241)] ∧ Hp C w' ρ (Box b231 [v1, v4, v7] :: hs)) ?_ ?_
    · refine R_nd <| nq (v := .pointer (some ⟨b231, 0, none⟩)) (Q_fld Tryd.underlying25 rfl ty22 (by decide) rfl rfl) rfl rfl <| nq (v := v1) (Q_ldB (k := 0) (cs := [v1]) H.ok rfl ty22 rfl rfl rfl (fun _ => rfl) rfl) rfl rfl <| nq (Q_len Tryd.underlying22 rfl r3) rfl rfl <| nq (Q_gtr rfl rfl) rfl rfl <| nq (Q_move rfl) rfl rfl ?_
      rcases Bool.eq_false_or_eq_true (decide ((x2.length : Int) > 30)) with hb | hb
      · rw [hb]
        replace ho242 := itT hb ho242
        refine gs rfl rfl rfl rfl <| gs rfl rfl rfl rfl <| gs rfl rfl rfl rfl <| nq (Q_pickT rfl rfl) rfl rfl <| nq (Q_move rfl) rfl rfl <| gs rfl rfl rfl rfl <| gs rfl rfl rfl rfl <| gs rfl rfl rfl rfl <| nq (Q_pickT rfl rfl) rfl rfl <| WL_nil ?_
        obtain rfl := Option.some.inj ho242
        refine x_A fun a hf => ⟨true, rfl, hf.sub ⟨rfl, rfl, rfl, rfl, trivial⟩, H⟩
      · rw [hb]
        replace ho242 := itF hb ho242
        refine gq (Q_move rfl) rfl rfl rfl <| gq (Q_len Tryd.underlying42 rfl r12) rfl rfl rfl <| gq (Q_gtr rfl rfl) rfl rfl rfl <| nq (Q_pickF rfl rfl) rfl rfl <| nq (Q_move rfl) rfl rfl ?_
        rcases Bool.eq_false_or_eq_true (decide ((x11.length : Int) > 50)) with hb | hb
        · rw [hb]
          replace ho242 := itT hb ho242
          refine gs rfl rfl rfl rfl <| gs rfl rfl rfl rfl <| gs rfl rfl rfl rfl <| nq (Q_pickT rfl rfl) rfl rfl <| WL_nil ?_
          obtain rfl := Option.some.inj ho242
          refine x_A fun a hf => ⟨true, rfl, hf.sub ⟨rfl, rfl, rfl, rfl, trivial⟩, H⟩
        · rw [hb]
          replace ho242 := itF hb ho242
          refine gq (v := .agg #[v1, v4, v7]) (Q_ldB (k := 0) (cs := [v1, v4, v7]) H.ok rfl ty25 rfl rfl rfl (fun h => nomatch h) rfl) rfl rfl rfl ?_
          obtain ⟨q243, hq243, ho242⟩ := bnd ho242
          refine ge (E_call fn26 rfl (c_26 H  r3 r6 r9 hq243)) rfl rfl rfl ?_
          rintro _ wd246 ⟨x245, rfl, rfl, H⟩
          try dsimp only at ho242
          refine gq (Q_not rfl) rfl rfl rfl <| nq (Q_pickF rfl rfl) rfl rfl <| WL_nil ?_
          obtain rfl := Option.some.inj ho242
          refine x_A fun a hf => ⟨!x245, rfl, hf.sub ⟨rfl, rfl, rfl, rfl, trivial⟩, H⟩
    · rintro a wd247 ⟨x241, rfl, hf, H⟩
      try dsimp only at hF
      refine CW.at hf ?_
      refine C_cond rfl (fun hb => ?_) (fun hb => ?_)
      · replace hF := itT hb hF
        refine C_seq <| R_nd <| nq (Q_assign rfl) rfl rfl <| WL_nil <| x_then <| C_ret <| x_then_ret ?_
        replace H := H.drop 0 rfl
        dsimp only [List.eraseIdx] at H
        obtain rfl := Option.some.inj hF
        exact fn_ret (l := [.tmp 6]) (vs := [.bool true]) rfl rfl rfl ⟨true, rfl, rfl, H⟩
      · replace hF := itF hb hF
        refine C_skip <| x_then <| C_seq <| R_nd <| nq (v := .agg #[v1, v4, v7]) (Q_ldB (k := 0) (cs := [v1, v4, v7]) H.ok rfl ty25 rfl rfl rfl (fun h => nomatch h) rfl) rfl rfl ?_
        obtain ⟨q248, hq248, hF⟩ := bnd hF
        refine ne (E_call fn29 rfl (c_29 H gl0 gl1 r3 r6 r9 hq248)) rfl rfl ?_
        rintro _ wd262 ⟨v250, c251, v252, c253, v254, c255, x256, x257, x258, rfl, rfl, r259, r260, r261, H⟩
        try dsimp only at hF
        refine ne (E_alloc H ty25 (zs := [.slice none 0 0, .slice none 0 0, .slice none 0 0]) rfl) rfl rfl ?_
        rintro _ wd264 ⟨b263, rfl, H⟩
        refine ne (E_stB (k := 0) (cs := [v250, v252, v254]) (vs' := [v250, v252, v254]) H rfl ty25 rfl rfl rfl rfl (one_cons (arr_cells (H.ok.get (k := 1) rfl)).2 (one_cons (arr_cells (H.ok.get (k := 2) rfl)).2 (one_cons (arr_cells (H.ok.get (k := 3) rfl)).2 one_nil))) (by simp) rfl) rfl rfl ?_
        rintro _ wd265 H
        dsimp only [List.set] at H
        refine WL_nil <| x_then <| C_seq ?_
        obtain ⟨o294, ho294, hF⟩ := bnd hF
        refine C_cut (fun a w' => ∃ (x293 : Bool), x293 = o294 ∧ Fr 71 a [(1, v10), (2, .int .i64 x13), (3, .pointer (some ⟨b231, 0, none⟩)), (7, .pointer (some ⟨b263, 0, none⟩)), (50, .bool x293)] ∧ Hp C w' ρ (Box b231 [v1, v4, v7] :: Box b263 [v250, v252, v254] :: Arr v250 256 c251 :: Arr v252 1 c253 :: Arr v254 1 c255 :: hs)) ?_ ?_
        · refine R_dr (.take 0 (.one 1 (.take 2 (.take 3 (.take 4 (.one 5 (.take 6 (.take 7 (.take 8 (.take 9 (.take 10 (.take 11 (.take 12 (.take 13 (.take 14 (.take 15 (.take 16 (.take 17 (.take 18 (.take 20 (.one 19 (.one 21 (.take 22 (.take 23 .done)))))))))))))))))))))))) (fun w' => Ok w' ρ [Box b263 [v250, v252, v254], Arr v250 256 c251, Arr v252 1 c253, Arr v254 1 c255, Box b231 [v1, v4, v7]]) (by kernel_rfl) (by kernel_rfl) (by kernel_rfl) (H.drew.okS (by simp)) ?_
          replace H := H.drew
          refine dq (v := .agg #[v250, v252, v254]) rfl (fun _ hw => Q_ldB (k := 0) (cs := [v250, v252, v254]) hw rfl ty25 rfl rfl rfl (fun h => nomatch h) rfl) rfl rfl ?_
          replace H := H.front 3 rfl
          dsimp only [List.eraseIdx] at H
          replace H := H.front 3 rfl
          dsimp only [List.eraseIdx] at H
          replace H := H.front 3 rfl
          dsimp only [List.eraseIdx] at H
          obtain ⟨q295, hq295, ho294⟩ := bnd ho294
          obtain ⟨C', ρ', hl296, HA, hL, hback⟩ := Hp.lend (A := []) (L := [Arr v250 256 c251, Arr v252 1 c253, Arr v254 1 c255]) (F := Box b263 [v250, v252, v254] :: Box b231 [v1, v4, v7] :: hs) H
          refine d1 (de rfl (E_call fn26 rfl (c_26 HA  (arr_rd (by decide) hl296 (hL (Arr v250 256 c251) (by simp)) r259) (arr_rd (by decide) hl296 (hL (Arr v252 1 c253) (by simp)) r260) (arr_rd (by decide) hl296 (hL (Arr v254 1 c255) (by simp)) r261) hq295)) rfl rfl ?_)
          rintro _ wd298 ⟨x297, rfl, rfl, H⟩
          try dsimp only at ho294
          replace H := hback H
          dsimp only [List.cons_append, List.nil_append] at H
          refine ⟨H.okS (by simp), ?_⟩
          refine dq rfl (fun _ _ => Q_not rfl) rfl rfl <| dq rfl (fun _ _ => Q_move rfl) rfl rfl ?_
          rcases Bool.eq_false_or_eq_true (!x297) with hb | hb
          · rw [hb]
            replace ho294 := itT hb ho294
            refine dgs rfl rfl rfl rfl rfl ?_
            refine d1 (dges rfl rfl rfl rfl rfl ?_)
            refine dgs rfl rfl rfl rfl rfl <| dq rfl (fun _ _ => Q_pickT rfl rfl) rfl rfl <| dq rfl (fun _ _ => Q_move rfl) rfl rfl <| dgs rfl rfl rfl rfl rfl <| dgs rfl rfl rfl rfl rfl <| dgs rfl rfl rfl rfl rfl <| dgs rfl rfl rfl rfl rfl <| dgs rfl rfl rfl rfl rfl <| dgs rfl rfl rfl rfl rfl <| dgs rfl rfl rfl rfl rfl <| dq rfl (fun _ _ => Q_pickT rfl rfl) rfl rfl <| dq rfl (fun _ _ => Q_move rfl) rfl rfl <| dgs rfl rfl rfl rfl rfl <| dgs rfl rfl rfl rfl rfl ?_
            refine d1 (dges rfl rfl rfl rfl rfl ?_)
            refine d1 (dges rfl rfl rfl rfl rfl ?_)
            refine dgs rfl rfl rfl rfl rfl <| dq rfl (fun _ _ => Q_pickT rfl rfl) rfl rfl <| DL_nil ?_
            replace H := H.front 2 rfl
            dsimp only [List.eraseIdx] at H
            replace H := H.front 2 rfl
            dsimp only [List.eraseIdx] at H
            replace H := H.front 2 rfl
            dsimp only [List.eraseIdx] at H
            replace H := H.front 3 rfl
            dsimp only [List.eraseIdx] at H
            replace H := H.front 4 rfl
            dsimp only [List.eraseIdx] at H
            obtain rfl := Option.some.inj ho294
            refine x_A fun a hf => ⟨true, rfl, hf.sub ⟨rfl, rfl, rfl, rfl, rfl, trivial⟩, H⟩
          · rw [hb]
            replace ho294 := itF hb ho294
            refine dgq (v := .agg #[v250, v252, v254]) rfl (fun _ hw => Q_ldB (k := 0) (cs := [v250, v252, v254]) hw rfl ty25 rfl rfl rfl (fun h => nomatch h) rfl) rfl rfl rfl ?_
            replace H := H.front 2 rfl
            dsimp only [List.eraseIdx] at H
            replace H := H.front 2 rfl
            dsimp only [List.eraseIdx] at H
            replace H := H.front 2 rfl
            dsimp only [List.eraseIdx] at H
            obtain ⟨q299, hq299, ho294⟩ := bnd ho294
            obtain ⟨C', ρ', hl300, HA, hL, hback⟩ := Hp.lend (A := []) (L := [Arr v250 256 c251, Arr v252 1 c253, Arr v254 1 c255]) (F := Box b263 [v250, v252, v254] :: Box b231 [v1, v4, v7] :: hs) H
            refine d1 (dge rfl (E_call fn32 rfl (c_32 HA (gl0.up hl300) (GTab.up hl300 gl1) (arr_rd (by decide) hl300 (hL (Arr v250 256 c251) (by simp)) r259) (arr_rd (by decide) hl300 (hL (Arr v252 1 c253) (by simp)) r260) (arr_rd (by decide) hl300 (hL (Arr v254 1 c255) (by simp)) r261) hq299)) rfl rfl rfl ?_)
            rintro _ wd302 ⟨x301, rfl, rfl, H⟩
            try dsimp only at ho294
            replace H := hback H
            dsimp only [List.cons_append, List.nil_append] at H
            refine ⟨H.okS (by simp), ?_⟩
            refine dgq rfl (fun _ _ => Q_not rfl) rfl rfl rfl <| dq rfl (fun _ _ => Q_pickF rfl rfl) rfl rfl <| dq rfl (fun _ _ => Q_move rfl) rfl rfl ?_
            rcases Bool.eq_false_or_eq_true (!x301) with hb | hb
            · rw [hb]
              replace ho294 := itT hb ho294
              refine dgs rfl rfl rfl rfl rfl <| dgs rfl rfl rfl rfl rfl <| dgs rfl rfl rfl rfl rfl <| dgs rfl rfl rfl rfl rfl <| dgs rfl rfl rfl rfl rfl <| dgs rfl rfl rfl rfl rfl <| dgs rfl rfl rfl rfl rfl <| dq rfl (fun _ _ => Q_pickT rfl rfl) rfl rfl <| dq rfl (fun _ _ => Q_move rfl) rfl rfl <| dgs rfl rfl rfl rfl rfl <| dgs rfl rfl rfl rfl rfl ?_
              refine d1 (dges rfl rfl rfl rfl rfl ?_)
              refine d1 (dges rfl rfl rfl rfl rfl ?_)
              refine dgs rfl rfl rfl rfl rfl <| dq rfl (fun _ _ => Q_pickT rfl rfl) rfl rfl <| DL_nil ?_
              replace H := H.front 2 rfl
              dsimp only [List.eraseIdx] at H
              replace H := H.front 2 rfl
              dsimp only [List.eraseIdx] at H
              replace H := H.front 2 rfl
              dsimp only [List.eraseIdx] at H
              replace H := H.front 3 rfl
              dsimp only [List.eraseIdx] at H
              replace H := H.front 4 rfl
              dsimp only [List.eraseIdx] at H
              obtain rfl := Option.some.inj ho294
              refine x_A fun a hf => ⟨true, rfl, hf.sub ⟨rfl, rfl, rfl, rfl, rfl, trivial⟩, H⟩
            · rw [hb]
              replace ho294 := itF hb ho294
              refine dgq (v := .pointer (some ⟨b263, 0, none⟩)) rfl (fun _ _ => Q_fld Tryd.underlying25 rfl ty22 (by decide) rfl rfl) rfl rfl rfl <| dgq (v := v250) rfl (fun _ hw => Q_ldB (k := 0) (cs := [v250]) hw rfl ty22 rfl rfl rfl (fun _ => rfl) rfl) rfl rfl rfl <| dgq rfl (fun _ hw => Q_lenA (k := 1) hw rfl r259 (by decide) Tryd.underlying22 rfl) rfl rfl rfl <| dgq (v := .pointer (some ⟨b231, 0, none⟩)) rfl (fun _ _ => Q_fld Tryd.underlying25 rfl ty22 (by decide) rfl rfl) rfl rfl rfl <| dgq (v := v1) rfl (fun _ hw => Q_ldB (k := 4) (cs := [v1]) hw rfl ty22 rfl rfl rfl (fun _ => rfl) rfl) rfl rfl rfl <| dgq rfl (fun _ _ => Q_len Tryd.underlying22 rfl r3) rfl rfl rfl <| dgq rfl (fun _ _ => Q_gtr rfl rfl) rfl rfl rfl <| dq rfl (fun _ _ => Q_pickF rfl rfl) rfl rfl <| dq rfl (fun _ _ => Q_move rfl) rfl rfl ?_
              rcases Bool.eq_false_or_eq_true (decide ((x256.length : Int) > (x2.length : Int))) with hb | hb
              · rw [hb]
                replace ho294 := itT hb ho294
                refine dgs rfl rfl rfl rfl rfl <| dgs rfl rfl rfl rfl rfl ?_
                refine d1 (dges rfl rfl rfl rfl rfl ?_)
                refine d1 (dges rfl rfl rfl rfl rfl ?_)
                refine dgs rfl rfl rfl rfl rfl <| dq rfl (fun _ _ => Q_pickT rfl rfl) rfl rfl <| DL_nil ?_
                replace H := H.front 2 rfl
                dsimp only [List.eraseIdx] at H
                replace H := H.front 2 rfl
                dsimp only [List.eraseIdx] at H
                replace H := H.front 2 rfl
                dsimp only [List.eraseIdx] at H
                replace H := H.front 3 rfl
                dsimp only [List.eraseIdx] at H
                replace H := H.front 4 rfl
                dsimp only [List.eraseIdx] at H
                obtain rfl := Option.some.inj ho294
                refine x_A fun a hf => ⟨true, rfl, hf.sub ⟨rfl, rfl, rfl, rfl, rfl, trivial⟩, H⟩
              · rw [hb]
                replace ho294 := itF hb ho294
                refine dgq (v := .agg #[v250, v252, v254]) rfl (fun _ hw => Q_ldB (k := 0) (cs := [v250, v252, v254]) hw rfl ty25 rfl rfl rfl (fun h => nomatch h) rfl) rfl rfl rfl <| dgq (v := .agg #[v250, v252, v254]) rfl (fun _ hw => Q_ldB (k := 0) (cs := [v250, v252, v254]) hw rfl ty25 rfl rfl rfl (fun h => nomatch h) rfl) rfl rfl rfl ?_
                replace H := H.front 2 rfl
                dsimp only [List.eraseIdx] at H
                replace H := H.front 2 rfl
                dsimp only [List.eraseIdx] at H
                replace H := H.front 2 rfl
                dsimp only [List.eraseIdx] at H
                obtain ⟨q303, hq303, ho294⟩ := bnd ho294
                obtain ⟨C', ρ', hl304, HA, hL, hback⟩ := Hp.lend (A := []) (L := [Arr v250 256 c251, Arr v252 1 c253, Arr v254 1 c255]) (F := Box b263 [v250, v252, v254] :: Box b231 [v1, v4, v7] :: hs) H
                refine d1 (dge rfl (E_call fn29 rfl (c_29 HA (gl0.up hl304) (GTab.up hl304 gl1) (arr_rd (by decide) hl304 (hL (Arr v250 256 c251) (by simp)) r259) (arr_rd (by decide) hl304 (hL (Arr v252 1 c253) (by simp)) r260) (arr_rd (by decide) hl304 (hL (Arr v254 1 c255) (by simp)) r261) hq303)) rfl rfl rfl ?_)
                rintro _ wd317 ⟨v305, c306, v307, c308, v309, c310, x311, x312, x313, rfl, rfl, r314, r315, r316, H⟩
                try dsimp only at ho294
                replace H := hback H
                replace r314 := rdL.flat (ρ := ρ') (ρ' := ρ) (flat_A _ (flat_I _)) r314
                replace r315 := rdL.flat (ρ := ρ') (ρ' := ρ) (flat_I _) r315
                replace r316 := rdL.flat (ρ := ρ') (ρ' := ρ) (flat_I _) r316
                dsimp only [List.cons_append, List.nil_append] at H
                refine ⟨H.okS (by simp), ?_⟩
                replace H := H.front 5 rfl
                dsimp only [List.eraseIdx] at H
                replace H := H.front 5 rfl
                dsimp only [List.eraseIdx] at H
                replace H := H.front 5 rfl
                dsimp only [List.eraseIdx] at H
                replace H := H.front 5 rfl
                dsimp only [List.eraseIdx] at H
                replace H := H.front 5 rfl
                dsimp only [List.eraseIdx] at H
                replace H := H.front 5 rfl
                dsimp only [List.eraseIdx] at H
                obtain ⟨q318, hq318, ho294⟩ := bnd ho294
                obtain ⟨C', ρ', hl319, HA, hL, hback⟩ := Hp.lend (A := []) (L := [Arr v305 256 c306, Arr v307 1 c308, Arr v309 1 c310, Arr v250 256 c251, Arr v252 1 c253, Arr v254 1 c255]) (F := Box b263 [v250, v252, v254] :: Box b231 [v1, v4, v7] :: hs) H
                refine d1 (dge rfl (E_call fn41 rfl (c_41 HA  (arr_rd (by decide) hl319 (hL (Arr v305 256 c306) (by simp)) r314) (arr_rd (by decide) hl319 (hL (Arr v307 1 c308) (by simp)) r315) (arr_rd (by decide) hl319 (hL (Arr v309 1 c310) (by simp)) r316) (arr_rd (by decide) hl319 (hL (Arr v250 256 c251) (by simp)) r259) (arr_rd (by decide) hl319 (hL (Arr v252 1 c253) (by simp)) r260) (arr_rd (by decide) hl319 (hL (Arr v254 1 c255) (by simp)) r261) hq318)) rfl rfl rfl ?_)
                rintro _ wd321 ⟨x320, rfl, rfl, H⟩
                try dsimp only at ho294
                replace H := hback H
                dsimp only [List.cons_append, List.nil_append] at H
                refine ⟨H.okS (by simp), ?_⟩
                refine dgq rfl (fun _ _ => Q_not rfl) rfl rfl rfl <| dq rfl (fun _ _ => Q_pickF rfl rfl) rfl rfl <| DL_nil ?_
                replace H := H.front 5 rfl
                dsimp only [List.eraseIdx] at H
                replace H := H.front 5 rfl
                dsimp only [List.eraseIdx] at H
                replace H := H.front 5 rfl
                dsimp only [List.eraseIdx] at H
                replace H := H.front 6 rfl
                dsimp only [List.eraseIdx] at H
                replace H := H.front 7 rfl
                dsimp only [List.eraseIdx] at H
                replace H := H.drop 5 rfl
                dsimp only [List.eraseIdx] at H
                replace H := H.drop 5 rfl
                dsimp only [List.eraseIdx] at H
                replace H := H.drop 5 rfl
                dsimp only [List.eraseIdx] at H
                obtain rfl := Option.some.inj ho294
                refine x_A fun a hf => ⟨!x320, rfl, hf.sub ⟨rfl, rfl, rfl, rfl, rfl, trivial⟩, H⟩
        · rintro a wd322 ⟨x293, rfl, hf, H⟩
          try dsimp only at hF
          refine CW.at hf ?_
          refine C_cond rfl (fun hb => ?_) (fun hb => ?_)
          · replace hF := itT hb hF
            refine C_seq <| R_nd <| nq (Q_assign rfl) rfl rfl <| WL_nil <| x_then <| C_ret <| x_then_ret ?_
            replace H := H.drop 0 rfl
            dsimp only [List.eraseIdx] at H
            replace H := H.drop 0 rfl
            dsimp only [List.eraseIdx] at H
            replace H := H.drop 0 rfl
            dsimp only [List.eraseIdx] at H
            replace H := H.drop 0 rfl
            dsimp only [List.eraseIdx] at H
            replace H := H.drop 0 rfl
            dsimp only [List.eraseIdx] at H
            obtain rfl := Option.some.inj hF
            exact fn_ret (l := [.tmp 6]) (vs := [.bool false]) rfl rfl rfl ⟨false, rfl, rfl, H⟩
          · replace hF := itF hb hF
            refine C_skip <| x_then <| C_seq <| C_seq <| R_nd <| nq (Q_move rfl) rfl rfl <| nq (Q_len Tryd.underlying42 rfl r12) rfl rfl <| nq (Q_add rfl rfl) rfl rfl <| nq (Q_move rfl) rfl rfl <| WL_nil <| x_then ?_
            obtain ⟨o384, ho384, hF⟩ := bnd hF
            refine C_cutQ (fun a w' => .inl () = o384 ∧ Fr 71 a [] ∧ Hp C w' ρ (hs)) ?_ ?_
            · refine C_block ?_
              replace H := H.front 4 rfl
              dsimp only [List.eraseIdx] at H
              replace H := H.front 4 rfl
              dsimp only [List.eraseIdx] at H
              replace H := H.front 4 rfl
              dsimp only [List.eraseIdx] at H
              replace H := H.front 4 rfl
              dsimp only [List.eraseIdx] at H
              replace H := H.front 4 rfl
              dsimp only [List.eraseIdx] at H
              refine C_iter (f := fun s => F_dofferlaw18_TrimFinds_l0 N x2 x5 x8 x11 x13 x256 x257 x258 s) ho384 (fun s a w' => ∃ (x404 : Int), x404 = s ∧ Fr 71 a [(1, v10), (2, .int .i64 x13), (3, .pointer (some ⟨b231, 0, none⟩)), (7, .pointer (some ⟨b263, 0, none⟩)), (53, .int .i64 (w64 ((x11.length : Int) + 1))), (54, .int .i64 x404)] ∧ Hp C w' ρ (Box b231 [v1, v4, v7] :: Box b263 [v250, v252, v254] :: Arr v250 256 c251 :: Arr v252 1 c253 :: Arr v254 1 c255 :: hs)) ?_ ?_
              · exact fun a hf => ⟨0, rfl, hf.sub ⟨rfl, rfl, rfl, rfl, rfl, rfl, trivial⟩, H⟩
              · rintro s o424 a wd427 ⟨x404, rfl, hf, H⟩ hB425 hO426
                replace hB425 : F_dofferlaw18_TrimFinds_l0 N x2 x5 x8 x11 x13 x256 x257 x258 x404 = some o424 := hB425
                unfold F_dofferlaw18_TrimFinds_l0 at hB425
                refine CW.at hf <| C_seq <| R_nd <| nq (Q_lss rfl rfl) rfl rfl <| WL_nil <| x_then <| C_seq ?_
                refine C_cond rfl (fun hb => ?_) (fun hb => ?_)
                · replace hB425 := itT hb hB425
                  refine C_skip <| x_then <| C_seq <| C_block <| C_seq <| R_nd <| nq (Q_move rfl) rfl rfl <| nq (Q_assign rfl) rfl rfl <| WL_nil <| x_then <| C_seq <| R_dr (.take 0 (.take 1 (.take 2 (.take 3 (.take 4 (.take 6 (.take 7 (.take 8 (.take 9 (.take 10 (.one 5 (.one 11 (.take 12 .done))))))))))))) (fun w' => Ok w' ρ [Box b231 [v1, v4, v7], Box b263 [v250, v252, v254], Arr v250 256 c251, Arr v252 1 c253, Arr v254 1 c255]) (by kernel_rfl) (by kernel_rfl) (by kernel_rfl) (H.drew.okS (by simp)) ?_
                  replace H := H.drew
                  refine dq (v := .agg #[v250, v252, v254]) rfl (fun _ hw => Q_ldB (k := 1) (cs := [v250, v252, v254]) hw rfl ty25 rfl rfl rfl (fun h => nomatch h) rfl) rfl rfl <| dq rfl (fun _ _ => Q_move rfl) rfl rfl <| dq rfl (fun _ _ => Q_move rfl) rfl rfl <| dq rfl (fun _ _ => Q_move rfl) rfl rfl ?_
                  obtain ⟨x428, hx428, hB425⟩ := bnd hB425
                  obtain ⟨hs429a, hs429b, hs429c, hs429d⟩ := slc_some hx428
                  obtain ⟨v430, r431, hq432⟩ := sliceR r12 hs429a hs429b hs429c
                  rw [← hs429d] at r431
                  refine dq (v := v430) rfl (fun _ _ => hq432 _ _ _ _ _ _ _ _ _ _ _ _ _ _ _ Tryd.underlying42 ty5 rfl rfl ⟨_, rfl⟩) rfl rfl <| dq (v := .agg #[v1, v4, v7]) rfl (fun _ hw => Q_ldB (k := 0) (cs := [v1, v4, v7]) hw rfl ty25 rfl rfl rfl (fun h => nomatch h) rfl) rfl rfl <| dq rfl (fun _ _ => Q_move rfl) rfl rfl <| dq rfl (fun _ _ => Q_move rfl) rfl rfl <| dq rfl (fun _ _ => Q_move rfl) rfl rfl ?_
                  obtain ⟨x433, hx433, hB425⟩ := bnd hB425
                  obtain ⟨hs434a, hs434b, hs434c, hs434d⟩ := slc_some hx433
                  obtain ⟨v435, r436, hq437⟩ := sliceR r12 hs434a hs434b hs434c
                  rw [← hs434d] at r436
                  refine dq (v := v435) rfl (fun _ _ => hq437 _ _ _ _ _ _ _ _ _ _ _ _ _ _ _ Tryd.underlying42 ty5 rfl rfl ⟨_, rfl⟩) rfl rfl ?_
                  replace H := H.front 4 rfl
                  dsimp only [List.eraseIdx] at H
                  replace H := H.front 4 rfl
                  dsimp only [List.eraseIdx] at H
                  replace H := H.front 4 rfl
                  dsimp only [List.eraseIdx] at H
                  obtain ⟨q438, hq438, hB425⟩ := bnd hB425
                  obtain ⟨C', ρ', hl439, HA, hL, hback⟩ := Hp.lend (A := []) (L := [Arr v250 256 c251, Arr v252 1 c253, Arr v254 1 c255]) (F := Box b231 [v1, v4, v7] :: Box b263 [v250, v252, v254] :: hs) H
                  refine d1 (de rfl (E_call fn27 rfl (c_27 HA  (arr_rd (by decide) hl439 (hL (Arr v250 256 c251) (by simp)) r259) (arr_rd (by decide) hl439 (hL (Arr v252 1 c253) (by simp)) r260) (arr_rd (by decide) hl439 (hL (Arr v254 1 c255) (by simp)) r261) (r431.up hl439) hq438)) rfl rfl ?_)
                  rintro _ wd441 ⟨x440, rfl, rfl, H⟩
                  try dsimp only at hB425
                  replace H := hback H
                  dsimp only [List.cons_append, List.nil_append] at H
                  refine ⟨H.okS (by simp), ?_⟩
                  obtain ⟨q442, hq442, hB425⟩ := bnd hB425
                  refine d1 (de rfl (E_call fn27 rfl (c_27 H  r3 r6 r9 r436 hq442)) rfl rfl ?_)
                  rintro _ wd445 ⟨x444, rfl, rfl, H⟩
                  try dsimp only at hB425
                  refine ⟨H.okS (by simp), ?_⟩
                  refine dq rfl (fun _ _ => Q_neq rfl rfl) rfl rfl <| DL_nil <| x_then ?_
                  refine C_cond rfl (fun hb => ?_) (fun hb => ?_)
                  · replace hB425 := itT hb hB425
                    refine C_seq <| R_nd <| nq (Q_assign rfl) rfl rfl <| WL_nil <| x_then <| C_ret <| x_block_ret <| x_then_ret <| x_then_ret <| x_block_ret <| x_then_ret <| x_then_ret ?_
                    replace H := H.drop 0 rfl
                    dsimp only [List.eraseIdx] at H
                    replace H := H.drop 0 rfl
                    dsimp only [List.eraseIdx] at H
                    replace H := H.drop 0 rfl
                    dsimp only [List.eraseIdx] at H
                    replace H := H.drop 0 rfl
                    dsimp only [List.eraseIdx] at H
                    replace H := H.drop 0 rfl
                    dsimp only [List.eraseIdx] at H
                    obtain rfl := Option.some.inj hB425
                    obtain rfl := hO426 _ rfl
                    obtain rfl := Option.some.inj (show some _ = some _ from hF)
                    exact fn_ret (l := [.tmp 6]) (vs := [.bool false]) rfl rfl rfl ⟨false, rfl, rfl, H⟩
                  · replace hB425 := itF hb hB425
                    refine C_skip <| x_block <| x_then <| R_nd <| nq (Q_add rfl rfl) rfl rfl <| nq (Q_move rfl) rfl rfl <| WL_nil ?_
                    replace H := H.front 2 rfl
                    dsimp only [List.eraseIdx] at H
                    replace H := H.front 2 rfl
                    dsimp only [List.eraseIdx] at H
                    replace H := H.front 2 rfl
                    dsimp only [List.eraseIdx] at H
                    replace H := H.front 4 rfl
                    dsimp only [List.eraseIdx] at H
                    replace H := H.front 4 rfl
                    dsimp only [List.eraseIdx] at H
                    obtain rfl := Option.some.inj hB425
                    refine x_A fun a hf => ⟨_, rfl, w64 (x404 + 1), rfl, hf.sub ⟨rfl, rfl, rfl, rfl, rfl, rfl, trivial⟩, H⟩
                · replace hB425 := itF hb hB425
                  refine C_exit <| x_then_exit <| x_then_exit <| x_block_exit ?_
                  replace H := H.drop 0 rfl
                  dsimp only [List.eraseIdx] at H
                  replace H := H.drop 0 rfl
                  dsimp only [List.eraseIdx] at H
                  replace H := H.drop 0 rfl
                  dsimp only [List.eraseIdx] at H
                  replace H := H.drop 0 rfl
                  dsimp only [List.eraseIdx] at H
                  replace H := H.drop 0 rfl
                  dsimp only [List.eraseIdx] at H
                  obtain rfl := Option.some.inj hB425
                  obtain rfl := hO426 _ rfl
                  refine x_A fun a hf => ⟨rfl, hf.sub trivial, H⟩
            · rintro a wd446 ⟨rfl, hf, H⟩
              try dsimp only at hF
              refine XX.at hf <| x_then <| C_seq <| R_nd <| nq (Q_assign rfl) rfl rfl <| WL_nil <| x_then <| C_ret ?_
              obtain rfl := Option.some.inj hF
              exact fn_ret (l := [.tmp 6]) (vs := [.bool true]) rfl rfl rfl ⟨true, rfl, rfl, H⟩
end Go.Proofs.YteiaphkejkgfkaaDoor
