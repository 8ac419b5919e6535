/-
  The walks of the law CanonOne, printed by my program, part 2: each function of the code computes its pure function.
-/
import Derived.Test.YteiaphkejkgfkaaDoorCanonOnea
namespace Go.Proofs.YteiaphkejkgfkaaDoor
open Go Go.Eng
set_option maxRecDepth 100000
set_option maxHeartbeats 8000000 in
theorem c_29 {N : Nat} {C : Cx} {w : World} {ρ : View} {hs : List Hl} {v1 : Value} {v4 : Value} {v7 : Value} {x2 : (List (List Int))} {x5 : (List Int)} {x8 : (List Int)} (H : Hp C w ρ (hs)) {ge0 : Value} (gl0 : GErr ρ 0 ge0) (gl1 : GTab ρ 1 .u8 tab_math_bits_deBruijn64tab) (r3 : RdSl ρ (eA 256 (eI .i64)) v1 x2) (r6 : RdSl ρ (eI .i64) v4 x5) (r9 : RdSl ρ (eI .i64) v7 x8) {r : ((List (List Int)) × (List Int) × (List Int))} (hF : F_trim_Trim N x2 x5 x8 = some r) :
  Calls Tryd.prog 29 [.agg #[v1, v4, v7]].toArray w (Rets (fun v w' => (∃ (v1970 : Value) (c1971 : (List Value)) (v1974 : Value) (c1975 : (List Value)) (v1978 : Value) (c1979 : (List Value)) (x1972 : (List (List Int))) (x1976 : (List Int)) (x1980 : (List Int)), (x1972, x1976, x1980) = r ∧ .agg #[v1970, v1974, v1978] = v ∧ rdL (eA 256 (eI .i64)) ρ x1972 c1971 ∧ rdL (eI .i64) ρ x1976 c1975 ∧ rdL (eI .i64) ρ x1980 c1979 ∧ Hp C w' ρ (Arr v1970 256 c1971 :: Arr v1974 1 c1975 :: Arr v1978 1 c1979 :: hs)))) := by
 unfold F_trim_Trim at hF
 have h0 : Tryd.f29.body = some _ := rfl
 refine fn_calls' Tryd.func29 h0 (n := 95) rfl (by simp) <| C_seq <| R_nd <| ne (E_box H (vs := [v1, v4, v7]) rfl rfl) rfl rfl ?_
 rintro _ wd1983 ⟨b1982, rfl, H⟩
 refine ne (E_alloc H ty25 (zs := [.slice none 0 0, .slice none 0 0, .slice none 0 0]) rfl) rfl rfl ?_
 rintro _ wd1985 ⟨b1984, rfl, H⟩
 refine WL_nil <| x_then <| C_seq <| C_seq <| R_nd <| nq (v := .agg #[v1, v4, v7]) (Q_ldB (k := 1) (cs := [v1, v4, v7]) H.ok rfl ty25 rfl rfl rfl (fun h => nomatch h) rfl) rfl rfl ?_
 obtain ⟨q1986, hq1986, hF⟩ := bnd hF
 refine ne (E_call fn26 rfl (c_26 H  r3 r6 r9 hq1986)) rfl rfl ?_
 rintro _ wd1989 ⟨x1988, rfl, rfl, H⟩
 try dsimp only at hF
 refine nq (Q_not rfl) rfl rfl <| WL_nil <| x_then ?_
 refine C_cond rfl (fun hb => ?_) (fun hb => ?_)
 ·replace hF := itT hb hF
  refine C_seq <| R_nd <| nq (v := .agg #[.slice none 0 0, .slice none 0 0, .slice none 0 0]) (Q_buildS st25.choose_spec (ps := []) rfl trivial rfl) rfl rfl <| ne (E_stB (k := 0) (cs := [.slice none 0 0, .slice none 0 0, .slice none 0 0]) (vs' := [.slice none 0 0, .slice none 0 0, .slice none 0 0]) H rfl ty25 rfl rfl rfl rfl (one_cons rfl (one_cons rfl (one_cons rfl one_nil))) (by simp) rfl) rfl rfl ?_
  rintro _ wd1990 H
  dsimp only [List.set] at H
  refine WL_nil <| x_then <| C_ret <| x_then_ret ?_
  have H := H.nilArr 256
  have H := H.nilArr 1
  have H := H.nilArr 1
  have hRV : RV Tryd.prog wd1990 [(2, .pointer (some ⟨b1984, 0, none⟩))] [.cell 2 25] [.agg #[(.slice none 0 0), (.slice none 0 0), (.slice none 0 0)]] := ⟨⟨_, rfl, run_ldv ty25 rfl (fun h => nomatch h) (box_at (H.ok.get (k := 3) rfl) 0 3)⟩, trivial⟩
  replace H := H.f1
  replace H := H.f2
  replace H := H.drop 3 rfl
  dsimp only [List.eraseIdx] at H
  replace H := H.drop 3 rfl
  dsimp only [List.eraseIdx] at H
  obtain rfl := Option.some.inj hF
  exact fn_retV (rs := [.cell 2 25]) (vs := [.agg #[(.slice none 0 0), (.slice none 0 0), (.slice none 0 0)]]) rfl hRV ⟨(.slice none 0 0), [], (.slice none 0 0), [], (.slice none 0 0), [], [], [], [], rfl, rfl, rdL.nil, rdL.nil, rdL.nil, H⟩
 ·replace hF := itF hb hF
  refine C_skip <| x_then <| C_seq <| R_nd <| nq (v := .agg #[v1, v4, v7]) (Q_ldB (k := 1) (cs := [v1, v4, v7]) H.ok rfl ty25 rfl rfl rfl (fun h => nomatch h) rfl) rfl rfl ?_
  obtain ⟨q1991, hq1991, hF⟩ := bnd hF
  refine ne (E_call fn62 rfl (c_62 H gl0 gl1 r3 r6 r9 hq1991)) rfl rfl ?_
  rintro _ wd1997 ⟨v1993, c1994, x1995, rfl, rfl, r1996, H⟩
  try dsimp only at hF
  refine nq (Q_assign rfl) rfl rfl <| WL_nil <| x_then <| C_seq <| R_nd <| nq (v := .pointer (some ⟨b1982, 0, none⟩)) (Q_fld Tryd.underlying25 rfl ty22 (by decide) rfl rfl) rfl rfl <| nq (v := v1) (Q_ldB (k := 2) (cs := [v1]) H.ok rfl ty22 rfl rfl rfl (fun _ => rfl) rfl) rfl rfl <| nq (Q_len Tryd.underlying22 rfl r3) rfl rfl ?_
  obtain ⟨x1998, hx1998, hF⟩ := bnd hF
  obtain ⟨hm2000a, hm2000b, hm2000c⟩ := mk_some hx1998
  refine ne (E_make H Tryd.underlying23 ty3 (zs := [.int .i64 0]) rfl rfl (by decide) (by decide) rfl hm2000a hm2000b) rfl rfl ?_
  rintro _ wd2001 ⟨b1999, rfl, H⟩
  refine nq (Q_assign rfl) rfl rfl <| WL_nil <| x_then <| C_seq <| C_seq <| R_nd <| nq (Q_move rfl) rfl rfl <| nq (Q_lenA (k := 1) H.ok rfl r1996 (by decide) Tryd.underlying23 rfl) rfl rfl <| nq (Q_move rfl) rfl rfl <| WL_nil <| x_then ?_
  obtain ⟨o2075, ho2075, hF⟩ := bnd hF
  refine C_cutQ (fun a w' => ∃ (c2072 : (List Value)) (x2073 : (List Int)), x2073 = o2075 ∧ rdL (eI .i64) ρ x2073 c2072 ∧ Fr 95 a [(1, .pointer (some ⟨b1982, 0, none⟩)), (2, .pointer (some ⟨b1984, 0, none⟩)), (3, v1993), (4, (.slice (some ⟨b1999, 0, none⟩) (x2.length : Int).toNat (x2.length : Int).toNat))] ∧ Hp C w' ρ (Box b1982 [v1, v4, v7] :: Box b1984 [.slice none 0 0, .slice none 0 0, .slice none 0 0] :: Arr v1993 1 c1994 :: Arr (.slice (some ⟨b1999, 0, none⟩) (x2.length : Int).toNat (x2.length : Int).toNat) 1 c2072 :: hs)) ?_ ?_
  ·refine C_block ?_
   replace H := H.f1
   replace H := H.f2
   replace H := H.f3
   refine C_iter (f := fun s => F_trim_Trim_l0 N x1995 s.1 s.2) ho2075 (fun s a w' => ∃ (c2099 : (List Value)) (x2098 : Int) (x2100 : (List Int)), (x2098, x2100) = s ∧ rdL (eI .i64) ρ x2100 c2099 ∧ Fr 95 a [(1, .pointer (some ⟨b1982, 0, none⟩)), (2, .pointer (some ⟨b1984, 0, none⟩)), (3, v1993), (4, (.slice (some ⟨b1999, 0, none⟩) (x2.length : Int).toNat (x2.length : Int).toNat)), (25, v1993), (26, .int .i64 (x1995.length : Int)), (27, .int .i64 x2098)] ∧ Hp C w' ρ (Box b1982 [v1, v4, v7] :: Box b1984 [.slice none 0 0, .slice none 0 0, .slice none 0 0] :: Arr v1993 1 c1994 :: Arr (.slice (some ⟨b1999, 0, none⟩) (x2.length : Int).toNat (x2.length : Int).toNat) 1 c2099 :: hs)) ?_ ?_
   ·exact fun a hf => ⟨(repC (x2.length : Int).toNat [.int .i64 0]), 0, x1998, rfl, (hm2000c ▸ rdL_rep (e := (eI .i64)) (ρ := ρ) (rfl) _), hf.sub ⟨rfl, rfl, rfl, rfl, rfl, rfl, rfl, trivial⟩, H⟩
   ·rintro s o2124 a wd2127 ⟨c2099, x2098, x2100, rfl, r2101, hf, H⟩ hB2125 hO2126
    replace hB2125 : F_trim_Trim_l0 N x1995 x2098 x2100 = some o2124 := hB2125
    unfold F_trim_Trim_l0 at hB2125
    refine CW.at hf <| C_seq <| R_nd <| nq (Q_lss rfl rfl) rfl rfl <| WL_nil <| x_then <| C_seq ?_
    refine C_cond rfl (fun hb => ?_) (fun hb => ?_)
    ·replace hB2125 := itT hb hB2125
     refine C_skip <| x_then <| C_seq <| C_block <| C_seq <| R_nd <| nq (Q_move rfl) rfl rfl ?_
     obtain ⟨x2128, hx2128, hB2125⟩ := bnd hB2125
     obtain ⟨b2129, o2130, hi2134, hc2132, ha2133⟩ := arr_at (hs := [Arr v1993 1 c1994]) (k := 0) (by decide) (H.okS (by simp)) rfl r1996 hx2128
     refine nq (Q_idx hi2134 Tryd.underlying23 ty3 rfl rfl) rfl rfl <| nq (v := .int .i64 x2128) (Q_ld (show cellsAt _ _ _ [.int .i64 x2128] from (show _ = [_] from hc2132) ▸ (ha2133 _ (Ok.subS (by simp) H.ok))) ty3 rfl (fun _ => rfl) rfl rfl) rfl rfl <| nq (Q_assign rfl) rfl rfl <| nq (Q_assign rfl) rfl rfl <| WL_nil <| x_then <| R_nd <| nq (Q_move rfl) rfl rfl <| nq (Q_move rfl) rfl rfl <| nq (Q_move rfl) rfl rfl ?_
     obtain ⟨x2135, hx2135, hB2125⟩ := bnd hB2125
     obtain ⟨b2136, o2137, hi2141, hc2139, ha2140⟩ := arr_at (hs := [Arr (.slice (some ⟨b1999, 0, none⟩) (x2.length : Int).toNat (x2.length : Int).toNat) 1 c2099]) (k := 0) (by decide) (H.okS (by simp)) rfl r2101 hx2135
     refine nq (Q_idx hi2141 Tryd.underlying23 ty3 rfl rfl) rfl rfl ?_
     obtain ⟨x2142, hx2142, hB2125⟩ := bnd hB2125
     obtain ⟨hs2143a, hs2143b, hs2143c⟩ := setI_some hx2142
     have r2144 : rdL (eI .i64) ρ x2142 (setC c2099 (x2128.toNat * 1 + 0) [.int .i64 x2098]) := hs2143c ▸ rdL.set r2101 hs2143b (rfl)
     refine ne (E_stA (k := 3) (j := 0) (c := [.int .i64 x2098]) H rfl ty3 hi2141 rfl rfl rfl rfl (one_cons rfl one_nil) (by decide)) rfl rfl ?_
     rintro _ wd2145 H
     dsimp only [List.set] at H
     refine WL_nil <| x_block <| x_then <| R_nd <| nq (Q_add rfl rfl) rfl rfl <| nq (Q_move rfl) rfl rfl <| WL_nil ?_
     replace H := H.f3
     replace H := H.f3
     replace H := H.f3
     replace H := H.f3
     obtain rfl := Option.some.inj hB2125
     refine x_A fun a hf => ⟨_, rfl, (setC c2099 (x2128.toNat * 1 + 0) [.int .i64 x2098]), w64 (x2098 + 1), x2142, rfl, r2144, hf.sub ⟨rfl, rfl, rfl, rfl, rfl, rfl, rfl, trivial⟩, H⟩
    ·replace hB2125 := itF hb hB2125
     refine C_exit <| x_then_exit <| x_then_exit <| x_block_exit ?_
     replace H := H.f3
     replace H := H.f3
     replace H := H.f3
     replace H := H.f3
     obtain rfl := Option.some.inj hB2125
     obtain rfl := hO2126 _ rfl
     refine x_A fun a hf => ⟨c2099, x2100, rfl, r2101, hf.sub ⟨rfl, rfl, rfl, rfl, trivial⟩, H⟩
  ·rintro a wd2146 ⟨c2072, x2073, rfl, r2074, hf, H⟩
   try dsimp only at hF
   refine XX.at hf <| x_then <| C_seq <| R_nd <| ne (E_alloc H ty25 (zs := [.slice none 0 0, .slice none 0 0, .slice none 0 0]) rfl) rfl rfl ?_
   rintro _ wd2148 ⟨b2147, rfl, H⟩
   refine WL_nil <| x_then <| C_seq <| C_seq <| R_nd <| nq (Q_move rfl) rfl rfl <| nq (Q_lenA (k := 3) H.ok rfl r1996 (by decide) Tryd.underlying23 rfl) rfl rfl <| nq (Q_move rfl) rfl rfl <| WL_nil <| x_then ?_
   obtain ⟨o2836, ho2836, hF⟩ := bnd hF
   refine C_cutQ (fun a w' => ∃ (v2828 : Value) (c2829 : (List Value)) (v2832 : Value) (c2833 : (List Value)) (x2830 : (List (List Int))) (x2834 : (List Int)), (x2830, x2834) = o2836 ∧ rdL (eA 256 (eI .i64)) ρ x2830 c2829 ∧ rdL (eI .i64) ρ x2834 c2833 ∧ Fr 95 a [(1, .pointer (some ⟨b1982, 0, none⟩)), (2, .pointer (some ⟨b1984, 0, none⟩)), (4, (.slice (some ⟨b1999, 0, none⟩) (x2.length : Int).toNat (x2.length : Int).toNat)), (7, .pointer (some ⟨b2147, 0, none⟩))] ∧ Hp C w' ρ (Box b1982 [v1, v4, v7] :: Box b1984 [.slice none 0 0, .slice none 0 0, .slice none 0 0] :: Arr (.slice (some ⟨b1999, 0, none⟩) (x2.length : Int).toNat (x2.length : Int).toNat) 1 c2072 :: Box b2147 [v2828, v2832, .slice none 0 0] :: Arr v2828 256 c2829 :: Arr v2832 1 c2833 :: hs)) ?_ ?_
   ·refine C_block ?_
    have H := H.nilArr 256
    have H := H.nilArr 1
    replace H := H.f1
    replace H := H.f2
    replace H := H.f6
    replace H := H.f6
    replace H := H.f6
    replace H := H.f6
    refine C_iter (f := fun s => F_trim_Trim_l1 N x2 x5 x1995 x2073 s.1 s.2.1 s.2.2) ho2836 (fun s a w' => ∃ (v3063 : Value) (c3064 : (List Value)) (v3067 : Value) (c3068 : (List Value)) (x3062 : Int) (x3065 : (List (List Int))) (x3069 : (List Int)), (x3062, x3065, x3069) = s ∧ rdL (eA 256 (eI .i64)) ρ x3065 c3064 ∧ rdL (eI .i64) ρ x3069 c3068 ∧ Fr 95 a [(1, .pointer (some ⟨b1982, 0, none⟩)), (2, .pointer (some ⟨b1984, 0, none⟩)), (4, (.slice (some ⟨b1999, 0, none⟩) (x2.length : Int).toNat (x2.length : Int).toNat)), (7, .pointer (some ⟨b2147, 0, none⟩)), (37, v1993), (38, .int .i64 (x1995.length : Int)), (39, .int .i64 x3062)] ∧ Hp C w' ρ (Box b1982 [v1, v4, v7] :: Box b1984 [.slice none 0 0, .slice none 0 0, .slice none 0 0] :: Arr v1993 1 c1994 :: Arr (.slice (some ⟨b1999, 0, none⟩) (x2.length : Int).toNat (x2.length : Int).toNat) 1 c2072 :: Box b2147 [v3063, v3067, .slice none 0 0] :: Arr v3063 256 c3064 :: Arr v3067 1 c3068 :: hs)) ?_ ?_
    ·exact fun a hf => ⟨(.slice none 0 0), [], (.slice none 0 0), [], 0, [], [], rfl, rdL.nil, rdL.nil, hf.sub ⟨rfl, rfl, rfl, rfl, rfl, rfl, rfl, trivial⟩, H⟩
    ·rintro s o3296 a wd3299 ⟨v3063, c3064, v3067, c3068, x3062, x3065, x3069, rfl, r3066, r3070, hf, H⟩ hB3297 hO3298
     replace hB3297 : F_trim_Trim_l1 N x2 x5 x1995 x2073 x3062 x3065 x3069 = some o3296 := hB3297
     unfold F_trim_Trim_l1 at hB3297
     refine CW.at hf <| C_seq <| R_nd <| nq (Q_lss rfl rfl) rfl rfl <| WL_nil <| x_then <| C_seq ?_
     refine C_cond rfl (fun hb => ?_) (fun hb => ?_)
     ·replace hB3297 := itT hb hB3297
      refine C_skip <| x_then <| C_seq <| C_block <| C_seq <| R_nd ?_
      obtain ⟨x3300, hx3300, hB3297⟩ := bnd hB3297
      obtain ⟨b3301, o3302, hi3306, hc3304, ha3305⟩ := arr_at (hs := [Arr v1993 1 c1994]) (k := 0) (by decide) (H.okS (by simp)) rfl r1996 hx3300
      refine nq (Q_idx hi3306 Tryd.underlying23 ty3 rfl rfl) rfl rfl <| nq (v := .int .i64 x3300) (Q_ld (show cellsAt _ _ _ [.int .i64 x3300] from (show _ = [_] from hc3304) ▸ (ha3305 _ (Ok.subS (by simp) H.ok))) ty3 rfl (fun _ => rfl) rfl rfl) rfl rfl <| nq (Q_assign rfl) rfl rfl <| WL_nil <| x_then <| C_seq <| R_nd <| nq (v := .pointer (some ⟨b1982, 0, none⟩)) (Q_fld Tryd.underlying25 rfl ty22 (by decide) rfl rfl) rfl rfl <| nq (v := v1) (Q_ldB (k := 0) (cs := [v1]) H.ok rfl ty22 rfl rfl rfl (fun _ => rfl) rfl) rfl rfl <| nq (Q_move rfl) rfl rfl ?_
      obtain ⟨x3307, hx3307, hB3297⟩ := bnd hB3297
      obtain ⟨b3308, o3309, c3310, hc3311, ha3312, hi3313⟩ := idxR r3 hx3307
      refine nq (Q_idx hi3313 Tryd.underlying22 ty58 rfl rfl) rfl rfl <| nq (v := .agg c3310.toArray) (Q_ld (ha3312.up H.ok.view) ty58 ((eA 256 (eI .i64)).len hc3311) (fun h => nomatch h) rfl rfl) rfl rfl <| ne (E_allocA (N := 256) (n := 1) (zs := (repC 256 [.int .i64 0])) H ty58 rfl (by simp [repC_length])) rfl rfl ?_
      rintro _ wd3315 ⟨b3314, rfl, H⟩
      refine ne (E_stW (k := 0) H rfl ty58 rfl rfl (rdL.one hc3311.2) (arr_clen (rdL_rep (e:=(eI .i64)) (ρ:=ρ) (rfl) 256) List.length_replicate) (arr_clen hc3311.2 hc3311.1)) rfl rfl ?_
      rintro _ wd3316 H
      dsimp only [List.set] at H
      refine WL_nil <| x_then <| C_seq <| C_seq <| R_nd <| nq (Q_ldW (k := 0) H.ok rfl ty58 rfl (arr_clen hc3311.2 hc3311.1)) rfl rfl <| nq (Q_move rfl) rfl rfl <| WL_nil <| x_then ?_
      obtain ⟨o3385, ho3385, hB3297⟩ := bnd hB3297
      refine C_cutQ (fun a w' => ∃ (c3381 : (List Value)) (x3382 : (List Int)), x3382 = o3385 ∧ rdL (eI .i64) ρ x3382 c3381 ∧ x3382.length = 256 ∧ Fr 95 a [(1, .pointer (some ⟨b1982, 0, none⟩)), (2, .pointer (some ⟨b1984, 0, none⟩)), (4, (.slice (some ⟨b1999, 0, none⟩) (x2.length : Int).toNat (x2.length : Int).toNat)), (7, .pointer (some ⟨b2147, 0, none⟩)), (9, .int .i64 x3300), (10, .pointer (some ⟨b3314, 0, none⟩)), (37, v1993), (38, .int .i64 (x1995.length : Int)), (39, .int .i64 x3062)] ∧ Hp C w' ρ (Box b1982 [v1, v4, v7] :: Arr (.slice (some ⟨b3314, 0, none⟩) 256 256) 1 c3381 :: Box b1984 [.slice none 0 0, .slice none 0 0, .slice none 0 0] :: Arr v1993 1 c1994 :: Arr (.slice (some ⟨b1999, 0, none⟩) (x2.length : Int).toNat (x2.length : Int).toNat) 1 c2072 :: Box b2147 [v3063, v3067, .slice none 0 0] :: Arr v3063 256 c3064 :: Arr v3067 1 c3068 :: hs)) ?_ ?_
      ·refine C_block ?_
       replace H := H.f7
       replace H := H.f7
       replace H := H.f7
       replace H := H.f7
       replace H := H.f7
       replace H := H.f7
       replace H := H.f6
       replace H := H.f7
       refine C_iter (f := fun s => F_trim_Trim_l2 N x2073 x3307 s.1 s.2) ho3385 (fun s a w' => ∃ (c3406 : (List Value)) (x3407 : (List Int)) (x3410 : Int), (x3407, x3410) = s ∧ rdL (eI .i64) ρ x3407 c3406 ∧ x3407.length = 256 ∧ Fr 95 a [(1, .pointer (some ⟨b1982, 0, none⟩)), (2, .pointer (some ⟨b1984, 0, none⟩)), (4, (.slice (some ⟨b1999, 0, none⟩) (x2.length : Int).toNat (x2.length : Int).toNat)), (7, .pointer (some ⟨b2147, 0, none⟩)), (9, .int .i64 x3300), (10, .pointer (some ⟨b3314, 0, none⟩)), (37, v1993), (38, .int .i64 (x1995.length : Int)), (39, .int .i64 x3062), (48, .agg c3310.toArray), (49, .int .i64 x3410)] ∧ Hp C w' ρ (Box b1982 [v1, v4, v7] :: Arr (.slice (some ⟨b3314, 0, none⟩) 256 256) 1 c3406 :: Box b1984 [.slice none 0 0, .slice none 0 0, .slice none 0 0] :: Arr v1993 1 c1994 :: Arr (.slice (some ⟨b1999, 0, none⟩) (x2.length : Int).toNat (x2.length : Int).toNat) 1 c2072 :: Box b2147 [v3063, v3067, .slice none 0 0] :: Arr v3063 256 c3064 :: Arr v3067 1 c3068 :: hs)) ?_ ?_
       ·exact fun a hf => ⟨c3310, x3307, 0, rfl, hc3311.2, hc3311.1, hf.sub ⟨rfl, rfl, rfl, rfl, rfl, rfl, rfl, rfl, rfl, rfl, rfl, trivial⟩, H⟩
       ·rintro s o3431 a wd3434 ⟨c3406, x3407, x3410, rfl, r3408, lp3409, hf, H⟩ hB3432 hO3433
        replace hB3432 : F_trim_Trim_l2 N x2073 x3307 x3407 x3410 = some o3431 := hB3432
        unfold F_trim_Trim_l2 at hB3432
        refine CW.at hf <| C_seq <| R_nd <| nq (Q_lss rfl rfl) rfl rfl <| WL_nil <| x_then <| C_seq ?_
        refine C_cond rfl (fun hb => ?_) (fun hb => ?_)
        ·replace hB3432 := itT hb hB3432
         refine C_skip <| x_then <| C_seq <| C_block <| C_seq <| R_nd <| nq (Q_move rfl) rfl rfl ?_
         obtain ⟨x3435, hx3435, hB3432⟩ := bnd hB3432
         refine nq (Q_ixI hc3311.2 hc3311.1 hx3435 Tryd.underlying58 rfl rfl ty3 rfl) rfl rfl <| nq (Q_assign rfl) rfl rfl <| nq (Q_assign rfl) rfl rfl <| WL_nil <| x_then <| R_nd <| nq (Q_move rfl) rfl rfl <| nq (Q_move rfl) rfl rfl <| nq (Q_move rfl) rfl rfl ?_
         obtain ⟨x3436, hx3436, hB3432⟩ := bnd hB3432
         obtain ⟨b3437, o3438, hi3442, hc3440, ha3441⟩ := arr_at (hs := [Arr (.slice (some ⟨b1999, 0, none⟩) (x2.length : Int).toNat (x2.length : Int).toNat) 1 c2072]) (k := 0) (by decide) (H.okS (by simp)) rfl r2074 hx3436
         refine nq (Q_idx hi3442 Tryd.underlying23 ty3 rfl rfl) rfl rfl <| nq (v := .int .i64 x3436) (Q_ld (show cellsAt _ _ _ [.int .i64 x3436] from (show _ = [_] from hc3440) ▸ (ha3441 _ (Ok.subS (by simp) H.ok))) ty3 rfl (fun _ => rfl) rfl rfl) rfl rfl ?_
         obtain ⟨x3443, hx3443, hB3432⟩ := bnd hB3432
         have hn3445 := idx_lt (N := 256) (lp3409) hx3443
         have hi3444 : IdxOk (.slice (some ⟨b3314, 0, none⟩) 256 256) x3410 1 b3314 (0 + x3410.toNat * 1) := ⟨0, 256, 256, rfl, hn3445.1, hn3445.2, rfl⟩
         refine nq (Q_idxA hn3445.1 hn3445.2 Tryd.underlying58 ty3 rfl rfl) rfl rfl ?_
         obtain ⟨x3446, hx3446, hB3432⟩ := bnd hB3432
         obtain ⟨hs3447a, hs3447b, hs3447c⟩ := setI_some hx3446
         have r3448 : rdL (eI .i64) ρ x3446 (setC c3406 (x3410.toNat * 1 + 0) [.int .i64 x3436]) := hs3447c ▸ rdL.set r3408 hs3447b (rfl)
         refine ne (E_stA (k := 1) (j := 0) (c := [.int .i64 x3436]) H rfl ty3 hi3444 rfl rfl rfl rfl (one_cons rfl one_nil) (by decide)) rfl rfl ?_
         rintro _ wd3449 H
         dsimp only [List.set] at H
         refine WL_nil <| x_block <| x_then <| R_nd <| nq (Q_add rfl rfl) rfl rfl <| nq (Q_move rfl) rfl rfl <| WL_nil ?_
         replace H := H.f7
         replace H := H.f7
         replace H := H.f7
         replace H := H.f7
         replace H := H.f7
         replace H := H.f7
         replace H := H.f7
         replace H := H.f7
         obtain rfl := Option.some.inj hB3432
         refine x_A fun a hf => ⟨_, rfl, (setC c3406 (x3410.toNat * 1 + 0) [.int .i64 x3436]), x3446, w64 (x3410 + 1), rfl, r3448, (setI_len hx3446 lp3409), hf.sub ⟨rfl, rfl, rfl, rfl, rfl, rfl, rfl, rfl, rfl, rfl, rfl, trivial⟩, H⟩
        ·replace hB3432 := itF hb hB3432
         refine C_exit <| x_then_exit <| x_then_exit <| x_block_exit ?_
         replace H := H.f7
         replace H := H.f7
         replace H := H.f7
         replace H := H.f7
         replace H := H.f7
         replace H := H.f7
         replace H := H.f7
         replace H := H.f7
         obtain rfl := Option.some.inj hB3432
         obtain rfl := hO3433 _ rfl
         refine x_A fun a hf => ⟨c3406, x3407, rfl, r3408, lp3409, hf.sub ⟨rfl, rfl, rfl, rfl, rfl, rfl, rfl, rfl, rfl, trivial⟩, H⟩
      ·rintro a wd3450 ⟨c3381, x3382, rfl, r3383, lp3384, hf, H⟩
       try dsimp only at hB3297
       refine XX.at hf <| x_then <| C_seq <| R_nd <| nq (v := .pointer (some ⟨b2147, 0, none⟩)) (Q_fld Tryd.underlying25 rfl ty22 (by decide) rfl rfl) rfl rfl <| nq (v := v3063) (Q_ldB (k := 5) (cs := [v3063]) H.ok rfl ty22 rfl rfl rfl (fun _ => rfl) rfl) rfl rfl <| nq (Q_ldW (k := 1) H.ok rfl ty58 rfl (arr_clen r3383 lp3384)) rfl rfl <| ne (E_bslice (xs := [.tmp 62]) (vs := [.agg c3381.toArray]) H Tryd.underlying22 ty58 (by decide) (cs := c3381) rfl (sz_cons (arr_clen r3383 lp3384) sz_nil) (by simp [Value.cells]) (by simp) (by simp) rfl rfl) rfl rfl ?_
       rintro _ wd3452 ⟨b3451, rfl, H⟩
       obtain ⟨x3453, hx3453, hB3297⟩ := bnd hB3297
       obtain ⟨ha3454a, ha3454b⟩ := app_some hx3453
       have r3456 : rdL (eA 256 (eI .i64)) ρ x3453 (c3064 ++ c3381) := ha3454b ▸ rdL.app r3066 (show rdL (eA 256 (eI .i64)) ρ ([x3382]) c3381 from rdL.single ⟨lp3384, r3383⟩)
       refine ne (E_append (k := 7) H rfl Tryd.underlying22 ty58 rfl (by decide) (by decide) rfl rfl (Src.ofArr (k := 0) H.ok rfl) (rdL.one (show rdL (eA 256 (eI .i64)) ρ ([x3382]) c3381 from rdL.single ⟨lp3384, r3383⟩)) (app_fit r3066 (show rdL (eA 256 (eI .i64)) ρ ([x3382]) c3381 from rdL.single ⟨lp3384, r3383⟩) ha3454a)) rfl rfl ?_
       rintro v3455 wd3458 ⟨H, hc3457⟩
       dsimp only [List.set] at H
       refine nq (v := .pointer (some ⟨b2147, 0, none⟩)) (Q_fld Tryd.underlying25 rfl ty22 (by decide) rfl rfl) rfl rfl <| ne (E_stB (k := 6) (cs := [v3455]) (vs' := [v3455, v3067, .slice none 0 0]) H rfl ty22 rfl rfl (arr_cells (H.ok.get (k := 7) rfl)).1 rfl (one_cons (arr_cells (H.ok.get (k := 7) rfl)).2 one_nil) (by simp) rfl) rfl rfl ?_
       rintro _ wd3459 H
       dsimp only [List.set] at H
       refine WL_nil <| x_then ?_
       obtain ⟨o3489, ho3489, hB3297⟩ := bnd hB3297
       refine C_cutQ (fun a w' => ∃ (v3485 : Value) (c3486 : (List Value)) (x3487 : (List Int)), x3487 = o3489 ∧ rdL (eI .i64) ρ x3487 c3486 ∧ Fr 95 a [(1, .pointer (some ⟨b1982, 0, none⟩)), (2, .pointer (some ⟨b1984, 0, none⟩)), (4, (.slice (some ⟨b1999, 0, none⟩) (x2.length : Int).toNat (x2.length : Int).toNat)), (7, .pointer (some ⟨b2147, 0, none⟩)), (37, v1993), (38, .int .i64 (x1995.length : Int)), (39, .int .i64 x3062)] ∧ Hp C w' ρ (Box b1982 [v1, v4, v7] :: Box b1984 [.slice none 0 0, .slice none 0 0, .slice none 0 0] :: Arr v1993 1 c1994 :: Arr (.slice (some ⟨b1999, 0, none⟩) (x2.length : Int).toNat (x2.length : Int).toNat) 1 c2072 :: Box b2147 [v3455, v3485, .slice none 0 0] :: Arr v3455 256 (c3064 ++ c3381) :: Arr v3485 1 c3486 :: hs)) ?_ ?_
       ·refine R_dr (.take 0 (.take 2 (.take 3 (.take 4 (.take 5 (.take 6 (.two 1 7 (.one 7 (.one 8 (.take 9 (.one 10 .done)))) (.one 1 (.one 8 (.take 9 (.one 10 .done))))))))))) (fun w' => Ok w' ρ [Arr (.slice (some ⟨b3451, 0, none⟩) 1 1) 256 c3381, Box b1982 [v1, v4, v7], Arr (.slice (some ⟨b3314, 0, none⟩) 256 256) 1 c3381, Box b1984 [.slice none 0 0, .slice none 0 0, .slice none 0 0], Arr v1993 1 c1994, Arr (.slice (some ⟨b1999, 0, none⟩) (x2.length : Int).toNat (x2.length : Int).toNat) 1 c2072, Arr v3455 256 (c3064 ++ c3381)]) (by kernel_rfl) (by kernel_rfl) (by kernel_rfl) (H.drew.okS (by simp)) ?_
        replace H := H.drew
        refine dq (v := .pointer (some ⟨b2147, 1, none⟩)) rfl (fun _ _ => Q_fld Tryd.underlying25 rfl ty23 (by decide) rfl rfl) rfl rfl <| dq (v := .pointer (some ⟨b1982, 1, none⟩)) rfl (fun _ _ => Q_fld Tryd.underlying25 rfl ty23 (by decide) rfl rfl) rfl rfl <| dq (v := v4) rfl (fun _ hw => Q_ldB (k := 1) (cs := [v4]) hw rfl ty23 rfl rfl rfl (fun _ => rfl) rfl) rfl rfl <| dq rfl (fun _ _ => Q_move rfl) rfl rfl ?_
        obtain ⟨x3490, hx3490, ho3489⟩ := bnd ho3489
        obtain ⟨b3491, o3492, c3493, hc3494, ha3495, hi3496⟩ := idxR r6 hx3490
        refine dq rfl (fun _ _ => Q_idx hi3496 Tryd.underlying23 ty3 rfl rfl) rfl rfl <| dq (v := .int .i64 x3490) rfl (fun _ hw => Q_ld (show cellsAt _ _ _ [.int .i64 x3490] from (show _ = [_] from hc3494) ▸ (ha3495.up hw.view)) ty3 rfl (fun _ => rfl) rfl rfl) rfl rfl ?_
        refine d2 ?_ ?_
        ·refine de rfl (Eff.quiet (v := v3067) (Q_ldB (k := 6) (cs := [v3067]) H.ok rfl ty23 rfl rfl rfl (fun _ => rfl) rfl)) rfl rfl ?_
         rintro _ _ ⟨rfl, rfl⟩
         refine ⟨H.okS (by simp), ?_⟩
         refine d1 (de rfl (E_bslice (xs := [.tmp 72]) (vs := [.int .i64 x3490]) H Tryd.underlying23 ty3 (by decide) (cs := [.int .i64 x3490]) rfl (sz_cons rfl sz_nil) rfl (by simp) (by simp) rfl rfl) rfl rfl ?_)
         rintro _ wd3498 ⟨b3497, rfl, H⟩
         refine ⟨H.okS (by simp), ?_⟩
         obtain ⟨x3499, hx3499, ho3489⟩ := bnd ho3489
         obtain ⟨ha3500a, ha3500b⟩ := app_some hx3499
         have r3502 : rdL (eI .i64) ρ x3499 (c3068 ++ ([.int .i64 x3490])) := ha3500b ▸ rdL.app r3070 (show rdL (eI .i64) ρ ([x3490]) ([.int .i64 x3490]) from ⟨([.int .i64 x3490]), _, rfl, rfl, rdL.nil⟩)
         refine d1 (de rfl (E_append (k := 9) H rfl Tryd.underlying23 ty3 rfl (by decide) (by decide) rfl rfl (Src.ofArr (k := 0) H.ok rfl) (rdL.one (show rdL (eI .i64) ρ ([x3490]) ([.int .i64 x3490]) from ⟨([.int .i64 x3490]), _, rfl, rfl, rdL.nil⟩)) (app_fit r3070 (show rdL (eI .i64) ρ ([x3490]) ([.int .i64 x3490]) from ⟨([.int .i64 x3490]), _, rfl, rfl, rdL.nil⟩) ha3500a)) rfl rfl ?_)
         rintro v3501 wd3504 ⟨H, hc3503⟩
         dsimp only [List.set] at H
         refine ⟨H.okS (by simp), ?_⟩
         refine dq (v := .pointer (some ⟨b2147, 1, none⟩)) rfl (fun _ _ => Q_fld Tryd.underlying25 rfl ty23 (by decide) rfl rfl) rfl rfl ?_
         refine d1 (de rfl (E_stB (k := 7) (cs := [v3501]) (vs' := [v3455, v3501, .slice none 0 0]) H rfl ty23 rfl rfl (arr_cells (H.ok.get (k := 9) rfl)).1 rfl (one_cons (arr_cells (H.ok.get (k := 9) rfl)).2 one_nil) (by simp) rfl) rfl rfl ?_)
         rintro _ wd3505 H
         dsimp only [List.set] at H
         refine ⟨H.okS (by simp), ?_⟩
         refine DL_nil ?_
         replace H := H.f9
         replace H := H.f9
         replace H := H.f9
         replace H := H.f9
         replace H := H.f9
         replace H := H.f9
         replace H := H.f8
         replace H := H.drop 7 rfl
         dsimp only [List.eraseIdx] at H
         replace H := H.drop 7 rfl
         dsimp only [List.eraseIdx] at H
         replace H := H.drop 7 rfl
         dsimp only [List.eraseIdx] at H
         obtain rfl := Option.some.inj ho3489
         refine x_A fun a hf => ⟨v3501, (c3068 ++ ([.int .i64 x3490])), x3499, rfl, r3502, hf.sub ⟨rfl, rfl, rfl, rfl, rfl, rfl, rfl, trivial⟩, H⟩
        ·refine de rfl (E_bslice (xs := [.tmp 72]) (vs := [.int .i64 x3490]) H Tryd.underlying23 ty3 (by decide) (cs := [.int .i64 x3490]) rfl (sz_cons rfl sz_nil) rfl (by simp) (by simp) rfl rfl) rfl rfl ?_
         rintro _ wd3507 ⟨b3506, rfl, H⟩
         refine ⟨H.okS (by simp), ?_⟩
         refine d1 (de rfl (Eff.quiet (v := v3067) (Q_ldB (k := 7) (cs := [v3067]) H.ok rfl ty23 rfl rfl rfl (fun _ => rfl) rfl)) rfl rfl ?_)
         rintro _ _ ⟨rfl, rfl⟩
         refine ⟨H.okS (by simp), ?_⟩
         obtain ⟨x3508, hx3508, ho3489⟩ := bnd ho3489
         obtain ⟨ha3509a, ha3509b⟩ := app_some hx3508
         have r3511 : rdL (eI .i64) ρ x3508 (c3068 ++ ([.int .i64 x3490])) := ha3509b ▸ rdL.app r3070 (show rdL (eI .i64) ρ ([x3490]) ([.int .i64 x3490]) from ⟨([.int .i64 x3490]), _, rfl, rfl, rdL.nil⟩)
         refine d1 (de rfl (E_append (k := 9) H rfl Tryd.underlying23 ty3 rfl (by decide) (by decide) rfl rfl (Src.ofArr (k := 0) H.ok rfl) (rdL.one (show rdL (eI .i64) ρ ([x3490]) ([.int .i64 x3490]) from ⟨([.int .i64 x3490]), _, rfl, rfl, rdL.nil⟩)) (app_fit r3070 (show rdL (eI .i64) ρ ([x3490]) ([.int .i64 x3490]) from ⟨([.int .i64 x3490]), _, rfl, rfl, rdL.nil⟩) ha3509a)) rfl rfl ?_)
         rintro v3510 wd3513 ⟨H, hc3512⟩
         dsimp only [List.set] at H
         refine ⟨H.okS (by simp), ?_⟩
         refine dq (v := .pointer (some ⟨b2147, 1, none⟩)) rfl (fun _ _ => Q_fld Tryd.underlying25 rfl ty23 (by decide) rfl rfl) rfl rfl ?_
         refine d1 (de rfl (E_stB (k := 7) (cs := [v3510]) (vs' := [v3455, v3510, .slice none 0 0]) H rfl ty23 rfl rfl (arr_cells (H.ok.get (k := 9) rfl)).1 rfl (one_cons (arr_cells (H.ok.get (k := 9) rfl)).2 one_nil) (by simp) rfl) rfl rfl ?_)
         rintro _ wd3514 H
         dsimp only [List.set] at H
         refine ⟨H.okS (by simp), ?_⟩
         refine DL_nil ?_
         replace H := H.f9
         replace H := H.f9
         replace H := H.f9
         replace H := H.f9
         replace H := H.f9
         replace H := H.f9
         replace H := H.f8
         replace H := H.drop 7 rfl
         dsimp only [List.eraseIdx] at H
         replace H := H.drop 7 rfl
         dsimp only [List.eraseIdx] at H
         replace H := H.drop 7 rfl
         dsimp only [List.eraseIdx] at H
         obtain rfl := Option.some.inj ho3489
         refine x_A fun a hf => ⟨v3510, (c3068 ++ ([.int .i64 x3490])), x3508, rfl, r3511, hf.sub ⟨rfl, rfl, rfl, rfl, rfl, rfl, rfl, trivial⟩, H⟩
       ·rintro a wd3515 ⟨v3485, c3486, x3487, rfl, r3488, hf, H⟩
        try dsimp only at hB3297
        refine XX.at hf <| x_block <| x_then <| R_nd <| nq (Q_add rfl rfl) rfl rfl <| nq (Q_move rfl) rfl rfl <| WL_nil ?_
        replace H := H.f6
        replace H := H.f6
        replace H := H.f6
        replace H := H.f6
        replace H := H.f6
        replace H := H.f6
        replace H := H.f6
        obtain rfl := Option.some.inj hB3297
        refine x_A fun a hf => ⟨_, rfl, v3455, (c3064 ++ c3381), v3485, c3486, w64 (x3062 + 1), x3453, x3487, rfl, r3456, r3488, hf.sub ⟨rfl, rfl, rfl, rfl, rfl, rfl, rfl, trivial⟩, H⟩
     ·replace hB3297 := itF hb hB3297
      refine C_exit <| x_then_exit <| x_then_exit <| x_block_exit ?_
      replace H := H.f6
      replace H := H.f6
      replace H := H.f6
      replace H := H.f6
      replace H := H.f5
      replace H := H.f5
      replace H := H.drop 6 rfl
      dsimp only [List.eraseIdx] at H
      obtain rfl := Option.some.inj hB3297
      obtain rfl := hO3298 _ rfl
      refine x_A fun a hf => ⟨v3063, c3064, v3067, c3068, x3065, x3069, rfl, r3066, r3070, hf.sub ⟨rfl, rfl, rfl, rfl, trivial⟩, H⟩
   ·rintro a wd3516 ⟨v2828, c2829, v2832, c2833, x2830, x2834, rfl, r2831, r2835, hf, H⟩
    try dsimp only at hF
    refine XX.at hf <| x_then <| C_seq <| C_seq <| R_nd <| nq (v := .pointer (some ⟨b1982, 2, none⟩)) (Q_fld Tryd.underlying25 rfl ty23 (by decide) rfl rfl) rfl rfl <| nq (v := v7) (Q_ldB (k := 0) (cs := [v7]) H.ok rfl ty23 rfl rfl rfl (fun _ => rfl) rfl) rfl rfl <| nq (Q_len Tryd.underlying23 rfl r9) rfl rfl <| nq (Q_move rfl) rfl rfl <| WL_nil <| x_then ?_
    obtain ⟨o3729, ho3729, hF⟩ := bnd hF
    refine C_cutQ (fun a w' => ∃ (v3725 : Value) (c3726 : (List Value)) (x3727 : (List Int)), x3727 = o3729 ∧ rdL (eI .i64) ρ x3727 c3726 ∧ Fr 95 a [(2, .pointer (some ⟨b1984, 0, none⟩)), (7, .pointer (some ⟨b2147, 0, none⟩))] ∧ Hp C w' ρ (Box b1984 [.slice none 0 0, .slice none 0 0, .slice none 0 0] :: Box b2147 [v2828, v2832, v3725] :: Arr v2828 256 c2829 :: Arr v2832 1 c2833 :: Arr v3725 1 c3726 :: hs)) ?_ ?_
    ·refine C_block ?_
     have H := H.nilArr 1
     replace H := H.f6
     replace H := H.f6
     replace H := H.f6
     replace H := H.f6
     replace H := H.f6
     replace H := H.drop 6 rfl
     dsimp only [List.eraseIdx] at H
     refine C_iter (f := fun s => F_trim_Trim_l3 N x8 x2073 s.1 s.2) ho3729 (fun s a w' => ∃ (v3798 : Value) (c3799 : (List Value)) (x3800 : (List Int)) (x3802 : Int), (x3800, x3802) = s ∧ rdL (eI .i64) ρ x3800 c3799 ∧ Fr 95 a [(2, .pointer (some ⟨b1984, 0, none⟩)), (4, (.slice (some ⟨b1999, 0, none⟩) (x2.length : Int).toNat (x2.length : Int).toNat)), (7, .pointer (some ⟨b2147, 0, none⟩)), (78, v7), (79, .int .i64 (x8.length : Int)), (80, .int .i64 x3802)] ∧ Hp C w' ρ (Box b1984 [.slice none 0 0, .slice none 0 0, .slice none 0 0] :: Arr (.slice (some ⟨b1999, 0, none⟩) (x2.length : Int).toNat (x2.length : Int).toNat) 1 c2072 :: Box b2147 [v2828, v2832, v3798] :: Arr v2828 256 c2829 :: Arr v2832 1 c2833 :: Arr v3798 1 c3799 :: hs)) ?_ ?_
     ·exact fun a hf => ⟨(.slice none 0 0), [], [], 0, rfl, rdL.nil, hf.sub ⟨rfl, rfl, rfl, rfl, rfl, rfl, trivial⟩, H⟩
     ·rintro s o3871 a wd3874 ⟨v3798, c3799, x3800, x3802, rfl, r3801, hf, H⟩ hB3872 hO3873
      replace hB3872 : F_trim_Trim_l3 N x8 x2073 x3800 x3802 = some o3871 := hB3872
      unfold F_trim_Trim_l3 at hB3872
      refine CW.at hf <| C_seq <| R_nd <| nq (Q_lss rfl rfl) rfl rfl <| WL_nil <| x_then <| C_seq ?_
      refine C_cond rfl (fun hb => ?_) (fun hb => ?_)
      ·replace hB3872 := itT hb hB3872
       refine C_skip <| x_then <| C_seq <| C_block <| C_seq <| R_nd ?_
       obtain ⟨x3875, hx3875, hB3872⟩ := bnd hB3872
       obtain ⟨b3876, o3877, c3878, hc3879, ha3880, hi3881⟩ := idxR r9 hx3875
       refine nq (Q_idx hi3881 Tryd.underlying23 ty3 rfl rfl) rfl rfl <| nq (v := .int .i64 x3875) (Q_ld (show cellsAt _ _ _ [.int .i64 x3875] from (show _ = [_] from hc3879) ▸ (ha3880.up H.ok.view)) ty3 rfl (fun _ => rfl) rfl rfl) rfl rfl <| nq (Q_assign rfl) rfl rfl <| WL_nil <| x_then ?_
       obtain ⟨o3911, ho3911, hB3872⟩ := bnd hB3872
       refine C_cutQ (fun a w' => ∃ (v3907 : Value) (c3908 : (List Value)) (x3909 : (List Int)), x3909 = o3911 ∧ rdL (eI .i64) ρ x3909 c3908 ∧ Fr 95 a [(2, .pointer (some ⟨b1984, 0, none⟩)), (4, (.slice (some ⟨b1999, 0, none⟩) (x2.length : Int).toNat (x2.length : Int).toNat)), (7, .pointer (some ⟨b2147, 0, none⟩)), (78, v7), (79, .int .i64 (x8.length : Int)), (80, .int .i64 x3802)] ∧ Hp C w' ρ (Box b1984 [.slice none 0 0, .slice none 0 0, .slice none 0 0] :: Arr (.slice (some ⟨b1999, 0, none⟩) (x2.length : Int).toNat (x2.length : Int).toNat) 1 c2072 :: Box b2147 [v2828, v2832, v3907] :: Arr v2828 256 c2829 :: Arr v2832 1 c2833 :: Arr v3907 1 c3908 :: hs)) ?_ ?_
       ·refine R_dr (.take 0 (.take 2 (.take 3 (.take 4 (.take 5 (.two 1 6 (.one 6 (.one 7 (.take 8 (.one 9 .done)))) (.one 1 (.one 7 (.take 8 (.one 9 .done)))))))))) (fun w' => Ok w' ρ [Box b1984 [.slice none 0 0, .slice none 0 0, .slice none 0 0], Arr (.slice (some ⟨b1999, 0, none⟩) (x2.length : Int).toNat (x2.length : Int).toNat) 1 c2072, Arr v2828 256 c2829, Arr v2832 1 c2833]) (by kernel_rfl) (by kernel_rfl) (by kernel_rfl) (H.drew.okS (by simp)) ?_
        replace H := H.drew
        refine dq (v := .pointer (some ⟨b2147, 2, none⟩)) rfl (fun _ _ => Q_fld Tryd.underlying25 rfl ty23 (by decide) rfl rfl) rfl rfl <| dq rfl (fun _ _ => Q_move rfl) rfl rfl <| dq rfl (fun _ _ => Q_move rfl) rfl rfl ?_
        obtain ⟨x3912, hx3912, ho3911⟩ := bnd ho3911
        obtain ⟨b3913, o3914, hi3918, hc3916, ha3917⟩ := arr_at (hs := [Arr (.slice (some ⟨b1999, 0, none⟩) (x2.length : Int).toNat (x2.length : Int).toNat) 1 c2072]) (k := 0) (by decide) (H.okS (by simp)) rfl r2074 hx3912
        refine dq rfl (fun _ _ => Q_idx hi3918 Tryd.underlying23 ty3 rfl rfl) rfl rfl <| dq (v := .int .i64 x3912) rfl (fun _ hw => Q_ld (show cellsAt _ _ _ [.int .i64 x3912] from (show _ = [_] from hc3916) ▸ (ha3917 _ (Ok.subS (by simp) hw))) ty3 rfl (fun _ => rfl) rfl rfl) rfl rfl ?_
        refine d2 ?_ ?_
        ·refine de rfl (Eff.quiet (v := v3798) (Q_ldB (k := 2) (cs := [v3798]) H.ok rfl ty23 rfl rfl rfl (fun _ => rfl) rfl)) rfl rfl ?_
         rintro _ _ ⟨rfl, rfl⟩
         refine ⟨H.okS (by simp), ?_⟩
         refine d1 (de rfl (E_bslice (xs := [.tmp 89]) (vs := [.int .i64 x3912]) H Tryd.underlying23 ty3 (by decide) (cs := [.int .i64 x3912]) rfl (sz_cons rfl sz_nil) rfl (by simp) (by simp) rfl rfl) rfl rfl ?_)
         rintro _ wd3920 ⟨b3919, rfl, H⟩
         refine ⟨H.okS (by simp), ?_⟩
         obtain ⟨x3921, hx3921, ho3911⟩ := bnd ho3911
         obtain ⟨ha3922a, ha3922b⟩ := app_some hx3921
         have r3924 : rdL (eI .i64) ρ x3921 (c3799 ++ ([.int .i64 x3912])) := ha3922b ▸ rdL.app r3801 (show rdL (eI .i64) ρ ([x3912]) ([.int .i64 x3912]) from ⟨([.int .i64 x3912]), _, rfl, rfl, rdL.nil⟩)
         refine d1 (de rfl (E_append (k := 6) H rfl Tryd.underlying23 ty3 rfl (by decide) (by decide) rfl rfl (Src.ofArr (k := 0) H.ok rfl) (rdL.one (show rdL (eI .i64) ρ ([x3912]) ([.int .i64 x3912]) from ⟨([.int .i64 x3912]), _, rfl, rfl, rdL.nil⟩)) (app_fit r3801 (show rdL (eI .i64) ρ ([x3912]) ([.int .i64 x3912]) from ⟨([.int .i64 x3912]), _, rfl, rfl, rdL.nil⟩) ha3922a)) rfl rfl ?_)
         rintro v3923 wd3926 ⟨H, hc3925⟩
         dsimp only [List.set] at H
         refine ⟨H.okS (by simp), ?_⟩
         refine dq (v := .pointer (some ⟨b2147, 2, none⟩)) rfl (fun _ _ => Q_fld Tryd.underlying25 rfl ty23 (by decide) rfl rfl) rfl rfl ?_
         refine d1 (de rfl (E_stB (k := 3) (cs := [v3923]) (vs' := [v2828, v2832, v3923]) H rfl ty23 rfl rfl (arr_cells (H.ok.get (k := 6) rfl)).1 rfl (one_cons (arr_cells (H.ok.get (k := 6) rfl)).2 one_nil) (by simp) rfl) rfl rfl ?_)
         rintro _ wd3927 H
         dsimp only [List.set] at H
         refine ⟨H.okS (by simp), ?_⟩
         refine DL_nil ?_
         replace H := H.f6
         replace H := H.f6
         replace H := H.f6
         replace H := H.f6
         replace H := H.f6
         replace H := H.f6
         replace H := H.drop 6 rfl
         dsimp only [List.eraseIdx] at H
         obtain rfl := Option.some.inj ho3911
         refine x_A fun a hf => ⟨v3923, (c3799 ++ ([.int .i64 x3912])), x3921, rfl, r3924, hf.sub ⟨rfl, rfl, rfl, rfl, rfl, rfl, trivial⟩, H⟩
        ·refine de rfl (E_bslice (xs := [.tmp 89]) (vs := [.int .i64 x3912]) H Tryd.underlying23 ty3 (by decide) (cs := [.int .i64 x3912]) rfl (sz_cons rfl sz_nil) rfl (by simp) (by simp) rfl rfl) rfl rfl ?_
         rintro _ wd3929 ⟨b3928, rfl, H⟩
         refine ⟨H.okS (by simp), ?_⟩
         refine d1 (de rfl (Eff.quiet (v := v3798) (Q_ldB (k := 3) (cs := [v3798]) H.ok rfl ty23 rfl rfl rfl (fun _ => rfl) rfl)) rfl rfl ?_)
         rintro _ _ ⟨rfl, rfl⟩
         refine ⟨H.okS (by simp), ?_⟩
         obtain ⟨x3930, hx3930, ho3911⟩ := bnd ho3911
         obtain ⟨ha3931a, ha3931b⟩ := app_some hx3930
         have r3933 : rdL (eI .i64) ρ x3930 (c3799 ++ ([.int .i64 x3912])) := ha3931b ▸ rdL.app r3801 (show rdL (eI .i64) ρ ([x3912]) ([.int .i64 x3912]) from ⟨([.int .i64 x3912]), _, rfl, rfl, rdL.nil⟩)
         refine d1 (de rfl (E_append (k := 6) H rfl Tryd.underlying23 ty3 rfl (by decide) (by decide) rfl rfl (Src.ofArr (k := 0) H.ok rfl) (rdL.one (show rdL (eI .i64) ρ ([x3912]) ([.int .i64 x3912]) from ⟨([.int .i64 x3912]), _, rfl, rfl, rdL.nil⟩)) (app_fit r3801 (show rdL (eI .i64) ρ ([x3912]) ([.int .i64 x3912]) from ⟨([.int .i64 x3912]), _, rfl, rfl, rdL.nil⟩) ha3931a)) rfl rfl ?_)
         rintro v3932 wd3935 ⟨H, hc3934⟩
         dsimp only [List.set] at H
         refine ⟨H.okS (by simp), ?_⟩
         refine dq (v := .pointer (some ⟨b2147, 2, none⟩)) rfl (fun _ _ => Q_fld Tryd.underlying25 rfl ty23 (by decide) rfl rfl) rfl rfl ?_
         refine d1 (de rfl (E_stB (k := 3) (cs := [v3932]) (vs' := [v2828, v2832, v3932]) H rfl ty23 rfl rfl (arr_cells (H.ok.get (k := 6) rfl)).1 rfl (one_cons (arr_cells (H.ok.get (k := 6) rfl)).2 one_nil) (by simp) rfl) rfl rfl ?_)
         rintro _ wd3936 H
         dsimp only [List.set] at H
         refine ⟨H.okS (by simp), ?_⟩
         refine DL_nil ?_
         replace H := H.f6
         replace H := H.f6
         replace H := H.f6
         replace H := H.f6
         replace H := H.f6
         replace H := H.f6
         replace H := H.drop 6 rfl
         dsimp only [List.eraseIdx] at H
         obtain rfl := Option.some.inj ho3911
         refine x_A fun a hf => ⟨v3932, (c3799 ++ ([.int .i64 x3912])), x3930, rfl, r3933, hf.sub ⟨rfl, rfl, rfl, rfl, rfl, rfl, trivial⟩, H⟩
       ·rintro a wd3937 ⟨v3907, c3908, x3909, rfl, r3910, hf, H⟩
        try dsimp only at hB3872
        refine XX.at hf <| x_block <| x_then <| R_nd <| nq (Q_add rfl rfl) rfl rfl <| nq (Q_move rfl) rfl rfl <| WL_nil ?_
        replace H := H.f5
        replace H := H.f5
        replace H := H.f5
        replace H := H.f5
        replace H := H.f5
        replace H := H.f5
        obtain rfl := Option.some.inj hB3872
        refine x_A fun a hf => ⟨_, rfl, v3907, c3908, x3909, w64 (x3802 + 1), rfl, r3910, hf.sub ⟨rfl, rfl, rfl, rfl, rfl, rfl, trivial⟩, H⟩
      ·replace hB3872 := itF hb hB3872
       refine C_exit <| x_then_exit <| x_then_exit <| x_block_exit ?_
       replace H := H.f5
       replace H := H.f5
       replace H := H.f5
       replace H := H.f5
       replace H := H.f4
       replace H := H.drop 5 rfl
       dsimp only [List.eraseIdx] at H
       obtain rfl := Option.some.inj hB3872
       obtain rfl := hO3873 _ rfl
       refine x_A fun a hf => ⟨v3798, c3799, x3800, rfl, r3801, hf.sub ⟨rfl, rfl, trivial⟩, H⟩
    ·rintro a wd3938 ⟨v3725, c3726, x3727, rfl, r3728, hf, H⟩
     try dsimp only at hF
     refine XX.at hf <| x_then <| C_seq <| R_nd <| nq (v := .agg #[v2828, v2832, v3725]) (Q_ldB (k := 1) (cs := [v2828, v2832, v3725]) H.ok rfl ty25 rfl rfl rfl (fun h => nomatch h) rfl) rfl rfl <| ne (E_stB (k := 0) (cs := [v2828, v2832, v3725]) (vs' := [v2828, v2832, v3725]) H rfl ty25 rfl rfl rfl rfl (one_cons (arr_cells (H.ok.get (k := 2) rfl)).2 (one_cons (arr_cells (H.ok.get (k := 3) rfl)).2 (one_cons (arr_cells (H.ok.get (k := 4) rfl)).2 one_nil))) (by simp) rfl) rfl rfl ?_
     rintro _ wd3939 H
     dsimp only [List.set] at H
     refine WL_nil <| x_then <| C_ret ?_
     have hRV : RV Tryd.prog wd3939 [(2, .pointer (some ⟨b1984, 0, none⟩))] [.cell 2 25] [.agg #[v2828, v2832, v3725]] := ⟨⟨_, rfl, run_ldv ty25 rfl (fun h => nomatch h) (box_at (H.ok.get (k := 0) rfl) 0 3)⟩, trivial⟩
     replace H := H.f4
     replace H := H.f4
     replace H := H.f4
     replace H := H.drop 3 rfl
     dsimp only [List.eraseIdx] at H
     replace H := H.drop 3 rfl
     dsimp only [List.eraseIdx] at H
     obtain rfl := Option.some.inj hF
     exact fn_retV (rs := [.cell 2 25]) (vs := [.agg #[v2828, v2832, v3725]]) rfl hRV ⟨v2828, c2829, v2832, c2833, v3725, c3726, x2830, x2834, x3727, rfl, rfl, r2831, r2835, r3728, H⟩
theorem c_69 {N : Nat} {C : Cx} {w : World} {ρ : View} {hs : List Hl} {v1 : Value} {v4 : Value} {x2 : (List (List Int))} {x5 : (List (List Int))} (H : Hp C w ρ (hs)) (r3 : RdSl ρ (eA 256 (eI .i64)) v1 x2) (r6 : RdSl ρ (eA 256 (eI .i64)) v4 x5) {r : Bool} (hF : F_slices_Equal_subset_Row_subset_Row N x2 x5 = some r) :
  Calls Tryd.prog 69 [v1, v4].toArray w (Rets (fun v w' => (∃ (x107 : Bool), x107 = r ∧ .bool x107 = v ∧ Hp C w' ρ (hs)))) := by
 unfold F_slices_Equal_subset_Row_subset_Row at hF
 have h0 : Tryd.f69.body = some _ := rfl
 refine fn_calls' Tryd.func69 h0 (n := 26) rfl (by simp) <| C_seq <| R_nd <| nq (Q_assign rfl) rfl rfl <| WL_nil <| x_then <| C_seq <| C_seq <| R_nd <| nq (Q_move rfl) rfl rfl <| nq (Q_len Tryd.underlying22 rfl r3) rfl rfl <| nq (Q_move rfl) rfl rfl <| nq (Q_len Tryd.underlying22 rfl r6) rfl rfl <| nq (Q_neq rfl rfl) rfl rfl ?_
 refine WL_nil <| x_then ?_
 refine C_cond rfl (fun hb => ?_) (fun hb => ?_)
 ·replace hF := itT hb hF
  refine C_seq <| R_nd <| nq (Q_assign rfl) rfl rfl <| WL_nil <| x_then <| C_ret <| x_then_ret ?_
  obtain rfl := Option.some.inj hF
  exact fn_ret (l := [.tmp 4]) (vs := [.bool false]) rfl rfl rfl ⟨false, rfl, rfl, H⟩
 ·replace hF := itF hb hF
  refine C_skip <| x_then <| C_seq <| C_seq <| R_nd <| nq (Q_move rfl) rfl rfl <| nq (Q_len Tryd.underlying22 rfl r3) rfl rfl <| nq (Q_move rfl) rfl rfl <| WL_nil <| x_then ?_
  obtain ⟨o157, ho157, hF⟩ := bnd hF
  refine C_cutQ (fun a w' => .inl () = o157 ∧ Fr 26 a [] ∧ Hp C w' ρ (hs)) ?_ ?_
  ·refine C_block ?_
   refine C_iter (f := fun s => F_slices_Equal_subset_Row_subset_Row_l0 N x2 x5 s) ho157 (fun s a w' => ∃ (x173 : Int), x173 = s ∧ Fr 26 a [(0, v1), (1, v4), (12, .int .i64 (x2.length : Int)), (13, .int .i64 x173)] ∧ Hp C w' ρ (hs)) ?_ ?_
   ·exact fun a hf => ⟨0, rfl, hf.sub ⟨rfl, rfl, rfl, rfl, trivial⟩, H⟩
   ·rintro s o189 a wd192 ⟨x173, rfl, hf, H⟩ hB190 hO191
    replace hB190 : F_slices_Equal_subset_Row_subset_Row_l0 N x2 x5 x173 = some o189 := hB190
    unfold F_slices_Equal_subset_Row_subset_Row_l0 at hB190
    refine CW.at hf <| C_seq <| R_nd <| nq (Q_lss rfl rfl) rfl rfl <| WL_nil <| x_then <| C_seq ?_
    refine C_cond rfl (fun hb => ?_) (fun hb => ?_)
    ·replace hB190 := itT hb hB190
     refine C_skip <| x_then <| C_seq <| C_block <| C_seq <| R_nd <| nq (Q_move rfl) rfl rfl <| nq (Q_assign rfl) rfl rfl <| WL_nil <| x_then <| C_seq <| R_dr (.take 0 (.take 1 (.take 2 (.take 3 (.take 4 (.take 5 (.take 6 (.take 7 (.take 8 .done))))))))) (fun w' => Ok w' ρ []) (by kernel_rfl) (by kernel_rfl) (by kernel_rfl) (H.drew.okS (by simp)) ?_
     replace H := H.drew
     refine dq rfl (fun _ _ => Q_move rfl) rfl rfl <| dq rfl (fun _ _ => Q_move rfl) rfl rfl ?_
     obtain ⟨x193, hx193, hB190⟩ := bnd hB190
     obtain ⟨b194, o195, c196, hc197, ha198, hi199⟩ := idxR r3 hx193
     refine dq rfl (fun _ _ => Q_idx hi199 Tryd.underlying22 ty58 rfl rfl) rfl rfl <| dq (v := .agg c196.toArray) rfl (fun _ hw => Q_ld (ha198.up hw.view) ty58 ((eA 256 (eI .i64)).len hc197) (fun h => nomatch h) rfl rfl) rfl rfl <| dq rfl (fun _ _ => Q_move rfl) rfl rfl <| dq rfl (fun _ _ => Q_move rfl) rfl rfl ?_
     obtain ⟨x200, hx200, hB190⟩ := bnd hB190
     obtain ⟨b201, o202, c203, hc204, ha205, hi206⟩ := idxR r6 hx200
     refine dq rfl (fun _ _ => Q_idx hi206 Tryd.underlying22 ty58 rfl rfl) rfl rfl <| dq (v := .agg c203.toArray) rfl (fun _ hw => Q_ld (ha205.up hw.view) ty58 ((eA 256 (eI .i64)).len hc204) (fun h => nomatch h) rfl rfl) rfl rfl <| dq (v := .bool (x193 != x200)) rfl (fun _ _ => Q_neqA Tryd.underlying58 ty3 (by kernel_rfl) Tryd.underlying3 hc197.2 hc197.1 hc204.2 hc204.1 rfl rfl) rfl rfl <| DL_nil <| x_then ?_
     refine C_cond rfl (fun hb => ?_) (fun hb => ?_)
     ·replace hB190 := itT hb hB190
      refine C_seq <| R_nd <| nq (Q_assign rfl) rfl rfl <| WL_nil <| x_then <| C_ret <| x_block_ret <| x_then_ret <| x_then_ret <| x_block_ret <| x_then_ret <| x_then_ret ?_
      obtain rfl := Option.some.inj hB190
      obtain rfl := hO191 _ rfl
      obtain rfl := Option.some.inj (show some _ = some _ from hF)
      exact fn_ret (l := [.tmp 4]) (vs := [.bool false]) rfl rfl rfl ⟨false, rfl, rfl, H⟩
     ·replace hB190 := itF hb hB190
      refine C_skip <| x_block <| x_then <| R_nd <| nq (Q_add rfl rfl) rfl rfl <| nq (Q_move rfl) rfl rfl <| WL_nil ?_
      obtain rfl := Option.some.inj hB190
      refine x_A fun a hf => ⟨_, rfl, w64 (x173 + 1), rfl, hf.sub ⟨rfl, rfl, rfl, rfl, trivial⟩, H⟩
    ·replace hB190 := itF hb hB190
     refine C_exit <| x_then_exit <| x_then_exit <| x_block_exit ?_
     obtain rfl := Option.some.inj hB190
     obtain rfl := hO191 _ rfl
     refine x_A fun a hf => ⟨rfl, hf.sub trivial, H⟩
  ·rintro a wd207 ⟨rfl, hf, H⟩
   try dsimp only at hF
   refine XX.at hf <| x_then <| C_seq <| R_nd <| nq (Q_assign rfl) rfl rfl <| WL_nil <| x_then <| C_ret ?_
   obtain rfl := Option.some.inj hF
   exact fn_ret (l := [.tmp 4]) (vs := [.bool true]) rfl rfl rfl ⟨true, rfl, rfl, H⟩
theorem c_70 {N : Nat} {C : Cx} {w : World} {ρ : View} {hs : List Hl} {v1 : Value} {v4 : Value} {x2 : (List Int)} {x5 : (List Int)} (H : Hp C w ρ (hs)) (r3 : RdSl ρ (eI .i64) v1 x2) (r6 : RdSl ρ (eI .i64) v4 x5) {r : Bool} (hF : F_slices_Equal_int_int N x2 x5 = some r) :
  Calls Tryd.prog 70 [v1, v4].toArray w (Rets (fun v w' => (∃ (x107 : Bool), x107 = r ∧ .bool x107 = v ∧ Hp C w' ρ (hs)))) := by
 unfold F_slices_Equal_int_int at hF
 have h0 : Tryd.f70.body = some _ := rfl
 refine fn_calls' Tryd.func70 h0 (n := 26) rfl (by simp) <| C_seq <| R_nd <| nq (Q_assign rfl) rfl rfl <| WL_nil <| x_then <| C_seq <| C_seq <| R_nd <| nq (Q_move rfl) rfl rfl <| nq (Q_len Tryd.underlying23 rfl r3) rfl rfl <| nq (Q_move rfl) rfl rfl <| nq (Q_len Tryd.underlying23 rfl r6) rfl rfl <| nq (Q_neq rfl rfl) rfl rfl ?_
 refine WL_nil <| x_then ?_
 refine C_cond rfl (fun hb => ?_) (fun hb => ?_)
 ·replace hF := itT hb hF
  refine C_seq <| R_nd <| nq (Q_assign rfl) rfl rfl <| WL_nil <| x_then <| C_ret <| x_then_ret ?_
  obtain rfl := Option.some.inj hF
  exact fn_ret (l := [.tmp 4]) (vs := [.bool false]) rfl rfl rfl ⟨false, rfl, rfl, H⟩
 ·replace hF := itF hb hF
  refine C_skip <| x_then <| C_seq <| C_seq <| R_nd <| nq (Q_move rfl) rfl rfl <| nq (Q_len Tryd.underlying23 rfl r3) rfl rfl <| nq (Q_move rfl) rfl rfl <| WL_nil <| x_then ?_
  obtain ⟨o157, ho157, hF⟩ := bnd hF
  refine C_cutQ (fun a w' => .inl () = o157 ∧ Fr 26 a [] ∧ Hp C w' ρ (hs)) ?_ ?_
  ·refine C_block ?_
   refine C_iter (f := fun s => F_slices_Equal_int_int_l0 N x2 x5 s) ho157 (fun s a w' => ∃ (x173 : Int), x173 = s ∧ Fr 26 a [(0, v1), (1, v4), (12, .int .i64 (x2.length : Int)), (13, .int .i64 x173)] ∧ Hp C w' ρ (hs)) ?_ ?_
   ·exact fun a hf => ⟨0, rfl, hf.sub ⟨rfl, rfl, rfl, rfl, trivial⟩, H⟩
   ·rintro s o189 a wd192 ⟨x173, rfl, hf, H⟩ hB190 hO191
    replace hB190 : F_slices_Equal_int_int_l0 N x2 x5 x173 = some o189 := hB190
    unfold F_slices_Equal_int_int_l0 at hB190
    refine CW.at hf <| C_seq <| R_nd <| nq (Q_lss rfl rfl) rfl rfl <| WL_nil <| x_then <| C_seq ?_
    refine C_cond rfl (fun hb => ?_) (fun hb => ?_)
    ·replace hB190 := itT hb hB190
     refine C_skip <| x_then <| C_seq <| C_block <| C_seq <| R_nd <| nq (Q_move rfl) rfl rfl <| nq (Q_assign rfl) rfl rfl <| WL_nil <| x_then <| C_seq <| R_dr (.take 0 (.take 1 (.take 2 (.take 3 (.take 4 (.take 5 (.take 6 (.take 7 (.take 8 .done))))))))) (fun w' => Ok w' ρ []) (by kernel_rfl) (by kernel_rfl) (by kernel_rfl) (H.drew.okS (by simp)) ?_
     replace H := H.drew
     refine dq rfl (fun _ _ => Q_move rfl) rfl rfl <| dq rfl (fun _ _ => Q_move rfl) rfl rfl ?_
     obtain ⟨x193, hx193, hB190⟩ := bnd hB190
     obtain ⟨b194, o195, c196, hc197, ha198, hi199⟩ := idxR r3 hx193
     refine dq rfl (fun _ _ => Q_idx hi199 Tryd.underlying23 ty3 rfl rfl) rfl rfl <| dq (v := .int .i64 x193) rfl (fun _ hw => Q_ld (show cellsAt _ _ _ [.int .i64 x193] from (show _ = [_] from hc197) ▸ (ha198.up hw.view)) ty3 rfl (fun _ => rfl) rfl rfl) rfl rfl <| dq rfl (fun _ _ => Q_move rfl) rfl rfl <| dq rfl (fun _ _ => Q_move rfl) rfl rfl ?_
     obtain ⟨x200, hx200, hB190⟩ := bnd hB190
     obtain ⟨b201, o202, c203, hc204, ha205, hi206⟩ := idxR r6 hx200
     refine dq rfl (fun _ _ => Q_idx hi206 Tryd.underlying23 ty3 rfl rfl) rfl rfl <| dq (v := .int .i64 x200) rfl (fun _ hw => Q_ld (show cellsAt _ _ _ [.int .i64 x200] from (show _ = [_] from hc204) ▸ (ha205.up hw.view)) ty3 rfl (fun _ => rfl) rfl rfl) rfl rfl <| dq rfl (fun _ _ => Q_neq rfl rfl) rfl rfl <| DL_nil <| x_then ?_
     refine C_cond rfl (fun hb => ?_) (fun hb => ?_)
     ·replace hB190 := itT hb hB190
      refine C_seq <| R_nd <| nq (Q_assign rfl) rfl rfl <| WL_nil <| x_then <| C_ret <| x_block_ret <| x_then_ret <| x_then_ret <| x_block_ret <| x_then_ret <| x_then_ret ?_
      obtain rfl := Option.some.inj hB190
      obtain rfl := hO191 _ rfl
      obtain rfl := Option.some.inj (show some _ = some _ from hF)
      exact fn_ret (l := [.tmp 4]) (vs := [.bool false]) rfl rfl rfl ⟨false, rfl, rfl, H⟩
     ·replace hB190 := itF hb hB190
      refine C_skip <| x_block <| x_then <| R_nd <| nq (Q_add rfl rfl) rfl rfl <| nq (Q_move rfl) rfl rfl <| WL_nil ?_
      obtain rfl := Option.some.inj hB190
      refine x_A fun a hf => ⟨_, rfl, w64 (x173 + 1), rfl, hf.sub ⟨rfl, rfl, rfl, rfl, trivial⟩, H⟩
    ·replace hB190 := itF hb hB190
     refine C_exit <| x_then_exit <| x_then_exit <| x_block_exit ?_
     obtain rfl := Option.some.inj hB190
     obtain rfl := hO191 _ rfl
     refine x_A fun a hf => ⟨rfl, hf.sub trivial, H⟩
  ·rintro a wd207 ⟨rfl, hf, H⟩
   try dsimp only at hF
   refine XX.at hf <| x_then <| C_seq <| R_nd <| nq (Q_assign rfl) rfl rfl <| WL_nil <| x_then <| C_ret ?_
   obtain rfl := Option.some.inj hF
   exact fn_ret (l := [.tmp 4]) (vs := [.bool true]) rfl rfl rfl ⟨true, rfl, rfl, H⟩
theorem c_41 {N : Nat} {C : Cx} {w : World} {ρ : View} {hs : List Hl} {v1 : Value} {v4 : Value} {v7 : Value} {v10 : Value} {v13 : Value} {v16 : Value} {x2 : (List (List Int))} {x5 : (List Int)} {x8 : (List Int)} {x11 : (List (List Int))} {x14 : (List Int)} {x17 : (List Int)} (H : Hp C w ρ (hs)) (r3 : RdSl ρ (eA 256 (eI .i64)) v1 x2) (r6 : RdSl ρ (eI .i64) v4 x5) (r9 : RdSl ρ (eI .i64) v7 x8) (r12 : RdSl ρ (eA 256 (eI .i64)) v10 x11) (r15 : RdSl ρ (eI .i64) v13 x14) (r18 : RdSl ρ (eI .i64) v16 x17) {r : Bool} (hF : F_subset_Same N x2 x5 x8 x11 x14 x17 = some r) :
  Calls Tryd.prog 41 [.agg #[v1, v4, v7], .agg #[v10, v13, v16]].toArray w (Rets (fun v w' => (∃ (x50 : Bool), x50 = r ∧ .bool x50 = v ∧ Hp C w' ρ (hs)))) := by
 unfold F_subset_Same at hF
 have h0 : Tryd.f41.body = some _ := rfl
 refine fn_calls' Tryd.func41 h0 (n := 24) rfl (by simp) <| C_seq <| R_nd <| ne (E_box H (vs := [v1, v4, v7]) rfl rfl) rfl rfl ?_
 rintro _ wd52 ⟨b51, rfl, H⟩
 refine ne (E_box H (vs := [v10, v13, v16]) rfl rfl) rfl rfl ?_
 rintro _ wd54 ⟨b53, rfl, H⟩
 refine nq (Q_assign rfl) rfl rfl <| WL_nil <| x_then ?_
 obtain ⟨o68, ho68, hF⟩ := bnd hF
 refine C_cut (fun a w' => ∃ (x67 : Bool), x67 = o68 ∧ Fr 24 a [(4, .bool x67)] ∧ Hp C w' ρ (hs)) ?_ ?_
 ·refine R_nd <| nq (v := .pointer (some ⟨b51, 0, none⟩)) (Q_fld Tryd.underlying25 rfl ty22 (by decide) rfl rfl) rfl rfl <| nq (v := v1) (Q_ldB (k := 1) (cs := [v1]) H.ok rfl ty22 rfl rfl rfl (fun _ => rfl) rfl) rfl rfl <| nq (v := .pointer (some ⟨b53, 0, none⟩)) (Q_fld Tryd.underlying25 rfl ty22 (by decide) rfl rfl) rfl rfl <| nq (v := v10) (Q_ldB (k := 0) (cs := [v10]) H.ok rfl ty22 rfl rfl rfl (fun _ => rfl) rfl) rfl rfl ?_
  obtain ⟨q69, hq69, ho68⟩ := bnd ho68
  refine ne (E_call fn69 rfl (c_69 H  r3 r12 hq69)) rfl rfl ?_
  rintro _ wd72 ⟨x71, rfl, rfl, H⟩
  try dsimp only at ho68
  refine nq (Q_move rfl) rfl rfl ?_
  rcases Bool.eq_false_or_eq_true x71 with hb | hb
  ·rw [hb]
   replace ho68 := itT hb ho68
   refine gq (v := .pointer (some ⟨b51, 1, none⟩)) (Q_fld Tryd.underlying25 rfl ty23 (by decide) rfl rfl) rfl rfl rfl <| gq (v := v4) (Q_ldB (k := 1) (cs := [v4]) H.ok rfl ty23 rfl rfl rfl (fun _ => rfl) rfl) rfl rfl rfl <| gq (v := .pointer (some ⟨b53, 1, none⟩)) (Q_fld Tryd.underlying25 rfl ty23 (by decide) rfl rfl) rfl rfl rfl <| gq (v := v13) (Q_ldB (k := 0) (cs := [v13]) H.ok rfl ty23 rfl rfl rfl (fun _ => rfl) rfl) rfl rfl rfl ?_
   obtain ⟨q73, hq73, ho68⟩ := bnd ho68
   refine ge (E_call fn70 rfl (c_70 H  r6 r15 hq73)) rfl rfl rfl ?_
   rintro _ wd76 ⟨x75, rfl, rfl, H⟩
   try dsimp only at ho68
   refine nq (Q_pickT rfl rfl) rfl rfl <| nq (Q_move rfl) rfl rfl ?_
   rcases Bool.eq_false_or_eq_true x75 with hb | hb
   ·rw [hb]
    replace ho68 := itT hb ho68
    refine gq (v := .pointer (some ⟨b51, 2, none⟩)) (Q_fld Tryd.underlying25 rfl ty23 (by decide) rfl rfl) rfl rfl rfl <| gq (v := v7) (Q_ldB (k := 1) (cs := [v7]) H.ok rfl ty23 rfl rfl rfl (fun _ => rfl) rfl) rfl rfl rfl <| gq (v := .pointer (some ⟨b53, 2, none⟩)) (Q_fld Tryd.underlying25 rfl ty23 (by decide) rfl rfl) rfl rfl rfl <| gq (v := v16) (Q_ldB (k := 0) (cs := [v16]) H.ok rfl ty23 rfl rfl rfl (fun _ => rfl) rfl) rfl rfl rfl ?_
    obtain ⟨q77, hq77, ho68⟩ := bnd ho68
    refine ge (E_call fn70 rfl (c_70 H  r9 r18 hq77)) rfl rfl rfl ?_
    rintro _ wd80 ⟨x79, rfl, rfl, H⟩
    try dsimp only at ho68
    refine nq (Q_pickT rfl rfl) rfl rfl <| nq (Q_assign rfl) rfl rfl <| WL_nil ?_
    replace H := H.drop 0 rfl
    dsimp only [List.eraseIdx] at H
    replace H := H.drop 0 rfl
    dsimp only [List.eraseIdx] at H
    obtain rfl := Option.some.inj ho68
    refine x_A fun a hf => ⟨x79, rfl, hf.sub ⟨rfl, trivial⟩, H⟩
   ·rw [hb]
    replace ho68 := itF hb ho68
    refine gs rfl rfl rfl rfl <| gs rfl rfl rfl rfl <| gs rfl rfl rfl rfl <| gs rfl rfl rfl rfl <| gs rfl rfl rfl rfl <| nq (Q_pickF rfl rfl) rfl rfl <| nq (Q_assign rfl) rfl rfl <| WL_nil ?_
    replace H := H.drop 0 rfl
    dsimp only [List.eraseIdx] at H
    replace H := H.drop 0 rfl
    dsimp only [List.eraseIdx] at H
    obtain rfl := Option.some.inj ho68
    refine x_A fun a hf => ⟨false, rfl, hf.sub ⟨rfl, trivial⟩, H⟩
  ·rw [hb]
   replace ho68 := itF hb ho68
   refine gs rfl rfl rfl rfl <| gs rfl rfl rfl rfl <| gs rfl rfl rfl rfl <| gs rfl rfl rfl rfl <| gs rfl rfl rfl rfl <| nq (Q_pickF rfl rfl) rfl rfl <| nq (Q_move rfl) rfl rfl <| gs rfl rfl rfl rfl <| gs rfl rfl rfl rfl <| gs rfl rfl rfl rfl <| gs rfl rfl rfl rfl <| gs rfl rfl rfl rfl <| nq (Q_pickF rfl rfl) rfl rfl <| nq (Q_assign rfl) rfl rfl ?_
   refine WL_nil ?_
   replace H := H.drop 0 rfl
   dsimp only [List.eraseIdx] at H
   replace H := H.drop 0 rfl
   dsimp only [List.eraseIdx] at H
   obtain rfl := Option.some.inj ho68
   refine x_A fun a hf => ⟨false, rfl, hf.sub ⟨rfl, trivial⟩, H⟩
 ·rintro a wd81 ⟨x67, rfl, hf, H⟩
  try dsimp only at hF
  refine CW.at hf <| C_ret ?_
  obtain rfl := Option.some.inj hF
  exact fn_ret (l := [.tmp 4]) (vs := [.bool x67]) rfl rfl rfl ⟨x67, rfl, rfl, H⟩
theorem c_90 {N : Nat} {C : Cx} {w : World} {ρ : View} {hs : List Hl} {b1 : Nat} {v2 : Value} {v5 : Value} {v8 : Value} {v11 : Value} {c12 : List Value} {c15 : List Value} {v18 : Value} {v19 : Value} {c20 : List Value} {c22 : List Value} {v25 : Value} {x3 : (List (List Int))} {x6 : (List Int)} {x9 : (List Int)} {x13 : (List (List (List Int)))} {x16 : (List Int)} {x21 : (List (List Int))} {x23 : (List (Int × Int))} {x26 : Int} (H : Hp C w ρ (Box b1 [v2, v5, v8, v11, v18, v19, v25] :: NA (eI .i64) 256 v11 c12 x13.flatten :: Arr v18 1 c15 :: NA (eI .i64) 1 v19 c20 x21 :: Arr v25 2 c22 :: hs)) (_r4 : RdSl ρ (eA 256 (eI .i64)) v2 x3) (_r7 : RdSl ρ (eI .i64) v5 x6) (_r10 : RdSl ρ (eI .i64) v8 x9) (_gl14 : ∀ a ∈ x13, a.length = 256) (_r17 : rdL (eI .i64) ρ x16 c15) (r24 : rdL (eP (eI .i64) (eI .u8)) ρ x23 c22) {r : (List (Int × Int))} (hF : F_hopcroft_splitter_later N x3 x6 x9 x13 x16 x21 x23 x26 = some r) :
  Calls Tryd.prog 90 [.pointer (some ⟨b1, 0, none⟩), .int .i64 x26].toArray w (Rets (fun v w' => (∃ (v125 : Value) (c126 : (List Value)) (x127 : (List (Int × Int))), x127 = r ∧ .tuple [].toArray = v ∧ rdL (eP (eI .i64) (eI .u8)) ρ x127 c126 ∧ Hp C w' ρ (Box b1 [v2, v5, v8, v11, v18, v19, v125] :: NA (eI .i64) 256 v11 c12 x13.flatten :: Arr v18 1 c15 :: NA (eI .i64) 1 v19 c20 x21 :: Arr v125 2 c126 :: hs)))) := by
 unfold F_hopcroft_splitter_later at hF
 have h0 : Tryd.f90.body = some _ := rfl
 refine fn_calls' Tryd.func90 h0 (n := 22) rfl (by simp) <| C_seq <| R_nd <| nq (Q_move rfl) rfl rfl <| WL_nil <| x_then ?_
 obtain ⟨o179, ho179, hF⟩ := bnd hF
 refine C_cutQ (fun a w' => ∃ (v175 : Value) (c176 : (List Value)) (x177 : (List (Int × Int))), x177 = o179 ∧ rdL (eP (eI .i64) (eI .u8)) ρ x177 c176 ∧ Fr 22 a [] ∧ Hp C w' ρ (Box b1 [v2, v5, v8, v11, v18, v19, v175] :: NA (eI .i64) 256 v11 c12 x13.flatten :: Arr v18 1 c15 :: NA (eI .i64) 1 v19 c20 x21 :: Arr v175 2 c176 :: hs)) ?_ ?_
 ·refine C_block ?_
  replace H := H.f4
  replace H := H.f4
  replace H := H.f4
  replace H := H.f4
  replace H := H.f4
  refine C_iter (f := fun s => F_hopcroft_splitter_later_l0 N x26 s.1 s.2) ho179 (fun s a w' => ∃ (v194 : Value) (c195 : (List Value)) (x196 : (List (Int × Int))) (x198 : Int), (x196, x198) = s ∧ rdL (eP (eI .i64) (eI .u8)) ρ x196 c195 ∧ Fr 22 a [(0, .pointer (some ⟨b1, 0, none⟩)), (1, .int .i64 x26), (5, .int .i64 x198)] ∧ Hp C w' ρ (Box b1 [v2, v5, v8, v11, v18, v19, v194] :: NA (eI .i64) 256 v11 c12 x13.flatten :: Arr v18 1 c15 :: NA (eI .i64) 1 v19 c20 x21 :: Arr v194 2 c195 :: hs)) ?_ ?_
  ·exact fun a hf => ⟨v25, c22, x23, 0, rfl, r24, hf.sub ⟨rfl, rfl, rfl, trivial⟩, H⟩
  ·rintro s o213 a wd216 ⟨v194, c195, x196, x198, rfl, r197, hf, H⟩ hB214 hO215
   replace hB214 : F_hopcroft_splitter_later_l0 N x26 x196 x198 = some o213 := hB214
   unfold F_hopcroft_splitter_later_l0 at hB214
   refine CW.at hf <| C_seq <| R_nd <| nq (Q_lss rfl rfl) rfl rfl <| WL_nil <| x_then <| C_seq ?_
   refine C_cond rfl (fun hb => ?_) (fun hb => ?_)
   ·replace hB214 := itT hb hB214
    refine C_skip <| x_then <| C_seq <| C_block <| C_seq <| R_nd <| nq (Q_move rfl) rfl rfl <| nq (Q_assign rfl) rfl rfl <| WL_nil <| x_then <| R_nd <| nq (Q_move rfl) rfl rfl <| nq (Q_move rfl) rfl rfl <| nq (Q_nilP rfl) rfl rfl ?_
    refine nq (v := .pointer (some ⟨b1, 6, none⟩)) (Q_fld Tryd.underlying107 rfl ty105 (by decide) rfl rfl) rfl rfl <| nq (v := v194) (Q_ldB (k := 0) (cs := [v194]) H.ok rfl ty105 rfl rfl rfl (fun _ => rfl) rfl) rfl rfl <| nq (Q_move rfl) rfl rfl <| nq (Q_move rfl) rfl rfl <| nq (Q_cvI ⟨_, Tryd.underlying3⟩ Tryd.underlying5 rfl) rfl rfl <| nq (v := .agg #[.int .i64 x26, .int .u8 (IntKind.wrap .u8 x198)]) (Q_buildS st113.choose_spec (ps := [(0, [.int .i64 x26]), (1, [.int .u8 (IntKind.wrap .u8 x198)])]) rfl ⟨rfl, rfl, by simp, ⟨rfl, rfl, by simp, trivial⟩⟩ rfl) rfl rfl <| ne (E_bslice (xs := [.tmp 16]) (vs := [.agg #[.int .i64 x26, .int .u8 (IntKind.wrap .u8 x198)]]) H Tryd.underlying105 ty113 (by decide) (cs := [.int .i64 x26, .int .u8 (IntKind.wrap .u8 x198)]) rfl (sz_cons rfl sz_nil) rfl (by simp) (by simp) rfl rfl) rfl rfl ?_
    rintro _ wd218 ⟨b217, rfl, H⟩
    obtain ⟨x219, hx219, hB214⟩ := bnd hB214
    obtain ⟨ha220a, ha220b⟩ := app_some hx219
    have r222 : rdL (eP (eI .i64) (eI .u8)) ρ x219 (c195 ++ ([.int .i64 x26, .int .u8 (IntKind.wrap .u8 x198)])) := ha220b ▸ rdL.app r197 (show rdL (eP (eI .i64) (eI .u8)) ρ ([(x26, IntKind.wrap .u8 x198)]) ([.int .i64 x26, .int .u8 (IntKind.wrap .u8 x198)]) from ⟨([.int .i64 x26, .int .u8 (IntKind.wrap .u8 x198)]), _, rfl, ⟨[.int .i64 x26], _, rfl, rfl, rfl⟩, rdL.nil⟩)
    refine ne (E_append (k := 5) H rfl Tryd.underlying105 ty113 rfl (by decide) (by decide) rfl rfl (Src.ofArr (k := 0) H.ok rfl) (rdL.one (show rdL (eP (eI .i64) (eI .u8)) ρ ([(x26, IntKind.wrap .u8 x198)]) ([.int .i64 x26, .int .u8 (IntKind.wrap .u8 x198)]) from ⟨([.int .i64 x26, .int .u8 (IntKind.wrap .u8 x198)]), _, rfl, ⟨[.int .i64 x26], _, rfl, rfl, rfl⟩, rdL.nil⟩)) (app_fit r197 (show rdL (eP (eI .i64) (eI .u8)) ρ ([(x26, IntKind.wrap .u8 x198)]) ([.int .i64 x26, .int .u8 (IntKind.wrap .u8 x198)]) from ⟨([.int .i64 x26, .int .u8 (IntKind.wrap .u8 x198)]), _, rfl, ⟨[.int .i64 x26], _, rfl, rfl, rfl⟩, rdL.nil⟩) ha220a)) rfl rfl ?_
    rintro v221 wd224 ⟨H, hc223⟩
    dsimp only [List.set] at H
    refine nq (Q_nilP rfl) rfl rfl <| nq (v := .pointer (some ⟨b1, 6, none⟩)) (Q_fld Tryd.underlying107 rfl ty105 (by decide) rfl rfl) rfl rfl <| ne (E_stB (k := 1) (cs := [v221]) (vs' := [v2, v5, v8, v11, v18, v19, v221]) H rfl ty105 rfl rfl (arr_cells (H.ok.get (k := 5) rfl)).1 rfl (one_cons (arr_cells (H.ok.get (k := 5) rfl)).2 one_nil) (by simp) rfl) rfl rfl ?_
    rintro _ wd225 H
    dsimp only [List.set] at H
    refine WL_nil <| x_block <| x_then <| R_nd <| nq (Q_add rfl rfl) rfl rfl <| nq (Q_move rfl) rfl rfl <| WL_nil ?_
    replace H := H.f5
    replace H := H.f5
    replace H := H.f5
    replace H := H.f5
    replace H := H.f5
    replace H := H.drop 5 rfl
    dsimp only [List.eraseIdx] at H
    obtain rfl := Option.some.inj hB214
    refine x_A fun a hf => ⟨_, rfl, v221, (c195 ++ ([.int .i64 x26, .int .u8 (IntKind.wrap .u8 x198)])), x219, w64 (x198 + 1), rfl, r222, hf.sub ⟨rfl, rfl, rfl, trivial⟩, H⟩
   ·replace hB214 := itF hb hB214
    refine C_exit <| x_then_exit <| x_then_exit <| x_block_exit ?_
    replace H := H.f4
    replace H := H.f4
    replace H := H.f4
    replace H := H.f4
    replace H := H.f4
    obtain rfl := Option.some.inj hB214
    obtain rfl := hO215 _ rfl
    refine x_A fun a hf => ⟨v194, c195, x196, rfl, r197, hf.sub trivial, H⟩
 ·rintro a wd226 ⟨v175, c176, x177, rfl, r178, hf, H⟩
  try dsimp only at hF
  refine XX.at hf ?_
  replace H := H.f4
  replace H := H.f4
  replace H := H.f4
  replace H := H.f4
  replace H := H.f4
  obtain rfl := Option.some.inj hF
  exact fn_end (l := []) (vs := []) rfl rfl rfl ⟨v175, c176, x177, rfl, rfl, r178, H⟩
set_option maxHeartbeats 8000000 in
theorem c_85 {N : Nat} {C : Cx} {w : World} {ρ : View} {hs : List Hl} {b1 : Nat} {v2 : Value} {v5 : Value} {v8 : Value} {v11 : Value} {c12 : List Value} {c15 : List Value} {v18 : Value} {v19 : Value} {c20 : List Value} {c22 : List Value} {v25 : Value} {x3 : (List (List Int))} {x6 : (List Int)} {x9 : (List Int)} {x13 : (List (List (List Int)))} {x16 : (List Int)} {x21 : (List (List Int))} {x23 : (List (Int × Int))} (H : Hp C w ρ (Box b1 [v2, v5, v8, v11, v18, v19, v25] :: NA (eI .i64) 256 v11 c12 x13.flatten :: Arr v18 1 c15 :: NA (eI .i64) 1 v19 c20 x21 :: Arr v25 2 c22 :: hs)) (r4 : RdSl ρ (eA 256 (eI .i64)) v2 x3) (r7 : RdSl ρ (eI .i64) v5 x6) (r10 : RdSl ρ (eI .i64) v8 x9) (_gl14 : ∀ a ∈ x13, a.length = 256) (_r17 : rdL (eI .i64) ρ x16 c15) (r24 : rdL (eP (eI .i64) (eI .u8)) ρ x23 c22) {r : ((List (List (List Int))) × (List Int) × (List (List Int)) × (List (Int × Int)))} (hF : F_hopcroft_splitter_begin N x3 x6 x9 x13 x16 x21 x23 = some r) :
  Calls Tryd.prog 85 [.pointer (some ⟨b1, 0, none⟩)].toArray w (Rets (fun v w' => (∃ (v9740 : Value) (c9741 : (List Value)) (v9744 : Value) (c9745 : (List Value)) (v9748 : Value) (c9749 : (List Value)) (v9751 : Value) (c9752 : (List Value)) (x9742 : (List (List (List Int)))) (x9746 : (List Int)) (x9750 : (List (List Int))) (x9753 : (List (Int × Int))), (x9742, x9746, x9750, x9753) = r ∧ .tuple [].toArray = v ∧ (∀ a ∈ x9742, a.length = 256) ∧ rdL (eI .i64) ρ x9746 c9745 ∧ rdL (eP (eI .i64) (eI .u8)) ρ x9753 c9752 ∧ Hp C w' ρ (Box b1 [v2, v5, v8, v9740, v9744, v9748, v9751] :: NA (eI .i64) 256 v11 c12 x13.flatten :: Arr v18 1 c15 :: NA (eI .i64) 1 v9748 c9749 x9750 :: Arr v9751 2 c9752 :: NA (eI .i64) 256 v9740 c9741 x9742.flatten :: Arr v9744 1 c9745 :: hs)))) := by
 unfold F_hopcroft_splitter_begin at hF
 have h0 : Tryd.f85.body = some _ := rfl
 refine fn_calls' Tryd.func85 h0 (n := 143) rfl (by simp) <| C_seq <| R_nd <| nq (Q_move rfl) rfl rfl <| nq (Q_move rfl) rfl rfl <| nq (Q_nilP rfl) rfl rfl <| nq (v := .pointer (some ⟨b1, 0, none⟩)) (Q_fld Tryd.underlying107 rfl ty25 (by decide) rfl rfl) rfl rfl <| nq (v := .pointer (some ⟨b1, 0, none⟩)) (Q_fld Tryd.underlying25 rfl ty22 (by decide) rfl rfl) rfl rfl <| nq (v := v2) (Q_ldB (k := 0) (cs := [v2]) H.ok rfl ty22 rfl rfl rfl (fun _ => rfl) rfl) rfl rfl <| nq (Q_len Tryd.underlying22 rfl r4) rfl rfl ?_
 obtain ⟨x9755, hx9755, hF⟩ := bnd hF
 obtain ⟨hm9757a, hm9757b, hm9757c⟩ := mk_some hx9755
 refine ne (E_make H Tryd.underlying104 ty110 (zs := (repC 256 [.slice none 0 0])) rfl (by simp [repC_length]) (by decide) (by decide) rfl hm9757a hm9757b) rfl rfl ?_
 rintro _ wd9758 ⟨b9756, rfl, H⟩
 replace H := H.njoinRN (eI .i64)
 rw [← hm9757c] at H
 have gl9759 : ∀ a ∈ x9755, a.length = 256 := hm9757c ▸ rep_gl
 refine nq (Q_nilP rfl) rfl rfl <| nq (v := .pointer (some ⟨b1, 3, none⟩)) (Q_fld Tryd.underlying107 rfl ty104 (by decide) rfl rfl) rfl rfl <| ne (E_stB (k := 1) (cs := [(.slice (some ⟨b9756, 0, none⟩) (x3.length : Int).toNat (x3.length : Int).toNat)]) (vs' := [v2, v5, v8, (.slice (some ⟨b9756, 0, none⟩) (x3.length : Int).toNat (x3.length : Int).toNat), v18, v19, v25]) H rfl ty104 rfl rfl (arr_cells (H.ok.get (k := 0) rfl).1).1 rfl (one_cons (arr_cells (H.ok.get (k := 0) rfl).1).2 one_nil) (by simp) rfl) rfl rfl ?_
 rintro _ wd9760 H
 dsimp only [List.set] at H
 refine WL_nil <| x_then <| C_seq <| R_nd <| nq (Q_move rfl) rfl rfl <| nq (Q_move rfl) rfl rfl <| nq (Q_nilP rfl) rfl rfl <| nq (v := .pointer (some ⟨b1, 0, none⟩)) (Q_fld Tryd.underlying107 rfl ty25 (by decide) rfl rfl) rfl rfl <| nq (v := .pointer (some ⟨b1, 0, none⟩)) (Q_fld Tryd.underlying25 rfl ty22 (by decide) rfl rfl) rfl rfl <| nq (v := v2) (Q_ldB (k := 1) (cs := [v2]) H.ok rfl ty22 rfl rfl rfl (fun _ => rfl) rfl) rfl rfl <| nq (Q_len Tryd.underlying22 rfl r4) rfl rfl ?_
 obtain ⟨x9761, hx9761, hF⟩ := bnd hF
 obtain ⟨hm9763a, hm9763b, hm9763c⟩ := mk_some hx9761
 refine ne (E_make H Tryd.underlying23 ty3 (zs := [.int .i64 0]) rfl rfl (by decide) (by decide) rfl hm9763a hm9763b) rfl rfl ?_
 rintro _ wd9764 ⟨b9762, rfl, H⟩
 refine nq (Q_nilP rfl) rfl rfl <| nq (v := .pointer (some ⟨b1, 4, none⟩)) (Q_fld Tryd.underlying107 rfl ty23 (by decide) rfl rfl) rfl rfl <| ne (E_stB (k := 2) (cs := [(.slice (some ⟨b9762, 0, none⟩) (x3.length : Int).toNat (x3.length : Int).toNat)]) (vs' := [v2, v5, v8, (.slice (some ⟨b9756, 0, none⟩) (x3.length : Int).toNat (x3.length : Int).toNat), (.slice (some ⟨b9762, 0, none⟩) (x3.length : Int).toNat (x3.length : Int).toNat), v19, v25]) H rfl ty23 rfl rfl (arr_cells (H.ok.get (k := 0) rfl)).1 rfl (one_cons (arr_cells (H.ok.get (k := 0) rfl)).2 one_nil) (by simp) rfl) rfl rfl ?_
 rintro _ wd9765 H
 dsimp only [List.set] at H
 refine WL_nil <| x_then <| C_seq <| R_nd <| ne (E_makeMap (kI .i64) (Value.int .i64) H) rfl rfl ?_
 rintro _ wd9767 ⟨b9766, rfl, H⟩
 refine nq (Q_assign rfl) rfl rfl <| WL_nil <| x_then <| C_seq <| C_seq <| R_nd <| nq (Q_move rfl) rfl rfl <| nq (Q_nilP rfl) rfl rfl <| nq (v := .pointer (some ⟨b1, 0, none⟩)) (Q_fld Tryd.underlying107 rfl ty25 (by decide) rfl rfl) rfl rfl <| nq (v := .pointer (some ⟨b1, 0, none⟩)) (Q_fld Tryd.underlying25 rfl ty22 (by decide) rfl rfl) rfl rfl <| nq (v := v2) (Q_ldB (k := 3) (cs := [v2]) H.ok rfl ty22 rfl rfl rfl (fun _ => rfl) rfl) rfl rfl <| nq (Q_len Tryd.underlying22 rfl r4) rfl rfl <| nq (Q_move rfl) rfl rfl <| WL_nil ?_
 refine x_then ?_
 obtain ⟨o14578, ho14578, hF⟩ := bnd hF
 refine C_cutQ (fun a w' => ∃ (c14569 : (List Value)) (c14572 : (List Value)) (v14575 : Value) (c14576 : (List Value)) (x14570 : (List (List (List Int)))) (x14573 : (List Int)) (x14577 : (List (List Int))), (x14570, x14573, x14577) = o14578 ∧ (∀ a ∈ x14570, a.length = 256) ∧ rdL (eI .i64) ρ x14573 c14572 ∧ Fr 143 a [(0, .pointer (some ⟨b1, 0, none⟩))] ∧ Hp C w' ρ (Box b1 [v2, v5, v8, (.slice (some ⟨b9756, 0, none⟩) (x3.length : Int).toNat (x3.length : Int).toNat), (.slice (some ⟨b9762, 0, none⟩) (x3.length : Int).toNat (x3.length : Int).toNat), v14575, v25] :: NA (eI .i64) 256 (.slice (some ⟨b9756, 0, none⟩) (x3.length : Int).toNat (x3.length : Int).toNat) c14569 x14570.flatten :: Arr (.slice (some ⟨b9762, 0, none⟩) (x3.length : Int).toNat (x3.length : Int).toNat) 1 c14572 :: NA (eI .i64) 1 v14575 c14576 x14577 :: Arr v25 2 c22 :: NA (eI .i64) 256 v11 c12 x13.flatten :: Arr v18 1 c15 :: hs)) ?_ ?_
 ·refine C_block ?_
  replace H := H.f5
  replace H := H.f5
  replace H := H.f7
  replace H := H.f7
  replace H := H.f5
  replace H := H.f6
  replace H := H.f7
  refine C_iter (f := fun s => F_hopcroft_splitter_begin_l0 N x3 x6 s.1 s.2.1 s.2.2.1 s.2.2.2.1 s.2.2.2.2) ho14578 (fun s a w' => ∃ (c16178 : (List Value)) (c16181 : (List Value)) (v16184 : Value) (c16185 : (List Value)) (x16179 : (List (List (List Int)))) (x16182 : (List Int)) (x16186 : (List (List Int))) (x16187 : (List (Int × Int))) (x16188 : Int), (x16179, x16182, x16186, x16187, x16188) = s ∧ (∀ a ∈ x16179, a.length = 256) ∧ rdL (eI .i64) ρ x16182 c16181 ∧ Fr 143 a [(0, .pointer (some ⟨b1, 0, none⟩)), (2, .map (some b9766)), (35, v2), (36, .int .i64 (x3.length : Int)), (37, .int .i64 x16188)] ∧ Hp C w' ρ (Box b1 [v2, v5, v8, (.slice (some ⟨b9756, 0, none⟩) (x3.length : Int).toNat (x3.length : Int).toNat), (.slice (some ⟨b9762, 0, none⟩) (x3.length : Int).toNat (x3.length : Int).toNat), v16184, v25] :: NA (eI .i64) 256 (.slice (some ⟨b9756, 0, none⟩) (x3.length : Int).toNat (x3.length : Int).toNat) c16178 x16179.flatten :: Arr (.slice (some ⟨b9762, 0, none⟩) (x3.length : Int).toNat (x3.length : Int).toNat) 1 c16181 :: NA (eI .i64) 1 v16184 c16185 x16186 :: Arr v25 2 c22 :: NA (eI .i64) 256 v11 c12 x13.flatten :: Arr v18 1 c15 :: Mp (kI .i64) (Value.int .i64) b9766 x16187 :: hs)) ?_ ?_
  ·exact fun a hf => ⟨(repC (x3.length : Int).toNat (repC 256 [.slice none 0 0])), (repC (x3.length : Int).toNat [.int .i64 0]), v19, c20, x9755, x9761, x21, ([] : List (Int × Int)), 0, rfl, gl9759, (hm9763c ▸ rdL_rep (e := (eI .i64)) (ρ := ρ) (rfl) _), hf.sub ⟨rfl, rfl, rfl, rfl, rfl, trivial⟩, H⟩
  ·rintro s o17788 a wd17791 ⟨c16178, c16181, v16184, c16185, x16179, x16182, x16186, x16187, x16188, rfl, gl16180, r16183, hf, H⟩ hB17789 hO17790
   replace hB17789 : F_hopcroft_splitter_begin_l0 N x3 x6 x16179 x16182 x16186 x16187 x16188 = some o17788 := hB17789
   unfold F_hopcroft_splitter_begin_l0 at hB17789
   refine CW.at hf <| C_seq <| R_nd <| nq (Q_lss rfl rfl) rfl rfl <| WL_nil <| x_then <| C_seq ?_
   refine C_cond rfl (fun hb => ?_) (fun hb => ?_)
   ·replace hB17789 := itT hb hB17789
    refine C_skip <| x_then ?_
    obtain ⟨o18590, ho18590, hB17789⟩ := bnd hB17789
    refine C_cut (fun a w' => ∃ (c18580 : (List Value)) (c18583 : (List Value)) (v18586 : Value) (c18587 : (List Value)) (x18581 : (List (List (List Int)))) (x18584 : (List Int)) (x18588 : (List (List Int))) (x18589 : (List (Int × Int))), (x18581, x18584, x18588, x18589) = o18590 ∧ (∀ a ∈ x18581, a.length = 256) ∧ rdL (eI .i64) ρ x18584 c18583 ∧ Fr 143 a [(0, .pointer (some ⟨b1, 0, none⟩)), (2, .map (some b9766)), (35, v2), (36, .int .i64 (x3.length : Int)), (37, .int .i64 x16188)] ∧ Hp C w' ρ (Box b1 [v2, v5, v8, (.slice (some ⟨b9756, 0, none⟩) (x3.length : Int).toNat (x3.length : Int).toNat), (.slice (some ⟨b9762, 0, none⟩) (x3.length : Int).toNat (x3.length : Int).toNat), v18586, v25] :: NA (eI .i64) 256 (.slice (some ⟨b9756, 0, none⟩) (x3.length : Int).toNat (x3.length : Int).toNat) c18580 x18581.flatten :: Arr (.slice (some ⟨b9762, 0, none⟩) (x3.length : Int).toNat (x3.length : Int).toNat) 1 c18583 :: NA (eI .i64) 1 v18586 c18587 x18588 :: Arr v25 2 c22 :: NA (eI .i64) 256 v11 c12 x13.flatten :: Arr v18 1 c15 :: Mp (kI .i64) (Value.int .i64) b9766 x18589 :: hs)) ?_ ?_
    ·refine C_block <| C_seq <| R_nd <| nq (Q_move rfl) rfl rfl ?_
     obtain ⟨x18591, hx18591, ho18590⟩ := bnd ho18590
     obtain ⟨b18592, o18593, c18594, hc18595, ha18596, hi18597⟩ := idxR r4 hx18591
     refine nq (Q_idx hi18597 Tryd.underlying22 ty58 rfl rfl) rfl rfl <| nq (v := .agg c18594.toArray) (Q_ld (ha18596.up H.ok.view) ty58 ((eA 256 (eI .i64)).len hc18595) (fun h => nomatch h) rfl rfl) rfl rfl <| ne (E_allocA (N := 256) (n := 1) (zs := (repC 256 [.int .i64 0])) H ty58 rfl (by simp [repC_length])) rfl rfl ?_
     rintro _ wd18599 ⟨b18598, rfl, H⟩
     refine nq (Q_assign rfl) rfl rfl <| ne (E_stW (k := 0) H rfl ty58 rfl rfl (rdL.one hc18595.2) (arr_clen (rdL_rep (e:=(eI .i64)) (ρ:=ρ) (rfl) 256) List.length_replicate) (arr_clen hc18595.2 hc18595.1)) rfl rfl ?_
     rintro _ wd18600 H
     dsimp only [List.set] at H
     refine WL_nil <| x_then <| C_seq <| C_seq <| R_nd <| nq (Q_ldW (k := 0) H.ok rfl ty58 rfl (arr_clen hc18595.2 hc18595.1)) rfl rfl <| nq (Q_move rfl) rfl rfl <| WL_nil <| x_then ?_
     obtain ⟨o18926, ho18926, ho18590⟩ := bnd ho18590
     refine C_cutQ (fun a w' => ∃ (c18923 : (List Value)) (x18924 : (List (List (List Int)))), x18924 = o18926 ∧ (∀ a ∈ x18924, a.length = 256) ∧ Fr 143 a [(0, .pointer (some ⟨b1, 0, none⟩)), (2, .map (some b9766)), (3, .int .i64 x16188), (35, v2), (36, .int .i64 (x3.length : Int)), (37, .int .i64 x16188)] ∧ Hp C w' ρ (Box b1 [v2, v5, v8, (.slice (some ⟨b9756, 0, none⟩) (x3.length : Int).toNat (x3.length : Int).toNat), (.slice (some ⟨b9762, 0, none⟩) (x3.length : Int).toNat (x3.length : Int).toNat), v16184, v25] :: NA (eI .i64) 256 (.slice (some ⟨b9756, 0, none⟩) (x3.length : Int).toNat (x3.length : Int).toNat) c18923 x18924.flatten :: Arr (.slice (some ⟨b9762, 0, none⟩) (x3.length : Int).toNat (x3.length : Int).toNat) 1 c16181 :: NA (eI .i64) 1 v16184 c16185 x16186 :: Arr v25 2 c22 :: NA (eI .i64) 256 v11 c12 x13.flatten :: Arr v18 1 c15 :: Mp (kI .i64) (Value.int .i64) b9766 x16187 :: hs)) ?_ ?_
     ·refine C_block ?_
      replace H := H.f8
      replace H := H.f8
      replace H := H.f8
      replace H := H.f8
      replace H := H.f8
      replace H := H.f8
      replace H := H.f8
      replace H := H.f8
      replace H := H.drop 8 rfl
      dsimp only [List.eraseIdx] at H
      refine C_iter (f := fun s => F_hopcroft_splitter_begin_l1 N x16188 x18591 s.1 s.2) ho18926 (fun s a w' => ∃ (c19033 : (List Value)) (x19034 : (List (List (List Int)))) (x19036 : Int), (x19034, x19036) = s ∧ (∀ a ∈ x19034, a.length = 256) ∧ Fr 143 a [(0, .pointer (some ⟨b1, 0, none⟩)), (2, .map (some b9766)), (3, .int .i64 x16188), (35, v2), (36, .int .i64 (x3.length : Int)), (37, .int .i64 x16188), (42, .agg c18594.toArray), (43, .int .i64 x19036)] ∧ Hp C w' ρ (Box b1 [v2, v5, v8, (.slice (some ⟨b9756, 0, none⟩) (x3.length : Int).toNat (x3.length : Int).toNat), (.slice (some ⟨b9762, 0, none⟩) (x3.length : Int).toNat (x3.length : Int).toNat), v16184, v25] :: NA (eI .i64) 256 (.slice (some ⟨b9756, 0, none⟩) (x3.length : Int).toNat (x3.length : Int).toNat) c19033 x19034.flatten :: Arr (.slice (some ⟨b9762, 0, none⟩) (x3.length : Int).toNat (x3.length : Int).toNat) 1 c16181 :: NA (eI .i64) 1 v16184 c16185 x16186 :: Arr v25 2 c22 :: NA (eI .i64) 256 v11 c12 x13.flatten :: Arr v18 1 c15 :: Mp (kI .i64) (Value.int .i64) b9766 x16187 :: hs)) ?_ ?_
      ·exact fun a hf => ⟨c16178, x16179, 0, rfl, gl16180, hf.sub ⟨rfl, rfl, rfl, rfl, rfl, rfl, rfl, rfl, trivial⟩, H⟩
      ·rintro s o19143 a wd19146 ⟨c19033, x19034, x19036, rfl, gl19035, hf, H⟩ hB19144 hO19145
       replace hB19144 : F_hopcroft_splitter_begin_l1 N x16188 x18591 x19034 x19036 = some o19143 := hB19144
       unfold F_hopcroft_splitter_begin_l1 at hB19144
       refine CW.at hf <| C_seq <| R_nd <| nq (Q_lss rfl rfl) rfl rfl <| WL_nil <| x_then <| C_seq ?_
       refine C_cond rfl (fun hb => ?_) (fun hb => ?_)
       ·replace hB19144 := itT hb hB19144
        refine C_skip <| x_then <| C_seq <| C_block <| C_seq <| R_nd <| nq (Q_move rfl) rfl rfl ?_
        obtain ⟨x19147, hx19147, hB19144⟩ := bnd hB19144
        refine nq (Q_ixI hc18595.2 hc18595.1 hx19147 Tryd.underlying58 rfl rfl ty3 rfl) rfl rfl <| nq (Q_assign rfl) rfl rfl <| nq (Q_assign rfl) rfl rfl <| WL_nil <| x_then ?_
        obtain ⟨o19199, ho19199, hB19144⟩ := bnd hB19144
        refine C_cutQ (fun a w' => ∃ (c19196 : (List Value)) (x19197 : (List (List (List Int)))), x19197 = o19199 ∧ (∀ a ∈ x19197, a.length = 256) ∧ Fr 143 a [(0, .pointer (some ⟨b1, 0, none⟩)), (2, .map (some b9766)), (3, .int .i64 x16188), (35, v2), (36, .int .i64 (x3.length : Int)), (37, .int .i64 x16188), (42, .agg c18594.toArray), (43, .int .i64 x19036)] ∧ Hp C w' ρ (Box b1 [v2, v5, v8, (.slice (some ⟨b9756, 0, none⟩) (x3.length : Int).toNat (x3.length : Int).toNat), (.slice (some ⟨b9762, 0, none⟩) (x3.length : Int).toNat (x3.length : Int).toNat), v16184, v25] :: NA (eI .i64) 256 (.slice (some ⟨b9756, 0, none⟩) (x3.length : Int).toNat (x3.length : Int).toNat) c19196 x19197.flatten :: Arr (.slice (some ⟨b9762, 0, none⟩) (x3.length : Int).toNat (x3.length : Int).toNat) 1 c16181 :: NA (eI .i64) 1 v16184 c16185 x16186 :: Arr v25 2 c22 :: NA (eI .i64) 256 v11 c12 x13.flatten :: Arr v18 1 c15 :: Mp (kI .i64) (Value.int .i64) b9766 x16187 :: hs)) ?_ ?_
        ·refine R_dr (.take 0 (.take 1 (.take 2 (.take 3 (.take 4 (.take 5 (.take 6 (.take 7 (.take 8 (.take 9 (.take 10 (.take 11 (.take 12 (.take 13 (.take 15 (.take 18 (.two 14 16 (.one 16 (.one 17 (.take 19 (.one 20 .done)))) (.one 14 (.one 17 (.take 19 (.one 20 .done))))))))))))))))))))) (fun w' => Ok w' ρ [Box b1 [v2, v5, v8, (.slice (some ⟨b9756, 0, none⟩) (x3.length : Int).toNat (x3.length : Int).toNat), (.slice (some ⟨b9762, 0, none⟩) (x3.length : Int).toNat (x3.length : Int).toNat), v16184, v25], Arr (.slice (some ⟨b9762, 0, none⟩) (x3.length : Int).toNat (x3.length : Int).toNat) 1 c16181, NA (eI .i64) 1 v16184 c16185 x16186, Arr v25 2 c22, NA (eI .i64) 256 v11 c12 x13.flatten, Arr v18 1 c15, Mp (kI .i64) (Value.int .i64) b9766 x16187]) (by kernel_rfl) (by kernel_rfl) (by kernel_rfl) (H.drew.okS (by simp)) ?_
         replace H := H.drew
         refine dq rfl (fun _ _ => Q_move rfl) rfl rfl <| dq rfl (fun _ _ => Q_nilP rfl) rfl rfl <| dq (v := .pointer (some ⟨b1, 3, none⟩)) rfl (fun _ _ => Q_fld Tryd.underlying107 rfl ty104 (by decide) rfl rfl) rfl rfl <| dq (v := (.slice (some ⟨b9756, 0, none⟩) (x3.length : Int).toNat (x3.length : Int).toNat)) rfl (fun _ hw => Q_ldB (k := 0) (cs := [(.slice (some ⟨b9756, 0, none⟩) (x3.length : Int).toNat (x3.length : Int).toNat)]) hw rfl ty104 rfl rfl rfl (fun _ => rfl) rfl) rfl rfl <| dq rfl (fun _ _ => Q_move rfl) rfl rfl <| dq rfl (fun _ _ => Q_move rfl) rfl rfl <| dq rfl (fun _ _ => Q_move rfl) rfl rfl <| dq rfl (fun _ _ => Q_nilP rfl) rfl rfl <| dq (v := .pointer (some ⟨b1, 3, none⟩)) rfl (fun _ _ => Q_fld Tryd.underlying107 rfl ty104 (by decide) rfl rfl) rfl rfl <| dq (v := (.slice (some ⟨b9756, 0, none⟩) (x3.length : Int).toNat (x3.length : Int).toNat)) rfl (fun _ hw => Q_ldB (k := 0) (cs := [(.slice (some ⟨b9756, 0, none⟩) (x3.length : Int).toNat (x3.length : Int).toNat)]) hw rfl ty104 rfl rfl rfl (fun _ => rfl) rfl) rfl rfl <| dq rfl (fun _ _ => Q_move rfl) rfl rfl <| dq rfl (fun _ _ => Q_move rfl) rfl rfl ?_
         obtain ⟨x19200, hx19200, ho19199⟩ := bnd ho19199
         obtain ⟨b19201, o19202, hi19203, hr19204⟩ := na_row (by decide) (by decide) (H.okS (l := [NA (eI .i64) 256 (.slice (some ⟨b9756, 0, none⟩) (x3.length : Int).toNat (x3.length : Int).toNat) c19033 x19034.flatten]) (by simp)) gl19035 hx19200
         refine dq rfl (fun _ _ => Q_idx hi19203 Tryd.underlying104 ty110 rfl rfl) rfl rfl ?_
         obtain ⟨x19205, hx19205, ho19199⟩ := bnd ho19199
         obtain ⟨u19206, hu19207, ha19208, hl19209, hj19210, hn19211⟩ := hr19204 _ _ hx19205
         have hb19212 := (idx_some hx19205).1
         refine dq rfl (fun _ _ => Q_idxA hb19212 (by omega) Tryd.underlying110 ty23 rfl rfl) rfl rfl <| dq rfl (fun _ _ => Q_move rfl) rfl rfl ?_
         obtain ⟨x19213, hx19213, ho19199⟩ := bnd ho19199
         obtain ⟨b19214, o19215, hi19216, hr19217⟩ := na_row (by decide) (by decide) (H.okS (l := [NA (eI .i64) 256 (.slice (some ⟨b9756, 0, none⟩) (x3.length : Int).toNat (x3.length : Int).toNat) c19033 x19034.flatten]) (by simp)) gl19035 hx19213
         refine dq rfl (fun _ _ => Q_idx hi19216 Tryd.underlying104 ty110 rfl rfl) rfl rfl ?_
         refine d2 ?_ ?_
         ·refine de rfl (Eff.quiet (v := u19206) (Q_ld (ha19208 _ (Ok.subS (by simp) H.ok)) ty23 rfl (fun _ => rfl) rfl rfl)) rfl rfl ?_
          rintro _ _ ⟨rfl, rfl⟩
          refine ⟨H.okS (by simp), ?_⟩
          refine d1 (de rfl (E_bslice (xs := [.tmp 62]) (vs := [.int .i64 x16188]) H Tryd.underlying23 ty3 (by decide) (cs := [.int .i64 x16188]) rfl (sz_cons rfl sz_nil) rfl (by simp) (by simp) rfl rfl) rfl rfl ?_)
          rintro _ wd19219 ⟨b19218, rfl, H⟩
          refine ⟨H.okS (by simp), ?_⟩
          replace H := H.f2
          obtain ⟨c19220, r19221, H⟩ := Hp.ntake H hu19207 hj19210
          obtain ⟨x19222, hx19222, ho19199⟩ := bnd ho19199
          obtain ⟨ha19223a, ha19223b⟩ := app_some hx19222
          have r19225 : rdL (eI .i64) ρ x19222 (c19220 ++ ([.int .i64 x16188])) := ha19223b ▸ rdL.app r19221 (show rdL (eI .i64) ρ ([x16188]) ([.int .i64 x16188]) from ⟨([.int .i64 x16188]), _, rfl, rfl, rdL.nil⟩)
          refine d1 (de rfl (E_append (k := 0) H rfl Tryd.underlying23 ty3 rfl (by decide) (by decide) rfl rfl (Src.ofArr (k := 2) H.ok rfl) (rdL.one (show rdL (eI .i64) ρ ([x16188]) ([.int .i64 x16188]) from ⟨([.int .i64 x16188]), _, rfl, rfl, rdL.nil⟩)) (app_fit r19221 (show rdL (eI .i64) ρ ([x16188]) ([.int .i64 x16188]) from ⟨([.int .i64 x16188]), _, rfl, rfl, rdL.nil⟩) ha19223a)) rfl rfl ?_)
          rintro v19224 wd19227 ⟨H, hc19226⟩
          dsimp only [List.set] at H
          refine ⟨H.okS (by simp), ?_⟩
          refine dq rfl (fun _ _ => Q_idxA hb19212 (by omega) Tryd.underlying110 ty23 rfl rfl) rfl rfl ?_
          replace H := H.f1
          replace H := H.f1
          have hl19228 := arr_len (en := (eI .i64)) (by decide) (H.ok.get (k := 0) rfl) r19225
          obtain ⟨x19229, hx19229, ho19199⟩ := bnd ho19199
          obtain ⟨x19230, hx19230, ho19199⟩ := bnd ho19199
          refine d1 (de rfl (E_stNN (flat_I _) H ty23 hi19216 rfl rfl r19225 gl19035 hx19213 hx19229 hx19230) rfl rfl ?_)
          rintro _ wd19231 H
          refine ⟨H.okS (by simp), ?_⟩
          have gl19232 := (flat_set gl19035 hx19213 hx19229 hx19230).2
          refine DL_nil ?_
          replace H := H.f8
          replace H := H.f8
          replace H := H.f8
          replace H := H.f8
          replace H := H.f8
          replace H := H.f8
          replace H := H.f6
          replace H := H.f8
          replace H := H.drop 8 rfl
          dsimp only [List.eraseIdx] at H
          obtain rfl := Option.some.inj ho19199
          refine x_A fun a hf => ⟨(c19033.set (x19147.toNat * 256 + x19036.toNat) v19224), x19230, rfl, gl19232, hf.sub ⟨rfl, rfl, rfl, rfl, rfl, rfl, rfl, rfl, trivial⟩, H⟩
         ·refine de rfl (E_bslice (xs := [.tmp 62]) (vs := [.int .i64 x16188]) H Tryd.underlying23 ty3 (by decide) (cs := [.int .i64 x16188]) rfl (sz_cons rfl sz_nil) rfl (by simp) (by simp) rfl rfl) rfl rfl ?_
          rintro _ wd19234 ⟨b19233, rfl, H⟩
          refine ⟨H.okS (by simp), ?_⟩
          refine d1 (de rfl (Eff.quiet (v := u19206) (Q_ld (ha19208 _ (Ok.subS (by simp) H.ok)) ty23 rfl (fun _ => rfl) rfl rfl)) rfl rfl ?_)
          rintro _ _ ⟨rfl, rfl⟩
          refine ⟨H.okS (by simp), ?_⟩
          replace H := H.f2
          obtain ⟨c19235, r19236, H⟩ := Hp.ntake H hu19207 hj19210
          obtain ⟨x19237, hx19237, ho19199⟩ := bnd ho19199
          obtain ⟨ha19238a, ha19238b⟩ := app_some hx19237
          have r19240 : rdL (eI .i64) ρ x19237 (c19235 ++ ([.int .i64 x16188])) := ha19238b ▸ rdL.app r19236 (show rdL (eI .i64) ρ ([x16188]) ([.int .i64 x16188]) from ⟨([.int .i64 x16188]), _, rfl, rfl, rdL.nil⟩)
          refine d1 (de rfl (E_append (k := 0) H rfl Tryd.underlying23 ty3 rfl (by decide) (by decide) rfl rfl (Src.ofArr (k := 2) H.ok rfl) (rdL.one (show rdL (eI .i64) ρ ([x16188]) ([.int .i64 x16188]) from ⟨([.int .i64 x16188]), _, rfl, rfl, rdL.nil⟩)) (app_fit r19236 (show rdL (eI .i64) ρ ([x16188]) ([.int .i64 x16188]) from ⟨([.int .i64 x16188]), _, rfl, rfl, rdL.nil⟩) ha19238a)) rfl rfl ?_)
          rintro v19239 wd19242 ⟨H, hc19241⟩
          dsimp only [List.set] at H
          refine ⟨H.okS (by simp), ?_⟩
          refine dq rfl (fun _ _ => Q_idxA hb19212 (by omega) Tryd.underlying110 ty23 rfl rfl) rfl rfl ?_
          replace H := H.f1
          replace H := H.f1
          have hl19243 := arr_len (en := (eI .i64)) (by decide) (H.ok.get (k := 0) rfl) r19240
          obtain ⟨x19244, hx19244, ho19199⟩ := bnd ho19199
          obtain ⟨x19245, hx19245, ho19199⟩ := bnd ho19199
          refine d1 (de rfl (E_stNN (flat_I _) H ty23 hi19216 rfl rfl r19240 gl19035 hx19213 hx19244 hx19245) rfl rfl ?_)
          rintro _ wd19246 H
          refine ⟨H.okS (by simp), ?_⟩
          have gl19247 := (flat_set gl19035 hx19213 hx19244 hx19245).2
          refine DL_nil ?_
          replace H := H.f8
          replace H := H.f8
          replace H := H.f8
          replace H := H.f8
          replace H := H.f8
          replace H := H.f8
          replace H := H.f6
          replace H := H.f8
          replace H := H.drop 8 rfl
          dsimp only [List.eraseIdx] at H
          obtain rfl := Option.some.inj ho19199
          refine x_A fun a hf => ⟨(c19033.set (x19147.toNat * 256 + x19036.toNat) v19239), x19245, rfl, gl19247, hf.sub ⟨rfl, rfl, rfl, rfl, rfl, rfl, rfl, rfl, trivial⟩, H⟩
        ·rintro a wd19248 ⟨c19196, x19197, rfl, gl19198, hf, H⟩
         try dsimp only at hB19144
         refine XX.at hf <| x_block <| x_then <| R_nd <| nq (Q_add rfl rfl) rfl rfl <| nq (Q_move rfl) rfl rfl <| WL_nil ?_
         replace H := H.f7
         replace H := H.f7
         replace H := H.f7
         replace H := H.f7
         replace H := H.f7
         replace H := H.f7
         replace H := H.f7
         replace H := H.f7
         obtain rfl := Option.some.inj hB19144
         refine x_A fun a hf => ⟨_, rfl, c19196, x19197, w64 (x19036 + 1), rfl, gl19198, hf.sub ⟨rfl, rfl, rfl, rfl, rfl, rfl, rfl, rfl, trivial⟩, H⟩
       ·replace hB19144 := itF hb hB19144
        refine C_exit <| x_then_exit <| x_then_exit <| x_block_exit ?_
        replace H := H.f7
        replace H := H.f7
        replace H := H.f7
        replace H := H.f7
        replace H := H.f7
        replace H := H.f7
        replace H := H.f7
        replace H := H.f7
        obtain rfl := Option.some.inj hB19144
        obtain rfl := hO19145 _ rfl
        refine x_A fun a hf => ⟨c19033, x19034, rfl, gl19035, hf.sub ⟨rfl, rfl, rfl, rfl, rfl, rfl, trivial⟩, H⟩
     ·rintro a wd19249 ⟨c18923, x18924, rfl, gl18925, hf, H⟩
      try dsimp only at ho18590
      refine XX.at hf <| x_then <| C_seq <| R_nd <| nq (Q_move rfl) rfl rfl <| nq (Q_move rfl) rfl rfl <| nq (Q_nilP rfl) rfl rfl <| nq (v := .pointer (some ⟨b1, 0, none⟩)) (Q_fld Tryd.underlying107 rfl ty25 (by decide) rfl rfl) rfl rfl <| nq (v := .pointer (some ⟨b1, 1, none⟩)) (Q_fld Tryd.underlying25 rfl ty23 (by decide) rfl rfl) rfl rfl <| nq (v := v5) (Q_ldB (k := 0) (cs := [v5]) H.ok rfl ty23 rfl rfl rfl (fun _ => rfl) rfl) rfl rfl <| nq (Q_move rfl) rfl rfl ?_
      obtain ⟨x19250, hx19250, ho18590⟩ := bnd ho18590
      obtain ⟨b19251, o19252, c19253, hc19254, ha19255, hi19256⟩ := idxR r7 hx19250
      refine nq (Q_idx hi19256 Tryd.underlying23 ty3 rfl rfl) rfl rfl <| nq (v := .int .i64 x19250) (Q_ld (show cellsAt _ _ _ [.int .i64 x19250] from (show _ = [_] from hc19254) ▸ (ha19255.up H.ok.view)) ty3 rfl (fun _ => rfl) rfl rfl) rfl rfl <| nq (v := .tuple [.int .i64 ((mget x16187 x19250).getD 0), .bool ((mget x16187 x19250).isSome)].toArray) (Q_look (zp := 0) (k := 7) H.ok rfl Tryd.underlying108 (kOk_I Tryd.underlying3) trivial ty3 rfl rfl rfl) rfl rfl <| nq (Q_move rfl) rfl rfl <| nq (Q_extract rfl rfl) rfl rfl <| nq (Q_extract rfl rfl) rfl rfl <| nq (Q_assign rfl) rfl rfl <| nq (Q_assign rfl) rfl rfl <| WL_nil <| x_then <| C_seq <| C_seq <| R_nd <| nq (Q_move rfl) rfl rfl ?_
      refine nq (Q_not rfl) rfl rfl <| WL_nil <| x_then ?_
      obtain ⟨o19277, ho19277, ho18590⟩ := bnd ho18590
      refine C_cutQ (fun a w' => ∃ (v19272 : Value) (c19273 : (List Value)) (x19274 : (List (List Int))) (x19275 : (List (Int × Int))) (x19276 : Int), (x19274, x19275, x19276) = o19277 ∧ Fr 143 a [(0, .pointer (some ⟨b1, 0, none⟩)), (2, .map (some b9766)), (3, .int .i64 x16188), (7, .int .i64 x19276), (35, v2), (36, .int .i64 (x3.length : Int)), (37, .int .i64 x16188)] ∧ Hp C w' ρ (Box b1 [v2, v5, v8, (.slice (some ⟨b9756, 0, none⟩) (x3.length : Int).toNat (x3.length : Int).toNat), (.slice (some ⟨b9762, 0, none⟩) (x3.length : Int).toNat (x3.length : Int).toNat), v19272, v25] :: NA (eI .i64) 256 (.slice (some ⟨b9756, 0, none⟩) (x3.length : Int).toNat (x3.length : Int).toNat) c18923 x18924.flatten :: Arr (.slice (some ⟨b9762, 0, none⟩) (x3.length : Int).toNat (x3.length : Int).toNat) 1 c16181 :: NA (eI .i64) 1 v19272 c19273 x19274 :: Arr v25 2 c22 :: NA (eI .i64) 256 v11 c12 x13.flatten :: Arr v18 1 c15 :: Mp (kI .i64) (Value.int .i64) b9766 x19275 :: hs)) ?_ ?_
      ·refine C_cond rfl (fun hb => ?_) (fun hb => ?_)
       ·replace ho19277 := itT hb ho19277
        refine C_seq <| R_nd <| nq (Q_move rfl) rfl rfl <| nq (Q_nilP rfl) rfl rfl <| nq (v := .pointer (some ⟨b1, 5, none⟩)) (Q_fld Tryd.underlying107 rfl ty84 (by decide) rfl rfl) rfl rfl <| nq (v := v16184) (Q_ldB (k := 0) (cs := [v16184]) H.ok rfl ty84 rfl rfl rfl (fun _ => rfl) rfl) rfl rfl <| nq (v := .int .i64 (x16186.length : Int)) (na_len (k := 3) H.ok rfl (N := x16186.length) (Nat.mul_one _).symm (by decide) Tryd.underlying84 rfl) rfl rfl <| nq (Q_assign rfl) rfl rfl <| WL_nil <| x_then <| C_seq <| R_nd <| nq (Q_move rfl) rfl rfl <| nq (Q_move rfl) rfl rfl ?_
        refine nq (Q_nilP rfl) rfl rfl <| nq (v := .pointer (some ⟨b1, 0, none⟩)) (Q_fld Tryd.underlying107 rfl ty25 (by decide) rfl rfl) rfl rfl <| nq (v := .pointer (some ⟨b1, 1, none⟩)) (Q_fld Tryd.underlying25 rfl ty23 (by decide) rfl rfl) rfl rfl <| nq (v := v5) (Q_ldB (k := 0) (cs := [v5]) H.ok rfl ty23 rfl rfl rfl (fun _ => rfl) rfl) rfl rfl <| nq (Q_move rfl) rfl rfl ?_
        obtain ⟨x19278, hx19278, ho19277⟩ := bnd ho19277
        obtain ⟨b19279, o19280, c19281, hc19282, ha19283, hi19284⟩ := idxR r7 hx19278
        refine nq (Q_idx hi19284 Tryd.underlying23 ty3 rfl rfl) rfl rfl <| nq (v := .int .i64 x19278) (Q_ld (show cellsAt _ _ _ [.int .i64 x19278] from (show _ = [_] from hc19282) ▸ (ha19283.up H.ok.view)) ty3 rfl (fun _ => rfl) rfl rfl) rfl rfl <| nq (Q_move rfl) rfl rfl <| ne (E_mset (b := (x16186.length : Int)) (k := 7) H rfl Tryd.underlying108 (kOk_I Tryd.underlying3) trivial rfl rfl rfl) rfl rfl ?_
        rintro _ wd19285 H
        dsimp only [List.set] at H
        refine WL_nil <| x_then <| R_nd <| nq (Q_move rfl) rfl rfl <| nq (Q_move rfl) rfl rfl <| nq (Q_nilP rfl) rfl rfl <| nq (v := .pointer (some ⟨b1, 5, none⟩)) (Q_fld Tryd.underlying107 rfl ty84 (by decide) rfl rfl) rfl rfl <| nq (v := v16184) (Q_ldB (k := 0) (cs := [v16184]) H.ok rfl ty84 rfl rfl rfl (fun _ => rfl) rfl) rfl rfl ?_
        have H := H.nilArr 1
        have hl19287 := arr_len (en := (eI .i64)) (by decide) (H.ok.get (k := 0) rfl) (show rdL (eI .i64) ρ ([]) ([]) from rdL.nil)
        refine ne (E_bslice (xs := [.const (.slice none 0 0)]) (vs := [(.slice none 0 0)]) H Tryd.underlying84 ty23 (by decide) (cs := [(.slice none 0 0)]) rfl (sz_cons (by rw [(arr_cells (H.ok.get (k := 0) rfl)).1]; rfl) sz_nil) (fm1 (arr_cells (H.ok.get (k := 0) rfl)).1) (by simp) (by simp) rfl rfl) rfl rfl ?_
        rintro _ wd19288 ⟨b19286, rfl, H⟩
        replace H := Hp.njoin1 (flat_I _) H (show rdL (eI .i64) ρ ([]) ([]) from rdL.nil)
        obtain ⟨x19289, hx19289, ho19277⟩ := bnd ho19277
        replace H := H.f4
        refine ne (E_appN1 H Tryd.underlying84 ty23 rfl (by decide) rfl rfl hx19289) rfl rfl ?_
        rintro u19290 wd19291 H
        refine nq (Q_nilP rfl) rfl rfl <| nq (v := .pointer (some ⟨b1, 5, none⟩)) (Q_fld Tryd.underlying107 rfl ty84 (by decide) rfl rfl) rfl rfl <| ne (E_stB (k := 1) (cs := [u19290]) (vs' := [v2, v5, v8, (.slice (some ⟨b9756, 0, none⟩) (x3.length : Int).toNat (x3.length : Int).toNat), (.slice (some ⟨b9762, 0, none⟩) (x3.length : Int).toNat (x3.length : Int).toNat), u19290, v25]) H rfl ty84 rfl rfl (arr_cells (H.ok.get (k := 0) rfl).1).1 rfl (one_cons (arr_cells (H.ok.get (k := 0) rfl).1).2 one_nil) (by simp) rfl) rfl rfl ?_
        rintro _ wd19292 H
        dsimp only [List.set] at H
        refine WL_nil ?_
        replace H := H.f7
        replace H := H.f7
        replace H := H.f7
        replace H := H.f7
        replace H := H.f4
        replace H := H.f7
        replace H := H.f7
        replace H := H.f7
        obtain rfl := Option.some.inj ho19277
        refine x_A fun a hf => ⟨u19290, (c16185 ++ ([(.slice none 0 0)])), x19289, (mset x16187 x19278 (x16186.length : Int)), (x16186.length : Int), rfl, hf.sub ⟨rfl, rfl, rfl, rfl, rfl, rfl, rfl, trivial⟩, H⟩
       ·replace ho19277 := itF hb ho19277
        refine C_skip ?_
        replace H := H.f7
        replace H := H.f7
        replace H := H.f7
        replace H := H.f7
        replace H := H.f7
        replace H := H.f7
        replace H := H.f7
        replace H := H.f7
        obtain rfl := Option.some.inj ho19277
        refine x_A fun a hf => ⟨v16184, c16185, x16186, x16187, (mget x16187 x19250).getD 0, rfl, hf.sub ⟨rfl, rfl, rfl, rfl, rfl, rfl, rfl, trivial⟩, H⟩
      ·rintro a wd19293 ⟨v19272, c19273, x19274, x19275, x19276, rfl, hf, H⟩
       try dsimp only at ho18590
       refine XX.at hf <| x_then <| C_seq <| R_nd <| nq (Q_move rfl) rfl rfl <| nq (Q_nilP rfl) rfl rfl <| nq (v := .pointer (some ⟨b1, 4, none⟩)) (Q_fld Tryd.underlying107 rfl ty23 (by decide) rfl rfl) rfl rfl <| nq (v := (.slice (some ⟨b9762, 0, none⟩) (x3.length : Int).toNat (x3.length : Int).toNat)) (Q_ldB (k := 0) (cs := [(.slice (some ⟨b9762, 0, none⟩) (x3.length : Int).toNat (x3.length : Int).toNat)]) H.ok rfl ty23 rfl rfl rfl (fun _ => rfl) rfl) rfl rfl <| nq (Q_move rfl) rfl rfl <| nq (Q_move rfl) rfl rfl ?_
       obtain ⟨x19294, hx19294, ho18590⟩ := bnd ho18590
       obtain ⟨b19295, o19296, hi19300, hc19298, ha19299⟩ := arr_at (hs := [Arr (.slice (some ⟨b9762, 0, none⟩) (x3.length : Int).toNat (x3.length : Int).toNat) 1 c16181]) (k := 0) (by decide) (H.okS (by simp)) rfl r16183 hx19294
       refine nq (Q_idx hi19300 Tryd.underlying23 ty3 rfl rfl) rfl rfl ?_
       obtain ⟨x19301, hx19301, ho18590⟩ := bnd ho18590
       obtain ⟨hs19302a, hs19302b, hs19302c⟩ := setI_some hx19301
       have r19303 : rdL (eI .i64) ρ x19301 (setC c16181 (x16188.toNat * 1 + 0) [.int .i64 x19276]) := hs19302c ▸ rdL.set r16183 hs19302b (rfl)
       refine ne (E_stA (k := 2) (j := 0) (c := [.int .i64 x19276]) H rfl ty3 hi19300 rfl rfl rfl rfl (one_cons rfl one_nil) (by decide)) rfl rfl ?_
       rintro _ wd19304 H
       dsimp only [List.set] at H
       refine WL_nil <| x_then ?_
       obtain ⟨o19342, ho19342, ho18590⟩ := bnd ho18590
       refine C_cutQ (fun a w' => ∃ (c19340 : (List Value)) (x19341 : (List (List Int))), x19341 = o19342 ∧ Fr 143 a [(0, .pointer (some ⟨b1, 0, none⟩)), (2, .map (some b9766)), (35, v2), (36, .int .i64 (x3.length : Int)), (37, .int .i64 x16188)] ∧ Hp C w' ρ (Box b1 [v2, v5, v8, (.slice (some ⟨b9756, 0, none⟩) (x3.length : Int).toNat (x3.length : Int).toNat), (.slice (some ⟨b9762, 0, none⟩) (x3.length : Int).toNat (x3.length : Int).toNat), v19272, v25] :: NA (eI .i64) 256 (.slice (some ⟨b9756, 0, none⟩) (x3.length : Int).toNat (x3.length : Int).toNat) c18923 x18924.flatten :: Arr (.slice (some ⟨b9762, 0, none⟩) (x3.length : Int).toNat (x3.length : Int).toNat) 1 (setC c16181 (x16188.toNat * 1 + 0) [.int .i64 x19276]) :: NA (eI .i64) 1 v19272 c19340 x19341 :: Arr v25 2 c22 :: NA (eI .i64) 256 v11 c12 x13.flatten :: Arr v18 1 c15 :: Mp (kI .i64) (Value.int .i64) b9766 x19275 :: hs)) ?_ ?_
       ·refine R_dr (.take 0 (.take 1 (.take 2 (.take 3 (.take 4 (.take 5 (.take 6 (.take 7 (.take 8 (.take 9 (.take 10 (.take 12 (.two 11 13 (.one 13 (.one 14 (.take 15 (.one 16 .done)))) (.one 11 (.one 14 (.take 15 (.one 16 .done))))))))))))))))) (fun w' => Ok w' ρ [Box b1 [v2, v5, v8, (.slice (some ⟨b9756, 0, none⟩) (x3.length : Int).toNat (x3.length : Int).toNat), (.slice (some ⟨b9762, 0, none⟩) (x3.length : Int).toNat (x3.length : Int).toNat), v19272, v25], NA (eI .i64) 256 (.slice (some ⟨b9756, 0, none⟩) (x3.length : Int).toNat (x3.length : Int).toNat) c18923 x18924.flatten, Arr (.slice (some ⟨b9762, 0, none⟩) (x3.length : Int).toNat (x3.length : Int).toNat) 1 (setC c16181 (x16188.toNat * 1 + 0) [.int .i64 x19276]), Arr v25 2 c22, NA (eI .i64) 256 v11 c12 x13.flatten, Arr v18 1 c15, Mp (kI .i64) (Value.int .i64) b9766 x19275]) (by kernel_rfl) (by kernel_rfl) (by kernel_rfl) (H.drew.okS (by simp)) ?_
        replace H := H.drew
        refine dq rfl (fun _ _ => Q_move rfl) rfl rfl <| dq rfl (fun _ _ => Q_nilP rfl) rfl rfl <| dq (v := .pointer (some ⟨b1, 5, none⟩)) rfl (fun _ _ => Q_fld Tryd.underlying107 rfl ty84 (by decide) rfl rfl) rfl rfl <| dq (v := v19272) rfl (fun _ hw => Q_ldB (k := 0) (cs := [v19272]) hw rfl ty84 rfl rfl rfl (fun _ => rfl) rfl) rfl rfl <| dq rfl (fun _ _ => Q_move rfl) rfl rfl <| dq rfl (fun _ _ => Q_move rfl) rfl rfl <| dq rfl (fun _ _ => Q_nilP rfl) rfl rfl <| dq (v := .pointer (some ⟨b1, 5, none⟩)) rfl (fun _ _ => Q_fld Tryd.underlying107 rfl ty84 (by decide) rfl rfl) rfl rfl <| dq (v := v19272) rfl (fun _ hw => Q_ldB (k := 0) (cs := [v19272]) hw rfl ty84 rfl rfl rfl (fun _ => rfl) rfl) rfl rfl <| dq rfl (fun _ _ => Q_move rfl) rfl rfl ?_
        obtain ⟨x19343, hx19343, ho19342⟩ := bnd ho19342
        obtain ⟨b19344, o19345, u19347, hi19346, hu19348, ha19349, hl19350, hj19351⟩ := na_at1 (by decide) (H.okS (l := [NA (eI .i64) 1 v19272 c19273 x19274]) (by simp)) hx19343
        refine dq rfl (fun _ _ => Q_idx hi19346 Tryd.underlying84 ty23 rfl rfl) rfl rfl <| dq rfl (fun _ _ => Q_move rfl) rfl rfl ?_
        refine d2 ?_ ?_
        ·refine de rfl (Eff.quiet (v := u19347) (Q_ld (ha19349 _ (Ok.subS (by simp) H.ok)) ty23 rfl (fun _ => rfl) rfl rfl)) rfl rfl ?_
         rintro _ _ ⟨rfl, rfl⟩
         refine ⟨H.okS (by simp), ?_⟩
         refine d1 (de rfl (E_bslice (xs := [.tmp 126]) (vs := [.int .i64 x16188]) H Tryd.underlying23 ty3 (by decide) (cs := [.int .i64 x16188]) rfl (sz_cons rfl sz_nil) rfl (by simp) (by simp) rfl rfl) rfl rfl ?_)
         rintro _ wd19353 ⟨b19352, rfl, H⟩
         refine ⟨H.okS (by simp), ?_⟩
         replace H := H.f4
         obtain ⟨c19354, r19355, H⟩ := Hp.ntake H hu19348 hj19351
         obtain ⟨x19356, hx19356, ho19342⟩ := bnd ho19342
         obtain ⟨ha19357a, ha19357b⟩ := app_some hx19356
         have r19359 : rdL (eI .i64) ρ x19356 (c19354 ++ ([.int .i64 x16188])) := ha19357b ▸ rdL.app r19355 (show rdL (eI .i64) ρ ([x16188]) ([.int .i64 x16188]) from ⟨([.int .i64 x16188]), _, rfl, rfl, rdL.nil⟩)
         refine d1 (de rfl (E_append (k := 0) H rfl Tryd.underlying23 ty3 rfl (by decide) (by decide) rfl rfl (Src.ofArr (k := 2) H.ok rfl) (rdL.one (show rdL (eI .i64) ρ ([x16188]) ([.int .i64 x16188]) from ⟨([.int .i64 x16188]), _, rfl, rfl, rdL.nil⟩)) (app_fit r19355 (show rdL (eI .i64) ρ ([x16188]) ([.int .i64 x16188]) from ⟨([.int .i64 x16188]), _, rfl, rfl, rdL.nil⟩) ha19357a)) rfl rfl ?_)
         rintro v19358 wd19361 ⟨H, hc19360⟩
         dsimp only [List.set] at H
         refine ⟨H.okS (by simp), ?_⟩
         refine dq rfl (fun _ _ => Q_idx hi19346 Tryd.underlying84 ty23 rfl rfl) rfl rfl ?_
         replace H := H.f1
         replace H := H.f1
         have hl19362 := arr_len (en := (eI .i64)) (by decide) (H.ok.get (k := 0) rfl) r19359
         obtain ⟨x19363, hx19363, ho19342⟩ := bnd ho19342
         refine d1 (de rfl (E_stN1 (flat_I _) H ty23 hi19346 rfl rfl r19359 hx19363) rfl rfl ?_)
         rintro _ wd19364 H
         refine ⟨H.okS (by simp), ?_⟩
         refine DL_nil ?_
         replace H := H.f8
         replace H := H.f8
         replace H := H.f8
         replace H := H.f8
         replace H := H.f4
         replace H := H.f8
         replace H := H.f8
         replace H := H.f8
         replace H := H.drop 8 rfl
         dsimp only [List.eraseIdx] at H
         obtain rfl := Option.some.inj ho19342
         refine x_A fun a hf => ⟨(c19273.set x19276.toNat v19358), x19363, rfl, hf.sub ⟨rfl, rfl, rfl, rfl, rfl, trivial⟩, H⟩
        ·refine de rfl (E_bslice (xs := [.tmp 126]) (vs := [.int .i64 x16188]) H Tryd.underlying23 ty3 (by decide) (cs := [.int .i64 x16188]) rfl (sz_cons rfl sz_nil) rfl (by simp) (by simp) rfl rfl) rfl rfl ?_
         rintro _ wd19366 ⟨b19365, rfl, H⟩
         refine ⟨H.okS (by simp), ?_⟩
         refine d1 (de rfl (Eff.quiet (v := u19347) (Q_ld (ha19349 _ (Ok.subS (by simp) H.ok)) ty23 rfl (fun _ => rfl) rfl rfl)) rfl rfl ?_)
         rintro _ _ ⟨rfl, rfl⟩
         refine ⟨H.okS (by simp), ?_⟩
         replace H := H.f4
         obtain ⟨c19367, r19368, H⟩ := Hp.ntake H hu19348 hj19351
         obtain ⟨x19369, hx19369, ho19342⟩ := bnd ho19342
         obtain ⟨ha19370a, ha19370b⟩ := app_some hx19369
         have r19372 : rdL (eI .i64) ρ x19369 (c19367 ++ ([.int .i64 x16188])) := ha19370b ▸ rdL.app r19368 (show rdL (eI .i64) ρ ([x16188]) ([.int .i64 x16188]) from ⟨([.int .i64 x16188]), _, rfl, rfl, rdL.nil⟩)
         refine d1 (de rfl (E_append (k := 0) H rfl Tryd.underlying23 ty3 rfl (by decide) (by decide) rfl rfl (Src.ofArr (k := 2) H.ok rfl) (rdL.one (show rdL (eI .i64) ρ ([x16188]) ([.int .i64 x16188]) from ⟨([.int .i64 x16188]), _, rfl, rfl, rdL.nil⟩)) (app_fit r19368 (show rdL (eI .i64) ρ ([x16188]) ([.int .i64 x16188]) from ⟨([.int .i64 x16188]), _, rfl, rfl, rdL.nil⟩) ha19370a)) rfl rfl ?_)
         rintro v19371 wd19374 ⟨H, hc19373⟩
         dsimp only [List.set] at H
         refine ⟨H.okS (by simp), ?_⟩
         refine dq rfl (fun _ _ => Q_idx hi19346 Tryd.underlying84 ty23 rfl rfl) rfl rfl ?_
         replace H := H.f1
         replace H := H.f1
         have hl19375 := arr_len (en := (eI .i64)) (by decide) (H.ok.get (k := 0) rfl) r19372
         obtain ⟨x19376, hx19376, ho19342⟩ := bnd ho19342
         refine d1 (de rfl (E_stN1 (flat_I _) H ty23 hi19346 rfl rfl r19372 hx19376) rfl rfl ?_)
         rintro _ wd19377 H
         refine ⟨H.okS (by simp), ?_⟩
         refine DL_nil ?_
         replace H := H.f8
         replace H := H.f8
         replace H := H.f8
         replace H := H.f8
         replace H := H.f4
         replace H := H.f8
         replace H := H.f8
         replace H := H.f8
         replace H := H.drop 8 rfl
         dsimp only [List.eraseIdx] at H
         obtain rfl := Option.some.inj ho19342
         refine x_A fun a hf => ⟨(c19273.set x19276.toNat v19371), x19376, rfl, hf.sub ⟨rfl, rfl, rfl, rfl, rfl, trivial⟩, H⟩
       ·rintro a wd19378 ⟨c19340, x19341, rfl, hf, H⟩
        try dsimp only at ho18590
        refine XX.at hf <| x_block ?_
        replace H := H.f7
        replace H := H.f7
        replace H := H.f7
        replace H := H.f7
        replace H := H.f7
        replace H := H.f7
        replace H := H.f7
        replace H := H.f7
        obtain rfl := Option.some.inj ho18590
        refine x_A fun a hf => ⟨c18923, (setC c16181 (x16188.toNat * 1 + 0) [.int .i64 x19276]), v19272, c19340, x18924, x19301, x19341, x19275, rfl, gl18925, r19303, hf.sub ⟨rfl, rfl, rfl, rfl, rfl, trivial⟩, H⟩
    ·rintro a wd19379 ⟨c18580, c18583, v18586, c18587, x18581, x18584, x18588, x18589, rfl, gl18582, r18585, hf, H⟩
     try dsimp only at hB17789
     refine CW.at hf <| R_nd <| nq (Q_add rfl rfl) rfl rfl <| nq (Q_move rfl) rfl rfl <| WL_nil ?_
     replace H := H.f7
     replace H := H.f7
     replace H := H.f7
     replace H := H.f7
     replace H := H.f7
     replace H := H.f7
     replace H := H.f7
     replace H := H.f7
     obtain rfl := Option.some.inj hB17789
     refine x_A fun a hf => ⟨_, rfl, c18580, c18583, v18586, c18587, x18581, x18584, x18588, x18589, w64 (x16188 + 1), rfl, gl18582, r18585, hf.sub ⟨rfl, rfl, rfl, rfl, rfl, trivial⟩, H⟩
   ·replace hB17789 := itF hb hB17789
    refine C_exit <| x_then_exit <| x_then_exit <| x_block_exit ?_
    replace H := H.f6
    replace H := H.f6
    replace H := H.f6
    replace H := H.f6
    replace H := H.f6
    replace H := H.f6
    replace H := H.f6
    replace H := H.drop 7 rfl
    dsimp only [List.eraseIdx] at H
    obtain rfl := Option.some.inj hB17789
    obtain rfl := hO17790 _ rfl
    refine x_A fun a hf => ⟨c16178, c16181, v16184, c16185, x16179, x16182, x16186, rfl, gl16180, r16183, hf.sub ⟨rfl, trivial⟩, H⟩
 ·rintro a wd19380 ⟨c14569, c14572, v14575, c14576, x14570, x14573, x14577, rfl, gl14571, r14574, hf, H⟩
  try dsimp only at hF
  refine XX.at hf <| x_then <| C_seq <| R_nd <| nq (Q_move rfl) rfl rfl <| nq (Q_nilP rfl) rfl rfl <| nq (v := .pointer (some ⟨b1, 5, none⟩)) (Q_fld Tryd.underlying107 rfl ty84 (by decide) rfl rfl) rfl rfl <| nq (v := v14575) (Q_ldB (k := 0) (cs := [v14575]) H.ok rfl ty84 rfl rfl rfl (fun _ => rfl) rfl) rfl rfl <| nq (v := .int .i64 (x14577.length : Int)) (na_len (k := 3) H.ok rfl (N := x14577.length) (Nat.mul_one _).symm (by decide) Tryd.underlying84 rfl) rfl rfl <| nq (Q_move rfl) rfl rfl <| WL_nil <| x_then ?_
  obtain ⟨o19425, ho19425, hF⟩ := bnd hF
  refine C_cutQ (fun a w' => ∃ (v19421 : Value) (c19422 : (List Value)) (x19423 : (List (Int × Int))), x19423 = o19425 ∧ rdL (eP (eI .i64) (eI .u8)) ρ x19423 c19422 ∧ Fr 143 a [] ∧ Hp C w' ρ (Box b1 [v2, v5, v8, (.slice (some ⟨b9756, 0, none⟩) (x3.length : Int).toNat (x3.length : Int).toNat), (.slice (some ⟨b9762, 0, none⟩) (x3.length : Int).toNat (x3.length : Int).toNat), v14575, v19421] :: NA (eI .i64) 256 (.slice (some ⟨b9756, 0, none⟩) (x3.length : Int).toNat (x3.length : Int).toNat) c14569 x14570.flatten :: Arr (.slice (some ⟨b9762, 0, none⟩) (x3.length : Int).toNat (x3.length : Int).toNat) 1 c14572 :: NA (eI .i64) 1 v14575 c14576 x14577 :: Arr v19421 2 c19422 :: NA (eI .i64) 256 v11 c12 x13.flatten :: Arr v18 1 c15 :: hs)) ?_ ?_
  ·refine C_block ?_
   replace H := H.f6
   replace H := H.f6
   replace H := H.f6
   replace H := H.f6
   replace H := H.f6
   replace H := H.f6
   replace H := H.f6
   refine C_iter (f := fun s => F_hopcroft_splitter_begin_l2 N x3 x6 x9 x14570 x14573 x14577 s.1 s.2) ho19425 (fun s a w' => ∃ (v19438 : Value) (c19439 : (List Value)) (x19440 : (List (Int × Int))) (x19442 : Int), (x19440, x19442) = s ∧ rdL (eP (eI .i64) (eI .u8)) ρ x19440 c19439 ∧ Fr 143 a [(0, .pointer (some ⟨b1, 0, none⟩)), (135, .int .i64 (x14577.length : Int)), (136, .int .i64 x19442)] ∧ Hp C w' ρ (Box b1 [v2, v5, v8, (.slice (some ⟨b9756, 0, none⟩) (x3.length : Int).toNat (x3.length : Int).toNat), (.slice (some ⟨b9762, 0, none⟩) (x3.length : Int).toNat (x3.length : Int).toNat), v14575, v19438] :: NA (eI .i64) 256 (.slice (some ⟨b9756, 0, none⟩) (x3.length : Int).toNat (x3.length : Int).toNat) c14569 x14570.flatten :: Arr (.slice (some ⟨b9762, 0, none⟩) (x3.length : Int).toNat (x3.length : Int).toNat) 1 c14572 :: NA (eI .i64) 1 v14575 c14576 x14577 :: Arr v19438 2 c19439 :: NA (eI .i64) 256 v11 c12 x13.flatten :: Arr v18 1 c15 :: hs)) ?_ ?_
   ·exact fun a hf => ⟨v25, c22, x23, 0, rfl, r24, hf.sub ⟨rfl, rfl, rfl, trivial⟩, H⟩
   ·rintro s o19455 a wd19458 ⟨v19438, c19439, x19440, x19442, rfl, r19441, hf, H⟩ hB19456 hO19457
    replace hB19456 : F_hopcroft_splitter_begin_l2 N x3 x6 x9 x14570 x14573 x14577 x19440 x19442 = some o19455 := hB19456
    unfold F_hopcroft_splitter_begin_l2 at hB19456
    refine CW.at hf <| C_seq <| R_nd <| nq (Q_lss rfl rfl) rfl rfl <| WL_nil <| x_then <| C_seq ?_
    refine C_cond rfl (fun hb => ?_) (fun hb => ?_)
    ·replace hB19456 := itT hb hB19456
     refine C_skip <| x_then <| C_seq <| C_block <| C_seq <| R_nd <| nq (Q_move rfl) rfl rfl <| nq (Q_assign rfl) rfl rfl <| WL_nil <| x_then <| R_nd <| nq (Q_move rfl) rfl rfl <| nq (Q_move rfl) rfl rfl ?_
     replace H := H.f4
     replace H := H.f4
     replace H := H.f4
     replace H := H.f4
     replace H := H.f4
     obtain ⟨q19459, hq19459, hB19456⟩ := bnd hB19456
     refine ne (E_call fn90 rfl (c_90 H  r4 r7 r10 gl14571 r14574 r19441 hq19459)) rfl rfl ?_
     rintro _ wd19465 ⟨v19461, c19462, x19463, rfl, rfl, r19464, H⟩
     try dsimp only at hB19456
     refine WL_nil <| x_block <| x_then <| R_nd <| nq (Q_add rfl rfl) rfl rfl <| nq (Q_move rfl) rfl rfl <| WL_nil ?_
     replace H := H.f6
     replace H := H.f6
     replace H := H.f6
     replace H := H.f6
     replace H := H.f6
     replace H := H.f6
     replace H := H.f6
     obtain rfl := Option.some.inj hB19456
     refine x_A fun a hf => ⟨_, rfl, v19461, c19462, x19463, w64 (x19442 + 1), rfl, r19464, hf.sub ⟨rfl, rfl, rfl, trivial⟩, H⟩
    ·replace hB19456 := itF hb hB19456
     refine C_exit <| x_then_exit <| x_then_exit <| x_block_exit ?_
     replace H := H.f6
     replace H := H.f6
     replace H := H.f6
     replace H := H.f6
     replace H := H.f6
     replace H := H.f6
     replace H := H.f6
     obtain rfl := Option.some.inj hB19456
     obtain rfl := hO19457 _ rfl
     refine x_A fun a hf => ⟨v19438, c19439, x19440, rfl, r19441, hf.sub trivial, H⟩
  ·rintro a wd19466 ⟨v19421, c19422, x19423, rfl, r19424, hf, H⟩
   try dsimp only at hF
   refine XX.at hf ?_
   replace H := H.f2
   replace H := H.f2
   replace H := H.f4
   replace H := H.f4
   replace H := H.f6
   replace H := H.f6
   replace H := H.f6
   obtain rfl := Option.some.inj hF
   exact fn_end (l := []) (vs := []) rfl rfl rfl ⟨(.slice (some ⟨b9756, 0, none⟩) (x3.length : Int).toNat (x3.length : Int).toNat), c14569, (.slice (some ⟨b9762, 0, none⟩) (x3.length : Int).toNat (x3.length : Int).toNat), c14572, v14575, c14576, v19421, c19422, x14570, x14573, x14577, x19423, rfl, rfl, gl14571, r14574, r19424, H⟩
theorem c_93 {N : Nat} {C : Cx} {w : World} {ρ : View} {hs : List Hl} {v1 : Value} {x2 : (List Int)} {x4 : Int} (H : Hp C w ρ (hs)) (r3 : RdSl ρ (eI .i64) v1 x2) {r : Int} (hF : F_slices_Index_int_int N x2 x4 = some r) :
  Calls Tryd.prog 93 [v1, .int .i64 x4].toArray w (Rets (fun v w' => (∃ (x63 : Int), x63 = r ∧ .int .i64 x63 = v ∧ Hp C w' ρ (hs)))) := by
 unfold F_slices_Index_int_int at hF
 have h0 : Tryd.f93.body = some _ := rfl
 refine fn_calls' Tryd.func93 h0 (n := 19) rfl (by simp) <| C_seq <| R_nd <| nq (Q_assign rfl) rfl rfl <| WL_nil <| x_then <| C_seq <| C_seq <| R_nd <| nq (Q_move rfl) rfl rfl <| nq (Q_len Tryd.underlying23 rfl r3) rfl rfl <| nq (Q_move rfl) rfl rfl <| WL_nil <| x_then ?_
 obtain ⟨o92, ho92, hF⟩ := bnd hF
 refine C_cutQ (fun a w' => .inl () = o92 ∧ Fr 19 a [] ∧ Hp C w' ρ (hs)) ?_ ?_
 ·refine C_block ?_
  refine C_iter (f := fun s => F_slices_Index_int_int_l0 N x2 x4 s) ho92 (fun s a w' => ∃ (x101 : Int), x101 = s ∧ Fr 19 a [(0, v1), (1, .int .i64 x4), (7, .int .i64 (x2.length : Int)), (8, .int .i64 x101)] ∧ Hp C w' ρ (hs)) ?_ ?_
  ·exact fun a hf => ⟨0, rfl, hf.sub ⟨rfl, rfl, rfl, rfl, trivial⟩, H⟩
  ·rintro s o110 a wd113 ⟨x101, rfl, hf, H⟩ hB111 hO112
   replace hB111 : F_slices_Index_int_int_l0 N x2 x4 x101 = some o110 := hB111
   unfold F_slices_Index_int_int_l0 at hB111
   refine CW.at hf <| C_seq <| R_nd <| nq (Q_lss rfl rfl) rfl rfl <| WL_nil <| x_then <| C_seq ?_
   refine C_cond rfl (fun hb => ?_) (fun hb => ?_)
   ·replace hB111 := itT hb hB111
    refine C_skip <| x_then <| C_seq <| C_block <| C_seq <| R_nd <| nq (Q_move rfl) rfl rfl <| nq (Q_assign rfl) rfl rfl <| WL_nil <| x_then <| C_seq <| R_nd <| nq (Q_move rfl) rfl rfl <| nq (Q_move rfl) rfl rfl ?_
    refine nq (Q_move rfl) rfl rfl ?_
    obtain ⟨x114, hx114, hB111⟩ := bnd hB111
    obtain ⟨b115, o116, c117, hc118, ha119, hi120⟩ := idxR r3 hx114
    refine nq (Q_idx hi120 Tryd.underlying23 ty3 rfl rfl) rfl rfl <| nq (v := .int .i64 x114) (Q_ld (show cellsAt _ _ _ [.int .i64 x114] from (show _ = [_] from hc118) ▸ (ha119.up H.ok.view)) ty3 rfl (fun _ => rfl) rfl rfl) rfl rfl <| nq (Q_eql rfl rfl) rfl rfl <| WL_nil <| x_then ?_
    refine C_cond rfl (fun hb => ?_) (fun hb => ?_)
    ·replace hB111 := itT hb hB111
     refine C_seq <| R_nd <| nq (Q_move rfl) rfl rfl <| nq (Q_assign rfl) rfl rfl <| WL_nil <| x_then <| C_ret <| x_block_ret <| x_then_ret <| x_then_ret <| x_block_ret <| x_then_ret <| x_then_ret ?_
     obtain rfl := Option.some.inj hB111
     obtain rfl := hO112 _ rfl
     obtain rfl := Option.some.inj (show some _ = some _ from hF)
     exact fn_ret (l := [.tmp 4]) (vs := [.int .i64 x101]) rfl rfl rfl ⟨x101, rfl, rfl, H⟩
    ·replace hB111 := itF hb hB111
     refine C_skip <| x_block <| x_then <| R_nd <| nq (Q_add rfl rfl) rfl rfl <| nq (Q_move rfl) rfl rfl <| WL_nil ?_
     obtain rfl := Option.some.inj hB111
     refine x_A fun a hf => ⟨_, rfl, w64 (x101 + 1), rfl, hf.sub ⟨rfl, rfl, rfl, rfl, trivial⟩, H⟩
   ·replace hB111 := itF hb hB111
    refine C_exit <| x_then_exit <| x_then_exit <| x_block_exit ?_
    obtain rfl := Option.some.inj hB111
    obtain rfl := hO112 _ rfl
    refine x_A fun a hf => ⟨rfl, hf.sub trivial, H⟩
 ·rintro a wd121 ⟨rfl, hf, H⟩
  try dsimp only at hF
  refine XX.at hf <| x_then <| C_seq <| R_nd <| nq (Q_assign rfl) rfl rfl <| WL_nil <| x_then <| C_ret ?_
  obtain rfl := Option.some.inj hF
  exact fn_ret (l := [.tmp 4]) (vs := [.int .i64 (-1)]) rfl rfl rfl ⟨(-1), rfl, rfl, H⟩
theorem c_91 {N : Nat} {C : Cx} {w : World} {ρ : View} {hs : List Hl} {v1 : Value} {x2 : (List Int)} {x4 : Int} (H : Hp C w ρ (hs)) (r3 : RdSl ρ (eI .i64) v1 x2) {r : Bool} (hF : F_slices_Contains_int_int N x2 x4 = some r) :
  Calls Tryd.prog 91 [v1, .int .i64 x4].toArray w (Rets (fun v w' => (∃ (x9 : Bool), x9 = r ∧ .bool x9 = v ∧ Hp C w' ρ (hs)))) := by
 unfold F_slices_Contains_int_int at hF
 have h0 : Tryd.f91.body = some _ := rfl
 refine fn_calls' Tryd.func91 h0 (n := 9) rfl (by simp) <| C_seq <| R_nd <| nq (Q_assign rfl) rfl rfl <| WL_nil <| x_then <| C_seq <| R_nd <| nq (Q_move rfl) rfl rfl <| nq (Q_move rfl) rfl rfl ?_
 obtain ⟨q10, hq10, hF⟩ := bnd hF
 refine ne (E_call fn93 rfl (c_93 H  r3 hq10)) rfl rfl ?_
 rintro _ wd13 ⟨x12, rfl, rfl, H⟩
 try dsimp only at hF
 refine nq (Q_geq rfl rfl) rfl rfl <| nq (Q_assign rfl) rfl rfl <| WL_nil <| x_then <| C_ret ?_
 obtain rfl := Option.some.inj hF
 exact fn_ret (l := [.tmp 4]) (vs := [.bool (decide (x12 ≥ 0))]) rfl rfl rfl ⟨decide (x12 ≥ 0), rfl, rfl, H⟩
theorem c_92 {N : Nat} {C : Cx} {w : World} {ρ : View} {hs : List Hl} {b1 : Nat} {v2 : Value} {v5 : Value} {v8 : Value} {v11 : Value} {c12 : List Value} {c15 : List Value} {v18 : Value} {v19 : Value} {c20 : List Value} {c22 : List Value} {v25 : Value} {v27 : Value} {x3 : (List (List Int))} {x6 : (List Int)} {x9 : (List Int)} {x13 : (List (List (List Int)))} {x16 : (List Int)} {x21 : (List (List Int))} {x23 : (List (Int × Int))} {x26 : Int} {x28 : (List Int)} (H : Hp C w ρ (Box b1 [v2, v5, v8, v11, v18, v19, v25] :: NA (eI .i64) 256 v11 c12 x13.flatten :: Arr v18 1 c15 :: NA (eI .i64) 1 v19 c20 x21 :: Arr v25 2 c22 :: hs)) (r4 : RdSl ρ (eA 256 (eI .i64)) v2 x3) (r7 : RdSl ρ (eI .i64) v5 x6) (r10 : RdSl ρ (eI .i64) v8 x9) (gl14 : ∀ a ∈ x13, a.length = 256) (r17 : rdL (eI .i64) ρ x16 c15) (r24 : rdL (eP (eI .i64) (eI .u8)) ρ x23 c22) (r29 : RdSl ρ (eI .i64) v27 x28) {r : ((List Int) × (List (List Int)) × (List (Int × Int)))} (hF : F_hopcroft_splitter_split N x3 x6 x9 x13 x16 x21 x23 x26 x28 = some r) :
  Calls Tryd.prog 92 [.pointer (some ⟨b1, 0, none⟩), .int .i64 x26, v27].toArray w (Rets (fun v w' => (∃ (c957 : (List Value)) (v960 : Value) (c961 : (List Value)) (v963 : Value) (c964 : (List Value)) (x958 : (List Int)) (x962 : (List (List Int))) (x965 : (List (Int × Int))), (x958, x962, x965) = r ∧ .tuple [].toArray = v ∧ rdL (eI .i64) ρ x958 c957 ∧ rdL (eP (eI .i64) (eI .u8)) ρ x965 c964 ∧ Hp C w' ρ (Box b1 [v2, v5, v8, v11, v18, v960, v963] :: NA (eI .i64) 256 v11 c12 x13.flatten :: Arr v18 1 c957 :: NA (eI .i64) 1 v960 c961 x962 :: Arr v963 2 c964 :: hs)))) := by
 unfold F_hopcroft_splitter_split at hF
 have h0 : Tryd.f92.body = some _ := rfl
 refine fn_calls' Tryd.func92 h0 (n := 91) rfl (by simp) <| C_seq <| R_nd <| nq (Q_assign rfl) rfl rfl <| nq (Q_assign rfl) rfl rfl <| WL_nil <| x_then <| C_seq <| C_seq <| R_nd <| nq (Q_move rfl) rfl rfl <| nq (Q_nilP rfl) rfl rfl <| nq (v := .pointer (some ⟨b1, 5, none⟩)) (Q_fld Tryd.underlying107 rfl ty84 (by decide) rfl rfl) rfl rfl <| nq (v := v19) (Q_ldB (k := 0) (cs := [v19]) H.ok rfl ty84 rfl rfl rfl (fun _ => rfl) rfl) rfl rfl ?_
 refine nq (Q_move rfl) rfl rfl ?_
 obtain ⟨x967, hx967, hF⟩ := bnd hF
 obtain ⟨b968, o969, u971, hi970, hu972, ha973, hl974, hj975⟩ := na_at1 (by decide) (H.okS (l := [NA (eI .i64) 1 v19 c20 x21]) (by simp)) hx967
 refine nq (Q_idx hi970 Tryd.underlying84 ty23 rfl rfl) rfl rfl <| nq (v := u971) (Q_ld (ha973 _ (Ok.subS (by simp) H.ok)) ty23 rfl (fun _ => rfl) rfl rfl) rfl rfl <| nq (v := .int .i64 (x967.length : Int)) (Q_lenI hl974 Tryd.underlying23 rfl) rfl rfl <| nq (Q_move rfl) rfl rfl <| WL_nil <| x_then ?_
 obtain ⟨o1351, ho1351, hF⟩ := bnd hF
 refine C_cutQ (fun a w' => ∃ (v1343 : Value) (c1344 : (List Value)) (v1347 : Value) (c1348 : (List Value)) (x1345 : (List Int)) (x1349 : (List Int)), (x1345, x1349) = o1351 ∧ rdL (eI .i64) ρ x1345 c1344 ∧ rdL (eI .i64) ρ x1349 c1348 ∧ Fr 91 a [(0, .pointer (some ⟨b1, 0, none⟩)), (1, .int .i64 x26), (6, v1343), (7, v1347)] ∧ Hp C w' ρ (Box b1 [v2, v5, v8, v11, v18, v19, v25] :: NA (eI .i64) 256 v11 c12 x13.flatten :: Arr v18 1 c15 :: NA (eI .i64) 1 v19 c20 x21 :: Arr v25 2 c22 :: Arr v1343 1 c1344 :: Arr v1347 1 c1348 :: hs)) ?_ ?_
 ·refine C_block ?_
  have H := H.nilArr 1
  have H := H.nilArr 1
  replace H := H.f1
  replace H := H.f6
  replace H := H.f6
  replace H := H.f6
  replace H := H.f6
  replace H := H.f6
  refine C_iter (f := fun s => F_hopcroft_splitter_split_l0 N x28 x967 s.1 s.2.1 s.2.2) ho1351 (fun s a w' => ∃ (v1474 : Value) (c1475 : (List Value)) (v1478 : Value) (c1479 : (List Value)) (x1473 : Int) (x1476 : (List Int)) (x1480 : (List Int)), (x1473, x1476, x1480) = s ∧ rdL (eI .i64) ρ x1476 c1475 ∧ rdL (eI .i64) ρ x1480 c1479 ∧ Fr 91 a [(0, .pointer (some ⟨b1, 0, none⟩)), (1, .int .i64 x26), (2, v27), (6, v1474), (7, v1478), (19, u971), (20, .int .i64 (x967.length : Int)), (21, .int .i64 x1473)] ∧ Hp C w' ρ (Box b1 [v2, v5, v8, v11, v18, v19, v25] :: NA (eI .i64) 256 v11 c12 x13.flatten :: Arr v18 1 c15 :: NA (eI .i64) 1 v19 c20 x21 :: Arr v25 2 c22 :: Arr v1474 1 c1475 :: Arr v1478 1 c1479 :: hs)) ?_ ?_
  ·exact fun a hf => ⟨(.slice none 0 0), [], (.slice none 0 0), [], 0, [], [], rfl, rdL.nil, rdL.nil, hf.sub ⟨rfl, rfl, rfl, rfl, rfl, rfl, rfl, rfl, trivial⟩, H⟩
  ·rintro s o1603 a wd1606 ⟨v1474, c1475, v1478, c1479, x1473, x1476, x1480, rfl, r1477, r1481, hf, H⟩ hB1604 hO1605
   replace hB1604 : F_hopcroft_splitter_split_l0 N x28 x967 x1473 x1476 x1480 = some o1603 := hB1604
   unfold F_hopcroft_splitter_split_l0 at hB1604
   refine CW.at hf <| C_seq <| R_nd <| nq (Q_lss rfl rfl) rfl rfl <| WL_nil <| x_then <| C_seq ?_
   refine C_cond rfl (fun hb => ?_) (fun hb => ?_)
   ·replace hB1604 := itT hb hB1604
    refine C_skip <| x_then ?_
    obtain ⟨o1666, ho1666, hB1604⟩ := bnd hB1604
    refine C_cut (fun a w' => ∃ (v1658 : Value) (c1659 : (List Value)) (v1662 : Value) (c1663 : (List Value)) (x1660 : (List Int)) (x1664 : (List Int)), (x1660, x1664) = o1666 ∧ rdL (eI .i64) ρ x1660 c1659 ∧ rdL (eI .i64) ρ x1664 c1663 ∧ Fr 91 a [(0, .pointer (some ⟨b1, 0, none⟩)), (1, .int .i64 x26), (2, v27), (6, v1658), (7, v1662), (19, u971), (20, .int .i64 (x967.length : Int)), (21, .int .i64 x1473)] ∧ Hp C w' ρ (Box b1 [v2, v5, v8, v11, v18, v19, v25] :: NA (eI .i64) 256 v11 c12 x13.flatten :: Arr v18 1 c15 :: NA (eI .i64) 1 v19 c20 x21 :: Arr v25 2 c22 :: Arr v1658 1 c1659 :: Arr v1662 1 c1663 :: hs)) ?_ ?_
    ·refine C_block <| C_seq <| R_nd ?_
     obtain ⟨x1667, hx1667, ho1666⟩ := bnd ho1666
     obtain ⟨b1668, o1669, hi1670, ha1671⟩ := inn_at (by decide) (H.okS (l := [NA (eI .i64) 1 v19 c20 x21]) (by simp)) hu972 hj975 hx1667
     refine nq (Q_idx hi1670 Tryd.underlying23 ty3 rfl rfl) rfl rfl <| nq (v := .int .i64 x1667) (Q_ld (show cellsAt _ _ _ [.int .i64 x1667] from match ha1671 _ (Ok.subS (by simp) H.ok) with | ⟨_, rfl, h⟩ => h) ty3 rfl (fun _ => rfl) rfl rfl) rfl rfl <| nq (Q_assign rfl) rfl rfl <| WL_nil <| x_then <| C_seq <| R_nd <| nq (Q_move rfl) rfl rfl <| nq (Q_move rfl) rfl rfl ?_
     obtain ⟨q1672, hq1672, ho1666⟩ := bnd ho1666
     refine ne (E_call fn91 rfl (c_91 H  r29 hq1672)) rfl rfl ?_
     rintro _ wd1675 ⟨x1674, rfl, rfl, H⟩
     try dsimp only at ho1666
     refine WL_nil <| x_then ?_
     obtain ⟨o1700, ho1700, ho1666⟩ := bnd ho1666
     refine C_cutQ (fun a w' => ∃ (v1692 : Value) (c1693 : (List Value)) (v1696 : Value) (c1697 : (List Value)) (x1694 : (List Int)) (x1698 : (List Int)), (x1694, x1698) = o1700 ∧ rdL (eI .i64) ρ x1694 c1693 ∧ rdL (eI .i64) ρ x1698 c1697 ∧ Fr 91 a [(0, .pointer (some ⟨b1, 0, none⟩)), (1, .int .i64 x26), (2, v27), (6, v1692), (7, v1696), (19, u971), (20, .int .i64 (x967.length : Int)), (21, .int .i64 x1473)] ∧ Hp C w' ρ (Box b1 [v2, v5, v8, v11, v18, v19, v25] :: NA (eI .i64) 256 v11 c12 x13.flatten :: Arr v18 1 c15 :: NA (eI .i64) 1 v19 c20 x21 :: Arr v25 2 c22 :: Arr v1692 1 c1693 :: Arr v1696 1 c1697 :: hs)) ?_ ?_
     ·refine C_cond rfl (fun hb => ?_) (fun hb => ?_)
      ·replace ho1700 := itT hb ho1700
       refine R_nd <| nq (Q_move rfl) rfl rfl <| nq (Q_move rfl) rfl rfl <| ne (E_bslice (xs := [.tmp 29]) (vs := [.int .i64 x1667]) H Tryd.underlying23 ty3 (by decide) (cs := [.int .i64 x1667]) rfl (sz_cons rfl sz_nil) rfl (by simp) (by simp) rfl rfl) rfl rfl ?_
       rintro _ wd1702 ⟨b1701, rfl, H⟩
       obtain ⟨x1703, hx1703, ho1700⟩ := bnd ho1700
       obtain ⟨ha1704a, ha1704b⟩ := app_some hx1703
       have r1706 : rdL (eI .i64) ρ x1703 (c1475 ++ ([.int .i64 x1667])) := ha1704b ▸ rdL.app r1477 (show rdL (eI .i64) ρ ([x1667]) ([.int .i64 x1667]) from ⟨([.int .i64 x1667]), _, rfl, rfl, rdL.nil⟩)
       refine ne (E_append (k := 6) H rfl Tryd.underlying23 ty3 rfl (by decide) (by decide) rfl rfl (Src.ofArr (k := 0) H.ok rfl) (rdL.one (show rdL (eI .i64) ρ ([x1667]) ([.int .i64 x1667]) from ⟨([.int .i64 x1667]), _, rfl, rfl, rdL.nil⟩)) (app_fit r1477 (show rdL (eI .i64) ρ ([x1667]) ([.int .i64 x1667]) from ⟨([.int .i64 x1667]), _, rfl, rfl, rdL.nil⟩) ha1704a)) rfl rfl ?_
       rintro v1705 wd1708 ⟨H, hc1707⟩
       dsimp only [List.set] at H
       refine nq (Q_assign rfl) rfl rfl <| WL_nil ?_
       replace H := H.f7
       replace H := H.f7
       replace H := H.f7
       replace H := H.f7
       replace H := H.f7
       replace H := H.f7
       replace H := H.f7
       replace H := H.drop 7 rfl
       dsimp only [List.eraseIdx] at H
       obtain rfl := Option.some.inj ho1700
       refine x_A fun a hf => ⟨v1705, (c1475 ++ ([.int .i64 x1667])), v1478, c1479, x1703, x1480, rfl, r1706, r1481, hf.sub ⟨rfl, rfl, rfl, rfl, rfl, rfl, rfl, rfl, trivial⟩, H⟩
      ·replace ho1700 := itF hb ho1700
       refine R_nd <| nq (Q_move rfl) rfl rfl <| nq (Q_move rfl) rfl rfl <| ne (E_bslice (xs := [.tmp 33]) (vs := [.int .i64 x1667]) H Tryd.underlying23 ty3 (by decide) (cs := [.int .i64 x1667]) rfl (sz_cons rfl sz_nil) rfl (by simp) (by simp) rfl rfl) rfl rfl ?_
       rintro _ wd1710 ⟨b1709, rfl, H⟩
       obtain ⟨x1711, hx1711, ho1700⟩ := bnd ho1700
       obtain ⟨ha1712a, ha1712b⟩ := app_some hx1711
       have r1714 : rdL (eI .i64) ρ x1711 (c1479 ++ ([.int .i64 x1667])) := ha1712b ▸ rdL.app r1481 (show rdL (eI .i64) ρ ([x1667]) ([.int .i64 x1667]) from ⟨([.int .i64 x1667]), _, rfl, rfl, rdL.nil⟩)
       refine ne (E_append (k := 7) H rfl Tryd.underlying23 ty3 rfl (by decide) (by decide) rfl rfl (Src.ofArr (k := 0) H.ok rfl) (rdL.one (show rdL (eI .i64) ρ ([x1667]) ([.int .i64 x1667]) from ⟨([.int .i64 x1667]), _, rfl, rfl, rdL.nil⟩)) (app_fit r1481 (show rdL (eI .i64) ρ ([x1667]) ([.int .i64 x1667]) from ⟨([.int .i64 x1667]), _, rfl, rfl, rdL.nil⟩) ha1712a)) rfl rfl ?_
       rintro v1713 wd1716 ⟨H, hc1715⟩
       dsimp only [List.set] at H
       refine nq (Q_assign rfl) rfl rfl <| WL_nil ?_
       replace H := H.f7
       replace H := H.f7
       replace H := H.f7
       replace H := H.f7
       replace H := H.f7
       replace H := H.f7
       replace H := H.f7
       replace H := H.drop 7 rfl
       dsimp only [List.eraseIdx] at H
       obtain rfl := Option.some.inj ho1700
       refine x_A fun a hf => ⟨v1474, c1475, v1713, (c1479 ++ ([.int .i64 x1667])), x1476, x1711, rfl, r1477, r1714, hf.sub ⟨rfl, rfl, rfl, rfl, rfl, rfl, rfl, rfl, trivial⟩, H⟩
     ·rintro a wd1717 ⟨v1692, c1693, v1696, c1697, x1694, x1698, rfl, r1695, r1699, hf, H⟩
      try dsimp only at ho1666
      refine XX.at hf <| x_block ?_
      replace H := H.f6
      replace H := H.f6
      replace H := H.f6
      replace H := H.f6
      replace H := H.f6
      replace H := H.f6
      replace H := H.f6
      obtain rfl := Option.some.inj ho1666
      refine x_A fun a hf => ⟨v1692, c1693, v1696, c1697, x1694, x1698, rfl, r1695, r1699, hf.sub ⟨rfl, rfl, rfl, rfl, rfl, rfl, rfl, rfl, trivial⟩, H⟩
    ·rintro a wd1718 ⟨v1658, c1659, v1662, c1663, x1660, x1664, rfl, r1661, r1665, hf, H⟩
     try dsimp only at hB1604
     refine CW.at hf <| R_nd <| nq (Q_add rfl rfl) rfl rfl <| nq (Q_move rfl) rfl rfl <| WL_nil ?_
     replace H := H.f6
     replace H := H.f6
     replace H := H.f6
     replace H := H.f6
     replace H := H.f6
     replace H := H.f6
     replace H := H.f6
     obtain rfl := Option.some.inj hB1604
     refine x_A fun a hf => ⟨_, rfl, v1658, c1659, v1662, c1663, w64 (x1473 + 1), x1660, x1664, rfl, r1661, r1665, hf.sub ⟨rfl, rfl, rfl, rfl, rfl, rfl, rfl, rfl, trivial⟩, H⟩
   ·replace hB1604 := itF hb hB1604
    refine C_exit <| x_then_exit <| x_then_exit <| x_block_exit ?_
    replace H := H.f6
    replace H := H.f6
    replace H := H.f6
    replace H := H.f6
    replace H := H.f6
    replace H := H.f6
    replace H := H.f6
    obtain rfl := Option.some.inj hB1604
    obtain rfl := hO1605 _ rfl
    refine x_A fun a hf => ⟨v1474, c1475, v1478, c1479, x1476, x1480, rfl, r1477, r1481, hf.sub ⟨rfl, rfl, rfl, rfl, trivial⟩, H⟩
 ·rintro a wd1719 ⟨v1343, c1344, v1347, c1348, x1345, x1349, rfl, r1346, r1350, hf, H⟩
  try dsimp only at hF
  refine XX.at hf <| x_then <| C_seq ?_
  obtain ⟨o1721, ho1721, hF⟩ := bnd hF
  refine C_cut (fun a w' => ∃ (x1720 : Bool), x1720 = o1721 ∧ Fr 91 a [(0, .pointer (some ⟨b1, 0, none⟩)), (1, .int .i64 x26), (6, v1343), (7, v1347), (44, .bool x1720)] ∧ Hp C w' ρ (Box b1 [v2, v5, v8, v11, v18, v19, v25] :: NA (eI .i64) 256 v11 c12 x13.flatten :: Arr v18 1 c15 :: NA (eI .i64) 1 v19 c20 x21 :: Arr v25 2 c22 :: Arr v1343 1 c1344 :: Arr v1347 1 c1348 :: hs)) ?_ ?_
  ·refine R_nd <| nq (Q_move rfl) rfl rfl <| nq (Q_lenA (k := 5) H.ok rfl r1346 (by decide) Tryd.underlying23 rfl) rfl rfl <| nq (Q_eql rfl rfl) rfl rfl <| nq (Q_move rfl) rfl rfl ?_
   rcases Bool.eq_false_or_eq_true ((x1345.length : Int) == 0) with hb | hb
   ·rw [hb]
    replace ho1721 := itT hb ho1721
    refine gs rfl rfl rfl rfl <| gs rfl rfl rfl rfl <| gs rfl rfl rfl rfl <| nq (Q_pickT rfl rfl) rfl rfl <| WL_nil ?_
    replace H := H.f6
    replace H := H.f6
    replace H := H.f6
    replace H := H.f6
    replace H := H.f6
    replace H := H.f6
    replace H := H.f6
    obtain rfl := Option.some.inj ho1721
    refine x_A fun a hf => ⟨true, rfl, hf.sub ⟨rfl, rfl, rfl, rfl, rfl, trivial⟩, H⟩
   ·rw [hb]
    replace ho1721 := itF hb ho1721
    refine gq (Q_move rfl) rfl rfl rfl <| gq (Q_lenA (k := 6) H.ok rfl r1350 (by decide) Tryd.underlying23 rfl) rfl rfl rfl <| gq (Q_eql rfl rfl) rfl rfl rfl <| nq (Q_pickF rfl rfl) rfl rfl <| WL_nil ?_
    replace H := H.f6
    replace H := H.f6
    replace H := H.f6
    replace H := H.f6
    replace H := H.f6
    replace H := H.f6
    replace H := H.f6
    obtain rfl := Option.some.inj ho1721
    refine x_A fun a hf => ⟨(x1349.length : Int) == 0, rfl, hf.sub ⟨rfl, rfl, rfl, rfl, rfl, trivial⟩, H⟩
  ·rintro a wd1722 ⟨x1720, rfl, hf, H⟩
   try dsimp only at hF
   refine CW.at hf ?_
   refine C_cond rfl (fun hb => ?_) (fun hb => ?_)
   ·replace hF := itT hb hF
    refine C_ret <| x_then_ret ?_
    replace H := H.f4
    replace H := H.f4
    replace H := H.f4
    replace H := H.f4
    replace H := H.f4
    replace H := H.drop 5 rfl
    dsimp only [List.eraseIdx] at H
    replace H := H.drop 5 rfl
    dsimp only [List.eraseIdx] at H
    obtain rfl := Option.some.inj hF
    exact fn_ret (l := []) (vs := []) rfl rfl rfl ⟨c15, v19, c20, v25, c22, x16, x21, x23, rfl, rfl, r17, r24, H⟩
   ·replace hF := itF hb hF
    refine C_skip <| x_then <| C_seq <| C_seq <| R_nd <| nq (Q_move rfl) rfl rfl <| nq (Q_lenA (k := 5) H.ok rfl r1346 (by decide) Tryd.underlying23 rfl) rfl rfl <| nq (Q_move rfl) rfl rfl <| nq (Q_lenA (k := 6) H.ok rfl r1350 (by decide) Tryd.underlying23 rfl) rfl rfl <| nq (Q_lss rfl rfl) rfl rfl <| WL_nil <| x_then ?_
    obtain ⟨o1731, ho1731, hF⟩ := bnd hF
    refine C_cutQ (fun a w' => ∃ (v1723 : Value) (c1724 : (List Value)) (v1727 : Value) (c1728 : (List Value)) (x1725 : (List Int)) (x1729 : (List Int)), (x1725, x1729) = o1731 ∧ rdL (eI .i64) ρ x1725 c1724 ∧ rdL (eI .i64) ρ x1729 c1728 ∧ Fr 91 a [(0, .pointer (some ⟨b1, 0, none⟩)), (1, .int .i64 x26), (6, v1723), (7, v1727)] ∧ Hp C w' ρ (Box b1 [v2, v5, v8, v11, v18, v19, v25] :: NA (eI .i64) 256 v11 c12 x13.flatten :: Arr v18 1 c15 :: NA (eI .i64) 1 v19 c20 x21 :: Arr v25 2 c22 :: Arr v1723 1 c1724 :: Arr v1727 1 c1728 :: hs)) ?_ ?_
    ·refine C_cond rfl (fun hb => ?_) (fun hb => ?_)
     ·replace ho1731 := itT hb ho1731
      refine R_nd <| nq (Q_move rfl) rfl rfl <| nq (Q_move rfl) rfl rfl <| nq (Q_assign rfl) rfl rfl <| nq (Q_assign rfl) rfl rfl <| WL_nil ?_
      replace H := H.f5
      replace H := H.f6
      replace H := H.f6
      replace H := H.f6
      replace H := H.f6
      replace H := H.f6
      replace H := H.f6
      obtain rfl := Option.some.inj ho1731
      refine x_A fun a hf => ⟨v1347, c1348, v1343, c1344, x1349, x1345, rfl, r1350, r1346, hf.sub ⟨rfl, rfl, rfl, rfl, trivial⟩, H⟩
     ·replace ho1731 := itF hb ho1731
      refine C_skip ?_
      replace H := H.f6
      replace H := H.f6
      replace H := H.f6
      replace H := H.f6
      replace H := H.f6
      replace H := H.f6
      replace H := H.f6
      obtain rfl := Option.some.inj ho1731
      refine x_A fun a hf => ⟨v1343, c1344, v1347, c1348, x1345, x1349, rfl, r1346, r1350, hf.sub ⟨rfl, rfl, rfl, rfl, trivial⟩, H⟩
    ·rintro a wd1732 ⟨v1723, c1724, v1727, c1728, x1725, x1729, rfl, r1726, r1730, hf, H⟩
     try dsimp only at hF
     refine XX.at hf <| x_then <| C_seq <| R_nd <| nq (Q_move rfl) rfl rfl <| nq (Q_nilP rfl) rfl rfl <| nq (v := .pointer (some ⟨b1, 5, none⟩)) (Q_fld Tryd.underlying107 rfl ty84 (by decide) rfl rfl) rfl rfl <| nq (v := v19) (Q_ldB (k := 0) (cs := [v19]) H.ok rfl ty84 rfl rfl rfl (fun _ => rfl) rfl) rfl rfl <| nq (v := .int .i64 (x21.length : Int)) (na_len (k := 3) H.ok rfl (N := x21.length) (Nat.mul_one _).symm (by decide) Tryd.underlying84 rfl) rfl rfl <| nq (Q_assign rfl) rfl rfl <| WL_nil <| x_then <| C_seq <| R_nd ?_
     refine nq (Q_move rfl) rfl rfl <| nq (Q_nilP rfl) rfl rfl <| nq (v := .pointer (some ⟨b1, 5, none⟩)) (Q_fld Tryd.underlying107 rfl ty84 (by decide) rfl rfl) rfl rfl <| nq (v := v19) (Q_ldB (k := 0) (cs := [v19]) H.ok rfl ty84 rfl rfl rfl (fun _ => rfl) rfl) rfl rfl <| nq (Q_move rfl) rfl rfl <| nq (Q_move rfl) rfl rfl ?_
     obtain ⟨x1733, hx1733, hF⟩ := bnd hF
     obtain ⟨b1734, o1735, u1737, hi1736, hu1738, ha1739, hl1740, hj1741⟩ := na_at1 (by decide) (H.okS (l := [NA (eI .i64) 1 v19 c20 x21]) (by simp)) hx1733
     refine nq (Q_idx hi1736 Tryd.underlying84 ty23 rfl rfl) rfl rfl ?_
     replace H := H.f3
     replace H := H.nlet hu1738
     replace H := H.f5
     have hl1742 := arr_len (en := (eI .i64)) (by decide) (H.ok.get (k := 0) rfl) r1726
     obtain ⟨x1743, hx1743, hF⟩ := bnd hF
     refine ne (E_stN1 (flat_I _) H ty23 hi1736 rfl rfl r1726 hx1743) rfl rfl ?_
     rintro _ wd1744 H
     refine WL_nil <| x_then <| C_seq <| R_nd <| nq (Q_move rfl) rfl rfl <| nq (Q_move rfl) rfl rfl <| nq (Q_nilP rfl) rfl rfl <| nq (v := .pointer (some ⟨b1, 5, none⟩)) (Q_fld Tryd.underlying107 rfl ty84 (by decide) rfl rfl) rfl rfl <| nq (v := v19) (Q_ldB (k := 1) (cs := [v19]) H.ok rfl ty84 rfl rfl rfl (fun _ => rfl) rfl) rfl rfl <| nq (Q_move rfl) rfl rfl ?_
     replace H := H.f5
     have hl1746 := arr_len (en := (eI .i64)) (by decide) (H.ok.get (k := 0) rfl) r1730
     refine ne (E_bslice (xs := [.tmp 69]) (vs := [v1727]) H Tryd.underlying84 ty23 (by decide) (cs := [v1727]) rfl (sz_cons (by rw [(arr_cells (H.ok.get (k := 0) rfl)).1]; rfl) sz_nil) (fm1 (arr_cells (H.ok.get (k := 0) rfl)).1) (by simp) (by simp) rfl rfl) rfl rfl ?_
     rintro _ wd1747 ⟨b1745, rfl, H⟩
     replace H := Hp.njoin1 (flat_I _) H r1730
     obtain ⟨x1748, hx1748, hF⟩ := bnd hF
     replace H := H.f1
     obtain ⟨hu1750, hj1751⟩ := app_alias (ds := [v1727]) (j := 0) (u := v1727) (x := x1729) (H.okS (l := [NA (eI .i64) 1 v19 (c20.set x26.toNat v1723) x1743]) (by simp)) hx1748 rfl rfl
     refine ne (E_appN1 H Tryd.underlying84 ty23 rfl (by decide) rfl rfl hx1748) rfl rfl ?_
     rintro u1749 wd1752 H
     refine nq (Q_nilP rfl) rfl rfl <| nq (v := .pointer (some ⟨b1, 5, none⟩)) (Q_fld Tryd.underlying107 rfl ty84 (by decide) rfl rfl) rfl rfl <| ne (E_stB (k := 1) (cs := [u1749]) (vs' := [v2, v5, v8, v11, v18, u1749, v25]) H rfl ty84 rfl rfl (arr_cells (H.ok.get (k := 0) rfl).1).1 rfl (one_cons (arr_cells (H.ok.get (k := 0) rfl).1).2 one_nil) (by simp) rfl) rfl rfl ?_
     rintro _ wd1753 H
     dsimp only [List.set] at H
     refine WL_nil <| x_then <| C_seq <| C_seq <| R_nd <| nq (Q_move rfl) rfl rfl <| nq (v := .int .i64 (x1729.length : Int)) (Q_lenI hl1746 Tryd.underlying23 rfl) rfl rfl <| nq (Q_move rfl) rfl rfl <| WL_nil <| x_then ?_
     obtain ⟨o1821, ho1821, hF⟩ := bnd hF
     refine C_cutQ (fun a w' => ∃ (c1818 : (List Value)) (x1819 : (List Int)), x1819 = o1821 ∧ rdL (eI .i64) ρ x1819 c1818 ∧ Fr 91 a [(0, .pointer (some ⟨b1, 0, none⟩)), (10, .int .i64 (x21.length : Int))] ∧ Hp C w' ρ (Box b1 [v2, v5, v8, v11, v18, u1749, v25] :: NA (eI .i64) 256 v11 c12 x13.flatten :: Arr v18 1 c1818 :: NA (eI .i64) 1 u1749 ((c20.set x26.toNat v1723) ++ ([v1727])) x1748 :: Arr v25 2 c22 :: hs)) ?_ ?_
     ·refine C_block ?_
      replace H := H.f4
      replace H := H.f1
      replace H := H.f4
      replace H := H.f4
      replace H := H.f4
      refine C_iter (f := fun s => F_hopcroft_splitter_split_l1 N x21 x1729 s.1 s.2) ho1821 (fun s a w' => ∃ (c1842 : (List Value)) (x1843 : (List Int)) (x1845 : Int), (x1843, x1845) = s ∧ rdL (eI .i64) ρ x1843 c1842 ∧ Fr 91 a [(0, .pointer (some ⟨b1, 0, none⟩)), (10, .int .i64 (x21.length : Int)), (74, v1727), (75, .int .i64 (x1729.length : Int)), (76, .int .i64 x1845)] ∧ Hp C w' ρ (Box b1 [v2, v5, v8, v11, v18, u1749, v25] :: NA (eI .i64) 256 v11 c12 x13.flatten :: Arr v18 1 c1842 :: NA (eI .i64) 1 u1749 ((c20.set x26.toNat v1723) ++ ([v1727])) x1748 :: Arr v25 2 c22 :: hs)) ?_ ?_
      ·exact fun a hf => ⟨c15, x16, 0, rfl, r17, hf.sub ⟨rfl, rfl, rfl, rfl, rfl, trivial⟩, H⟩
      ·rintro s o1866 a wd1869 ⟨c1842, x1843, x1845, rfl, r1844, hf, H⟩ hB1867 hO1868
       replace hB1867 : F_hopcroft_splitter_split_l1 N x21 x1729 x1843 x1845 = some o1866 := hB1867
       unfold F_hopcroft_splitter_split_l1 at hB1867
       refine CW.at hf <| C_seq <| R_nd <| nq (Q_lss rfl rfl) rfl rfl <| WL_nil <| x_then <| C_seq ?_
       refine C_cond rfl (fun hb => ?_) (fun hb => ?_)
       ·replace hB1867 := itT hb hB1867
        refine C_skip <| x_then <| C_seq <| C_block <| C_seq <| R_nd ?_
        obtain ⟨x1870, hx1870, hB1867⟩ := bnd hB1867
        obtain ⟨b1871, o1872, hi1873, ha1874⟩ := inn_at (by decide) (H.okS (l := [NA (eI .i64) 1 u1749 ((c20.set x26.toNat v1723) ++ ([v1727])) x1748]) (by simp)) hu1750 hj1751 hx1870
        refine nq (Q_idx hi1873 Tryd.underlying23 ty3 rfl rfl) rfl rfl <| nq (v := .int .i64 x1870) (Q_ld (show cellsAt _ _ _ [.int .i64 x1870] from match ha1874 _ (Ok.subS (by simp) H.ok) with | ⟨_, rfl, h⟩ => h) ty3 rfl (fun _ => rfl) rfl rfl) rfl rfl <| nq (Q_assign rfl) rfl rfl <| WL_nil <| x_then <| R_nd <| nq (Q_move rfl) rfl rfl <| nq (Q_nilP rfl) rfl rfl <| nq (v := .pointer (some ⟨b1, 4, none⟩)) (Q_fld Tryd.underlying107 rfl ty23 (by decide) rfl rfl) rfl rfl <| nq (v := v18) (Q_ldB (k := 0) (cs := [v18]) H.ok rfl ty23 rfl rfl rfl (fun _ => rfl) rfl) rfl rfl <| nq (Q_move rfl) rfl rfl <| nq (Q_move rfl) rfl rfl ?_
        obtain ⟨x1875, hx1875, hB1867⟩ := bnd hB1867
        obtain ⟨b1876, o1877, hi1881, hc1879, ha1880⟩ := arr_at (hs := [Arr v18 1 c1842]) (k := 0) (by decide) (H.okS (by simp)) rfl r1844 hx1875
        refine nq (Q_idx hi1881 Tryd.underlying23 ty3 rfl rfl) rfl rfl ?_
        obtain ⟨x1882, hx1882, hB1867⟩ := bnd hB1867
        obtain ⟨hs1883a, hs1883b, hs1883c⟩ := setI_some hx1882
        have r1884 : rdL (eI .i64) ρ x1882 (setC c1842 (x1870.toNat * 1 + 0) [.int .i64 (x21.length : Int)]) := hs1883c ▸ rdL.set r1844 hs1883b (rfl)
        refine ne (E_stA (k := 2) (j := 0) (c := [.int .i64 (x21.length : Int)]) H rfl ty3 hi1881 rfl rfl rfl rfl (one_cons rfl one_nil) (by decide)) rfl rfl ?_
        rintro _ wd1885 H
        dsimp only [List.set] at H
        refine WL_nil <| x_block <| x_then <| R_nd <| nq (Q_add rfl rfl) rfl rfl <| nq (Q_move rfl) rfl rfl <| WL_nil ?_
        replace H := H.f4
        replace H := H.f4
        replace H := H.f4
        replace H := H.f4
        replace H := H.f4
        obtain rfl := Option.some.inj hB1867
        refine x_A fun a hf => ⟨_, rfl, (setC c1842 (x1870.toNat * 1 + 0) [.int .i64 (x21.length : Int)]), x1882, w64 (x1845 + 1), rfl, r1884, hf.sub ⟨rfl, rfl, rfl, rfl, rfl, trivial⟩, H⟩
       ·replace hB1867 := itF hb hB1867
        refine C_exit <| x_then_exit <| x_then_exit <| x_block_exit ?_
        replace H := H.f4
        replace H := H.f4
        replace H := H.f4
        replace H := H.f4
        replace H := H.f4
        obtain rfl := Option.some.inj hB1867
        obtain rfl := hO1868 _ rfl
        refine x_A fun a hf => ⟨c1842, x1843, rfl, r1844, hf.sub ⟨rfl, rfl, trivial⟩, H⟩
     ·rintro a wd1886 ⟨c1818, x1819, rfl, r1820, hf, H⟩
      try dsimp only at hF
      refine XX.at hf <| x_then <| R_nd <| nq (Q_move rfl) rfl rfl <| nq (Q_move rfl) rfl rfl ?_
      replace H := H.f4
      replace H := H.f4
      replace H := H.f4
      replace H := H.f4
      replace H := H.f4
      obtain ⟨q1887, hq1887, hF⟩ := bnd hF
      refine ne (E_call fn90 rfl (c_90 H  r4 r7 r10 gl14 r1820 r24 hq1887)) rfl rfl ?_
      rintro _ wd1893 ⟨v1889, c1890, x1891, rfl, rfl, r1892, H⟩
      try dsimp only at hF
      refine WL_nil ?_
      replace H := H.f4
      replace H := H.f4
      replace H := H.f4
      replace H := H.f4
      replace H := H.f4
      obtain rfl := Option.some.inj hF
      exact fn_end (l := []) (vs := []) rfl rfl rfl ⟨c1818, u1749, ((c20.set x26.toNat v1723) ++ ([v1727])), v1889, c1890, x1819, x1748, x1891, rfl, rfl, r1820, r1892, H⟩
set_option maxHeartbeats 8000000 in
theorem c_86 {N : Nat} {C : Cx} {w : World} {ρ : View} {hs : List Hl} {b1 : Nat} {v2 : Value} {v5 : Value} {v8 : Value} {v11 : Value} {c12 : List Value} {c15 : List Value} {v18 : Value} {v19 : Value} {c20 : List Value} {c22 : List Value} {v25 : Value} {x3 : (List (List Int))} {x6 : (List Int)} {x9 : (List Int)} {x13 : (List (List (List Int)))} {x16 : (List Int)} {x21 : (List (List Int))} {x23 : (List (Int × Int))} (H : Hp C w ρ (Box b1 [v2, v5, v8, v11, v18, v19, v25] :: NA (eI .i64) 256 v11 c12 x13.flatten :: Arr v18 1 c15 :: NA (eI .i64) 1 v19 c20 x21 :: Arr v25 2 c22 :: hs)) (r4 : RdSl ρ (eA 256 (eI .i64)) v2 x3) (r7 : RdSl ρ (eI .i64) v5 x6) (r10 : RdSl ρ (eI .i64) v8 x9) (gl14 : ∀ a ∈ x13, a.length = 256) (r17 : rdL (eI .i64) ρ x16 c15) (r24 : rdL (eP (eI .i64) (eI .u8)) ρ x23 c22) {r : ((List Int) × (List (List Int)) × (List (Int × Int)))} (hF : F_hopcroft_splitter_run N x3 x6 x9 x13 x16 x21 x23 = some r) :
  Calls Tryd.prog 86 [.pointer (some ⟨b1, 0, none⟩)].toArray w (Rets (fun v w' => (∃ (c7534 : (List Value)) (v7537 : Value) (c7538 : (List Value)) (v7540 : Value) (c7541 : (List Value)) (x7535 : (List Int)) (x7539 : (List (List Int))) (x7542 : (List (Int × Int))), (x7535, x7539, x7542) = r ∧ .tuple [].toArray = v ∧ rdL (eI .i64) ρ x7535 c7534 ∧ rdL (eP (eI .i64) (eI .u8)) ρ x7542 c7541 ∧ Hp C w' ρ (Box b1 [v2, v5, v8, v11, v18, v7537, v7540] :: NA (eI .i64) 256 v11 c12 x13.flatten :: Arr v18 1 c7534 :: NA (eI .i64) 1 v7537 c7538 x7539 :: Arr v7540 2 c7541 :: hs)))) := by
 unfold F_hopcroft_splitter_run at hF
 have h0 : Tryd.f86.body = some _ := rfl
 refine fn_calls' Tryd.func86 h0 (n := 103) rfl (by simp) ?_
 obtain ⟨o11302, ho11302, hF⟩ := bnd hF
 refine C_cutQ (fun a w' => ∃ (c11292 : (List Value)) (v11295 : Value) (c11296 : (List Value)) (v11298 : Value) (c11299 : (List Value)) (x11293 : (List Int)) (x11297 : (List (List Int))) (x11300 : (List (Int × Int))), (x11293, x11297, x11300) = o11302 ∧ rdL (eI .i64) ρ x11293 c11292 ∧ rdL (eP (eI .i64) (eI .u8)) ρ x11300 c11299 ∧ Fr 103 a [] ∧ Hp C w' ρ (Box b1 [v2, v5, v8, v11, v18, v11295, v11298] :: NA (eI .i64) 256 v11 c12 x13.flatten :: Arr v18 1 c11292 :: NA (eI .i64) 1 v11295 c11296 x11297 :: Arr v11298 2 c11299 :: hs)) ?_ ?_
 ·refine C_block ?_
  replace H := H.f4
  replace H := H.f4
  replace H := H.f4
  replace H := H.f4
  replace H := H.f4
  refine C_iter (f := fun s => F_hopcroft_splitter_run_l0 N x3 x6 x9 x13 s.1 s.2.1 s.2.2) ho11302 (fun s a w' => ∃ (c12551 : (List Value)) (v12554 : Value) (c12555 : (List Value)) (v12557 : Value) (c12558 : (List Value)) (x12552 : (List Int)) (x12556 : (List (List Int))) (x12559 : (List (Int × Int))), (x12552, x12556, x12559) = s ∧ rdL (eI .i64) ρ x12552 c12551 ∧ rdL (eP (eI .i64) (eI .u8)) ρ x12559 c12558 ∧ Fr 103 a [(0, .pointer (some ⟨b1, 0, none⟩))] ∧ Hp C w' ρ (Box b1 [v2, v5, v8, v11, v18, v12554, v12557] :: NA (eI .i64) 256 v11 c12 x13.flatten :: Arr v18 1 c12551 :: NA (eI .i64) 1 v12554 c12555 x12556 :: Arr v12557 2 c12558 :: hs)) ?_ ?_
  ·exact fun a hf => ⟨c15, v19, c20, v25, c22, x16, x21, x23, rfl, r17, r24, hf.sub ⟨rfl, trivial⟩, H⟩
  ·rintro s o13809 a wd13812 ⟨c12551, v12554, c12555, v12557, c12558, x12552, x12556, x12559, rfl, r12553, r12560, hf, H⟩ hB13810 hO13811
   replace hB13810 : F_hopcroft_splitter_run_l0 N x3 x6 x9 x13 x12552 x12556 x12559 = some o13809 := hB13810
   unfold F_hopcroft_splitter_run_l0 at hB13810
   refine CW.at hf <| C_seq <| C_seq <| R_nd <| nq (Q_move rfl) rfl rfl <| nq (Q_nilP rfl) rfl rfl <| nq (v := .pointer (some ⟨b1, 6, none⟩)) (Q_fld Tryd.underlying107 rfl ty105 (by decide) rfl rfl) rfl rfl <| nq (v := v12557) (Q_ldB (k := 0) (cs := [v12557]) H.ok rfl ty105 rfl rfl rfl (fun _ => rfl) rfl) rfl rfl <| nq (Q_lenA (k := 4) H.ok rfl r12560 (by decide) Tryd.underlying105 rfl) rfl rfl <| nq (Q_gtr rfl rfl) rfl rfl <| WL_nil <| x_then ?_
   refine C_cond rfl (fun hb => ?_) (fun hb => ?_)
   ·replace hB13810 := itT hb hB13810
    refine C_skip <| x_then <| C_block ?_
    obtain ⟨o13831, ho13831, hB13810⟩ := bnd hB13810
    refine C_cut (fun a w' => ∃ (b13828 : Nat) (x13829 : Int) (x13830 : Int), (x13829, x13830) = o13831 ∧ Fr 103 a [(0, .pointer (some ⟨b1, 0, none⟩)), (2, .pointer (some ⟨b13828, 0, none⟩))] ∧ Hp C w' ρ (Box b1 [v2, v5, v8, v11, v18, v12554, v12557] :: NA (eI .i64) 256 v11 c12 x13.flatten :: Arr v18 1 c12551 :: NA (eI .i64) 1 v12554 c12555 x12556 :: Arr v12557 2 c12558 :: Box b13828 [.int .i64 x13829, .int .u8 x13830] :: hs)) ?_ ?_
    ·refine R_dr (.take 0 (.take 1 (.take 2 (.take 3 (.take 4 (.take 5 (.take 6 (.take 7 (.take 8 (.take 9 (.take 10 (.take 11 (.one 12 (.one 13 .done)))))))))))))) (fun w' => Ok w' ρ [Box b1 [v2, v5, v8, v11, v18, v12554, v12557], NA (eI .i64) 256 v11 c12 x13.flatten, Arr v18 1 c12551, NA (eI .i64) 1 v12554 c12555 x12556, Arr v12557 2 c12558]) (by kernel_rfl) (by kernel_rfl) (by kernel_rfl) (H.drew.okS (by simp)) ?_
     replace H := H.drew
     refine dq rfl (fun _ _ => Q_move rfl) rfl rfl <| dq rfl (fun _ _ => Q_nilP rfl) rfl rfl <| dq (v := .pointer (some ⟨b1, 6, none⟩)) rfl (fun _ _ => Q_fld Tryd.underlying107 rfl ty105 (by decide) rfl rfl) rfl rfl <| dq (v := v12557) rfl (fun _ hw => Q_ldB (k := 0) (cs := [v12557]) hw rfl ty105 rfl rfl rfl (fun _ => rfl) rfl) rfl rfl <| dq rfl (fun _ _ => Q_move rfl) rfl rfl <| dq rfl (fun _ _ => Q_nilP rfl) rfl rfl <| dq (v := .pointer (some ⟨b1, 6, none⟩)) rfl (fun _ _ => Q_fld Tryd.underlying107 rfl ty105 (by decide) rfl rfl) rfl rfl <| dq (v := v12557) rfl (fun _ hw => Q_ldB (k := 0) (cs := [v12557]) hw rfl ty105 rfl rfl rfl (fun _ => rfl) rfl) rfl rfl <| dq rfl (fun _ hw => Q_lenA (k := 4) hw rfl r12560 (by decide) Tryd.underlying105 rfl) rfl rfl <| dq rfl (fun _ _ => Q_sub rfl rfl) rfl rfl ?_
     obtain ⟨x13832, hx13832, ho13831⟩ := bnd ho13831
     obtain ⟨b13833, o13834, hi13838, hc13836, ha13837⟩ := arr_at (hs := [Arr v12557 2 c12558]) (k := 0) (by decide) (H.okS (by simp)) rfl r12560 hx13832
     refine dq rfl (fun _ _ => Q_idx hi13838 Tryd.underlying105 ty113 rfl rfl) rfl rfl ?_
     obtain ⟨c13839, c13840, he13841, hc13842, hc13843⟩ := hc13836
     refine dq (v := .agg #[.int .i64 x13832.1, .int .u8 x13832.2]) rfl (fun _ hw => Q_ld (show cellsAt _ _ _ [.int .i64 x13832.1, .int .u8 x13832.2] from cellsAt.cg (cat2 he13841 (rdI hc13842) (rdI hc13843)) (ha13837 _ (Ok.subS (by simp) hw))) ty113 rfl (fun h => nomatch h) rfl rfl) rfl rfl ?_
     refine d1 (de rfl (E_alloc H ty113 (zs := [.int .i64 0, .int .u8 0]) rfl) rfl rfl ?_)
     rintro _ wd13845 ⟨b13844, rfl, H⟩
     refine ⟨H.okS (by simp), ?_⟩
     refine d1 (de rfl (E_stB (k := 0) (cs := [.int .i64 x13832.1, .int .u8 x13832.2]) (vs' := [.int .i64 x13832.1, .int .u8 x13832.2]) H rfl ty113 rfl rfl rfl rfl (one_cons rfl (one_cons rfl one_nil)) (by simp) rfl) rfl rfl ?_)
     rintro _ wd13846 H
     dsimp only [List.set] at H
     refine ⟨H.okS (by simp), ?_⟩
     refine DL_nil ?_
     replace H := H.f5
     replace H := H.f5
     replace H := H.f5
     replace H := H.f5
     replace H := H.f5
     obtain rfl := Option.some.inj ho13831
     refine x_A fun a hf => ⟨b13844, x13832.1, x13832.2, rfl, hf.sub ⟨rfl, rfl, trivial⟩, H⟩
    ·rintro a wd13847 ⟨b13828, x13829, x13830, rfl, hf, H⟩
     try dsimp only at hB13810
     refine CW.at hf ?_
     obtain ⟨o13876, ho13876, hB13810⟩ := bnd hB13810
     refine C_cut (fun a w' => ∃ (v13872 : Value) (c13873 : (List Value)) (x13874 : (List (Int × Int))), x13874 = o13876 ∧ rdL (eP (eI .i64) (eI .u8)) ρ x13874 c13873 ∧ Fr 103 a [(0, .pointer (some ⟨b1, 0, none⟩)), (2, .pointer (some ⟨b13828, 0, none⟩))] ∧ Hp C w' ρ (Box b1 [v2, v5, v8, v11, v18, v12554, v13872] :: NA (eI .i64) 256 v11 c12 x13.flatten :: Arr v18 1 c12551 :: NA (eI .i64) 1 v12554 c12555 x12556 :: Arr v13872 2 c13873 :: Box b13828 [.int .i64 x13829, .int .u8 x13830] :: hs)) ?_ ?_
     ·refine R_dr (.take 0 (.take 1 (.take 2 (.take 3 (.take 5 (.take 6 (.take 7 (.two 4 8 (.one 8 (.one 9 (.take 10 (.take 11 (.take 12 (.take 13 (.one 14 .done))))))) (.two 4 9 (.one 9 (.take 10 (.take 11 (.take 12 (.take 13 (.one 14 .done)))))) (.take 10 (.one 4 (.take 11 (.take 12 (.take 13 (.one 14 .done))))))))))))))) (fun w' => Ok w' ρ [NA (eI .i64) 256 v11 c12 x13.flatten, Arr v18 1 c12551, NA (eI .i64) 1 v12554 c12555 x12556, Box b13828 [.int .i64 x13829, .int .u8 x13830]]) (by kernel_rfl) (by kernel_rfl) (by kernel_rfl) (H.drew.okS (by simp)) ?_
      replace H := H.drew
      refine dq rfl (fun _ _ => Q_move rfl) rfl rfl <| dq rfl (fun _ _ => Q_move rfl) rfl rfl <| dq rfl (fun _ _ => Q_nilP rfl) rfl rfl <| dq (v := .pointer (some ⟨b1, 6, none⟩)) rfl (fun _ _ => Q_fld Tryd.underlying107 rfl ty105 (by decide) rfl rfl) rfl rfl <| dq rfl (fun _ _ => Q_move rfl) rfl rfl <| dq rfl (fun _ _ => Q_nilP rfl) rfl rfl <| dq (v := .pointer (some ⟨b1, 6, none⟩)) rfl (fun _ _ => Q_fld Tryd.underlying107 rfl ty105 (by decide) rfl rfl) rfl rfl ?_
      refine d2 ?_ ?_
      ·refine de rfl (Eff.quiet (v := v12557) (Q_ldB (k := 0) (cs := [v12557]) H.ok rfl ty105 rfl rfl rfl (fun _ => rfl) rfl)) rfl rfl ?_
       rintro _ _ ⟨rfl, rfl⟩
       refine ⟨H.okS (by simp), ?_⟩
       refine d1 (de rfl (Eff.quiet (v := v12557) (Q_ldB (k := 0) (cs := [v12557]) H.ok rfl ty105 rfl rfl rfl (fun _ => rfl) rfl)) rfl rfl ?_)
       rintro _ _ ⟨rfl, rfl⟩
       refine ⟨H.okS (by simp), ?_⟩
       refine d1 (de rfl (Eff.quiet (v := .int .i64 (x12559.length : Int)) (Q_lenA (k := 4) H.ok rfl r12560 (by decide) Tryd.underlying105 rfl)) rfl rfl ?_)
       rintro _ _ ⟨rfl, rfl⟩
       refine ⟨H.okS (by simp), ?_⟩
       refine dq rfl (fun _ _ => Q_sub rfl rfl) rfl rfl ?_
       obtain ⟨x13877, hx13877, ho13876⟩ := bnd ho13876
       obtain ⟨v13879, c13882, H, r13880, hq13883⟩ := sliceW (P := Tryd.prog) (en := (eP (eI .i64) (eI .u8))) (k := 4) H rfl (by decide) r12560 hx13877
       dsimp only [List.set] at H
       replace H : Hp C _ ρ (Box b1 [v2, v5, v8, v11, v18, v12554, v12557] :: NA (eI .i64) 256 v11 c12 x13.flatten :: Arr v18 1 c12551 :: NA (eI .i64) 1 v12554 c12555 x12556 :: Arr v13879 2 c13882 :: Box b13828 [.int .i64 x13829, .int .u8 x13830] :: hs) := H
       refine dq (v := v13879) rfl (fun _ _ => hq13883 _ _ _ _ _ _ _ _ _ _ _ _ _ _ _ Tryd.underlying105 ty113 rfl rfl ⟨_, rfl⟩) rfl rfl <| dq rfl (fun _ _ => Q_nilP rfl) rfl rfl <| dq (v := .pointer (some ⟨b1, 6, none⟩)) rfl (fun _ _ => Q_fld Tryd.underlying107 rfl ty105 (by decide) rfl rfl) rfl rfl ?_
       refine d1 (de rfl (E_stB (k := 0) (cs := [v13879]) (vs' := [v2, v5, v8, v11, v18, v12554, v13879]) H rfl ty105 rfl rfl (arr_cells (H.ok.get (k := 4) rfl)).1 rfl (one_cons (arr_cells (H.ok.get (k := 4) rfl)).2 one_nil) (by simp) rfl) rfl rfl ?_)
       rintro _ wd13884 H
       dsimp only [List.set] at H
       refine ⟨H.okS (by simp), ?_⟩
       refine DL_nil ?_
       replace H := H.f5
       replace H := H.f5
       replace H := H.f5
       replace H := H.f5
       replace H := H.f5
       replace H := H.f5
       obtain rfl := Option.some.inj ho13876
       refine x_A fun a hf => ⟨v13879, c13882, x13877, rfl, r13880, hf.sub ⟨rfl, rfl, trivial⟩, H⟩
      ·refine de rfl (Eff.quiet (v := v12557) (Q_ldB (k := 0) (cs := [v12557]) H.ok rfl ty105 rfl rfl rfl (fun _ => rfl) rfl)) rfl rfl ?_
       rintro _ _ ⟨rfl, rfl⟩
       refine ⟨H.okS (by simp), ?_⟩
       refine d2 ?_ ?_
       ·refine de rfl (Eff.quiet (v := v12557) (Q_ldB (k := 0) (cs := [v12557]) H.ok rfl ty105 rfl rfl rfl (fun _ => rfl) rfl)) rfl rfl ?_
        rintro _ _ ⟨rfl, rfl⟩
        refine ⟨H.okS (by simp), ?_⟩
        refine d1 (de rfl (Eff.quiet (v := .int .i64 (x12559.length : Int)) (Q_lenA (k := 4) H.ok rfl r12560 (by decide) Tryd.underlying105 rfl)) rfl rfl ?_)
        rintro _ _ ⟨rfl, rfl⟩
        refine ⟨H.okS (by simp), ?_⟩
        refine dq rfl (fun _ _ => Q_sub rfl rfl) rfl rfl ?_
        obtain ⟨x13885, hx13885, ho13876⟩ := bnd ho13876
        obtain ⟨v13887, c13890, H, r13888, hq13891⟩ := sliceW (P := Tryd.prog) (en := (eP (eI .i64) (eI .u8))) (k := 4) H rfl (by decide) r12560 hx13885
        dsimp only [List.set] at H
        replace H : Hp C _ ρ (Box b1 [v2, v5, v8, v11, v18, v12554, v12557] :: NA (eI .i64) 256 v11 c12 x13.flatten :: Arr v18 1 c12551 :: NA (eI .i64) 1 v12554 c12555 x12556 :: Arr v13887 2 c13890 :: Box b13828 [.int .i64 x13829, .int .u8 x13830] :: hs) := H
        refine dq (v := v13887) rfl (fun _ _ => hq13891 _ _ _ _ _ _ _ _ _ _ _ _ _ _ _ Tryd.underlying105 ty113 rfl rfl ⟨_, rfl⟩) rfl rfl <| dq rfl (fun _ _ => Q_nilP rfl) rfl rfl <| dq (v := .pointer (some ⟨b1, 6, none⟩)) rfl (fun _ _ => Q_fld Tryd.underlying107 rfl ty105 (by decide) rfl rfl) rfl rfl ?_
        refine d1 (de rfl (E_stB (k := 0) (cs := [v13887]) (vs' := [v2, v5, v8, v11, v18, v12554, v13887]) H rfl ty105 rfl rfl (arr_cells (H.ok.get (k := 4) rfl)).1 rfl (one_cons (arr_cells (H.ok.get (k := 4) rfl)).2 one_nil) (by simp) rfl) rfl rfl ?_)
        rintro _ wd13892 H
        dsimp only [List.set] at H
        refine ⟨H.okS (by simp), ?_⟩
        refine DL_nil ?_
        replace H := H.f5
        replace H := H.f5
        replace H := H.f5
        replace H := H.f5
        replace H := H.f5
        replace H := H.f5
        obtain rfl := Option.some.inj ho13876
        refine x_A fun a hf => ⟨v13887, c13890, x13885, rfl, r13888, hf.sub ⟨rfl, rfl, trivial⟩, H⟩
       ·refine de rfl (Eff.quiet (v := .int .i64 (x12559.length : Int)) (Q_lenA (k := 4) H.ok rfl r12560 (by decide) Tryd.underlying105 rfl)) rfl rfl ?_
        rintro _ _ ⟨rfl, rfl⟩
        refine ⟨H.okS (by simp), ?_⟩
        refine dq rfl (fun _ _ => Q_sub rfl rfl) rfl rfl ?_
        refine d1 (de rfl (Eff.quiet (v := v12557) (Q_ldB (k := 0) (cs := [v12557]) H.ok rfl ty105 rfl rfl rfl (fun _ => rfl) rfl)) rfl rfl ?_)
        rintro _ _ ⟨rfl, rfl⟩
        refine ⟨H.okS (by simp), ?_⟩
        obtain ⟨x13893, hx13893, ho13876⟩ := bnd ho13876
        obtain ⟨v13895, c13898, H, r13896, hq13899⟩ := sliceW (P := Tryd.prog) (en := (eP (eI .i64) (eI .u8))) (k := 4) H rfl (by decide) r12560 hx13893
        dsimp only [List.set] at H
        replace H : Hp C _ ρ (Box b1 [v2, v5, v8, v11, v18, v12554, v12557] :: NA (eI .i64) 256 v11 c12 x13.flatten :: Arr v18 1 c12551 :: NA (eI .i64) 1 v12554 c12555 x12556 :: Arr v13895 2 c13898 :: Box b13828 [.int .i64 x13829, .int .u8 x13830] :: hs) := H
        refine dq (v := v13895) rfl (fun _ _ => hq13899 _ _ _ _ _ _ _ _ _ _ _ _ _ _ _ Tryd.underlying105 ty113 rfl rfl ⟨_, rfl⟩) rfl rfl <| dq rfl (fun _ _ => Q_nilP rfl) rfl rfl <| dq (v := .pointer (some ⟨b1, 6, none⟩)) rfl (fun _ _ => Q_fld Tryd.underlying107 rfl ty105 (by decide) rfl rfl) rfl rfl ?_
        refine d1 (de rfl (E_stB (k := 0) (cs := [v13895]) (vs' := [v2, v5, v8, v11, v18, v12554, v13895]) H rfl ty105 rfl rfl (arr_cells (H.ok.get (k := 4) rfl)).1 rfl (one_cons (arr_cells (H.ok.get (k := 4) rfl)).2 one_nil) (by simp) rfl) rfl rfl ?_)
        rintro _ wd13900 H
        dsimp only [List.set] at H
        refine ⟨H.okS (by simp), ?_⟩
        refine DL_nil ?_
        replace H := H.f5
        replace H := H.f5
        replace H := H.f5
        replace H := H.f5
        replace H := H.f5
        replace H := H.f5
        obtain rfl := Option.some.inj ho13876
        refine x_A fun a hf => ⟨v13895, c13898, x13893, rfl, r13896, hf.sub ⟨rfl, rfl, trivial⟩, H⟩
     ·rintro a wd13901 ⟨v13872, c13873, x13874, rfl, r13875, hf, H⟩
      try dsimp only at hB13810
      refine CW.at hf <| C_seq <| R_nd <| nq (Q_assign rfl) rfl rfl <| nq (Q_assign rfl) rfl rfl <| WL_nil <| x_then <| C_seq <| C_seq <| R_dr (.take 0 (.take 1 (.take 2 (.take 3 (.take 4 (.take 5 (.take 6 (.take 7 (.take 8 (.take 9 .done)))))))))) (fun w' => Ok w' ρ [Box b1 [v2, v5, v8, v11, v18, v12554, v13872], NA (eI .i64) 256 v11 c12 x13.flatten, Arr v18 1 c12551, NA (eI .i64) 1 v12554 c12555 x12556, Arr v13872 2 c13873, Box b13828 [.int .i64 x13829, .int .u8 x13830]]) (by kernel_rfl) (by kernel_rfl) (by kernel_rfl) (H.drew.okS (by simp)) ?_
      replace H := H.drew
      refine dq rfl (fun _ _ => Q_move rfl) rfl rfl <| dq rfl (fun _ _ => Q_nilP rfl) rfl rfl <| dq (v := .pointer (some ⟨b1, 5, none⟩)) rfl (fun _ _ => Q_fld Tryd.underlying107 rfl ty84 (by decide) rfl rfl) rfl rfl <| dq (v := v12554) rfl (fun _ hw => Q_ldB (k := 0) (cs := [v12554]) hw rfl ty84 rfl rfl rfl (fun _ => rfl) rfl) rfl rfl <| dq (v := .pointer (some ⟨b13828, 0, none⟩)) rfl (fun _ _ => Q_fld Tryd.underlying113 rfl ty3 (by decide) rfl rfl) rfl rfl <| dq (v := .int .i64 x13829) rfl (fun _ hw => Q_ldB (k := 5) (cs := [.int .i64 x13829]) hw rfl ty3 rfl rfl rfl (fun _ => rfl) rfl) rfl rfl ?_
      obtain ⟨x13902, hx13902, hB13810⟩ := bnd hB13810
      obtain ⟨b13903, o13904, u13906, hi13905, hu13907, ha13908, hl13909, hj13910⟩ := na_at1 (by decide) (H.okS (l := [NA (eI .i64) 1 v12554 c12555 x12556]) (by simp)) hx13902
      refine dq rfl (fun _ _ => Q_idx hi13905 Tryd.underlying84 ty23 rfl rfl) rfl rfl <| dq (v := u13906) rfl (fun _ hw => Q_ld (ha13908 _ (Ok.subS (by simp) hw)) ty23 rfl (fun _ => rfl) rfl rfl) rfl rfl <| dq (v := .int .i64 (x13902.length : Int)) rfl (fun _ _ => Q_lenI hl13909 Tryd.underlying23 rfl) rfl rfl <| dq rfl (fun _ _ => Q_move rfl) rfl rfl <| DL_nil <| x_then ?_
      obtain ⟨o14099, ho14099, hB13810⟩ := bnd hB13810
      refine C_cutQ (fun a w' => ∃ (v14095 : Value) (c14096 : (List Value)) (x14097 : (List Int)), x14097 = o14099 ∧ rdL (eI .i64) ρ x14097 c14096 ∧ Fr 103 a [(0, .pointer (some ⟨b1, 0, none⟩)), (3, v14095), (4, .slice none 0 0)] ∧ Hp C w' ρ (Box b1 [v2, v5, v8, v11, v18, v12554, v13872] :: NA (eI .i64) 256 v11 c12 x13.flatten :: Arr v18 1 c12551 :: NA (eI .i64) 1 v12554 c12555 x12556 :: Arr v13872 2 c13873 :: Arr v14095 1 c14096 :: hs)) ?_ ?_
      ·refine C_block ?_
       have H := H.nilArr 1
       replace H := H.f6
       replace H := H.f6
       replace H := H.f6
       replace H := H.f6
       replace H := H.f6
       replace H := H.f6
       refine C_iter (f := fun s => F_hopcroft_splitter_run_l1 N x13 x13830 x13902 s.1 s.2) ho14099 (fun s a w' => ∃ (v14160 : Value) (c14161 : (List Value)) (x14162 : (List Int)) (x14164 : Int), (x14162, x14164) = s ∧ rdL (eI .i64) ρ x14162 c14161 ∧ Fr 103 a [(0, .pointer (some ⟨b1, 0, none⟩)), (2, .pointer (some ⟨b13828, 0, none⟩)), (3, v14160), (4, .slice none 0 0), (51, u13906), (52, .int .i64 (x13902.length : Int)), (53, .int .i64 x14164)] ∧ Hp C w' ρ (Box b1 [v2, v5, v8, v11, v18, v12554, v13872] :: NA (eI .i64) 256 v11 c12 x13.flatten :: Arr v18 1 c12551 :: NA (eI .i64) 1 v12554 c12555 x12556 :: Arr v13872 2 c13873 :: Box b13828 [.int .i64 x13829, .int .u8 x13830] :: Arr v14160 1 c14161 :: hs)) ?_ ?_
       ·exact fun a hf => ⟨(.slice none 0 0), [], [], 0, rfl, rdL.nil, hf.sub ⟨rfl, rfl, rfl, rfl, rfl, rfl, rfl, trivial⟩, H⟩
       ·rintro s o14225 a wd14228 ⟨v14160, c14161, x14162, x14164, rfl, r14163, hf, H⟩ hB14226 hO14227
        replace hB14226 : F_hopcroft_splitter_run_l1 N x13 x13830 x13902 x14162 x14164 = some o14225 := hB14226
        unfold F_hopcroft_splitter_run_l1 at hB14226
        refine CW.at hf <| C_seq <| R_nd <| nq (Q_lss rfl rfl) rfl rfl <| WL_nil <| x_then <| C_seq ?_
        refine C_cond rfl (fun hb => ?_) (fun hb => ?_)
        ·replace hB14226 := itT hb hB14226
         refine C_skip <| x_then <| C_seq <| C_block <| C_seq <| R_nd ?_
         obtain ⟨x14229, hx14229, hB14226⟩ := bnd hB14226
         obtain ⟨b14230, o14231, hi14232, ha14233⟩ := inn_at (by decide) (H.okS (l := [NA (eI .i64) 1 v12554 c12555 x12556]) (by simp)) hu13907 hj13910 hx14229
         refine nq (Q_idx hi14232 Tryd.underlying23 ty3 rfl rfl) rfl rfl <| nq (v := .int .i64 x14229) (Q_ld (show cellsAt _ _ _ [.int .i64 x14229] from match ha14233 _ (Ok.subS (by simp) H.ok) with | ⟨_, rfl, h⟩ => h) ty3 rfl (fun _ => rfl) rfl rfl) rfl rfl <| nq (Q_assign rfl) rfl rfl <| WL_nil <| x_then ?_
         obtain ⟨o14260, ho14260, hB14226⟩ := bnd hB14226
         refine C_cutQ (fun a w' => ∃ (v14256 : Value) (c14257 : (List Value)) (x14258 : (List Int)), x14258 = o14260 ∧ rdL (eI .i64) ρ x14258 c14257 ∧ Fr 103 a [(0, .pointer (some ⟨b1, 0, none⟩)), (2, .pointer (some ⟨b13828, 0, none⟩)), (3, v14256), (4, .slice none 0 0), (51, u13906), (52, .int .i64 (x13902.length : Int)), (53, .int .i64 x14164)] ∧ Hp C w' ρ (Box b1 [v2, v5, v8, v11, v18, v12554, v13872] :: NA (eI .i64) 256 v11 c12 x13.flatten :: Arr v18 1 c12551 :: NA (eI .i64) 1 v12554 c12555 x12556 :: Arr v13872 2 c13873 :: Box b13828 [.int .i64 x13829, .int .u8 x13830] :: Arr v14256 1 c14257 :: hs)) ?_ ?_
         ·refine R_dr (.take 0 (.take 1 (.take 2 (.take 3 (.take 4 (.take 5 (.take 6 (.take 7 (.take 8 (.take 9 (.take 10 (.one 11 (.take 12 .done))))))))))))) (fun w' => Ok w' ρ [Box b1 [v2, v5, v8, v11, v18, v12554, v13872], NA (eI .i64) 256 v11 c12 x13.flatten, Arr v18 1 c12551, NA (eI .i64) 1 v12554 c12555 x12556, Arr v13872 2 c13873, Box b13828 [.int .i64 x13829, .int .u8 x13830]]) (by kernel_rfl) (by kernel_rfl) (by kernel_rfl) (H.drew.okS (by simp)) ?_
          replace H := H.drew
          refine dq rfl (fun _ _ => Q_move rfl) rfl rfl <| dq rfl (fun _ _ => Q_move rfl) rfl rfl <| dq rfl (fun _ _ => Q_nilP rfl) rfl rfl <| dq (v := .pointer (some ⟨b1, 3, none⟩)) rfl (fun _ _ => Q_fld Tryd.underlying107 rfl ty104 (by decide) rfl rfl) rfl rfl <| dq (v := v11) rfl (fun _ hw => Q_ldB (k := 0) (cs := [v11]) hw rfl ty104 rfl rfl rfl (fun _ => rfl) rfl) rfl rfl <| dq rfl (fun _ _ => Q_move rfl) rfl rfl <| dq (v := .pointer (some ⟨b13828, 1, none⟩)) rfl (fun _ _ => Q_fld Tryd.underlying113 rfl ty5 (by decide) rfl rfl) rfl rfl <| dq (v := .int .u8 x13830) rfl (fun _ hw => Q_ldB (k := 5) (cs := [.int .u8 x13830]) hw rfl ty5 rfl rfl rfl (fun _ => rfl) rfl) rfl rfl ?_
          obtain ⟨x14261, hx14261, ho14260⟩ := bnd ho14260
          obtain ⟨b14262, o14263, hi14264, hr14265⟩ := na_row (by decide) (by decide) (H.okS (l := [NA (eI .i64) 256 v11 c12 x13.flatten]) (by simp)) gl14 hx14261
          refine dq rfl (fun _ _ => Q_idx hi14264 Tryd.underlying104 ty110 rfl rfl) rfl rfl ?_
          obtain ⟨x14266, hx14266, ho14260⟩ := bnd ho14260
          obtain ⟨u14267, hu14268, ha14269, hl14270, hj14271, hn14272⟩ := hr14265 _ _ hx14266
          have hb14273 := (idx_some hx14266).1
          refine dq rfl (fun _ _ => Q_idxA hb14273 (by omega) Tryd.underlying110 ty23 rfl rfl) rfl rfl <| dq (v := u14267) rfl (fun _ hw => Q_ld (ha14269 _ (Ok.subS (by simp) hw)) ty23 rfl (fun _ => rfl) rfl rfl) rfl rfl ?_
          obtain ⟨x14274, hx14274, ho14260⟩ := bnd ho14260
          obtain ⟨ha14275a, ha14275b⟩ := app_some hx14274
          obtain ⟨c14276, r14277, hs14278⟩ := inn_src (H.okS (l := [NA (eI .i64) 256 v11 c12 x13.flatten]) (by simp)) hu14268 hj14271
          have r14280 : rdL (eI .i64) ρ x14274 (c14161 ++ c14276) := ha14275b ▸ rdL.app r14163 r14277
          refine d1 (de rfl (E_append (k := 6) H rfl Tryd.underlying23 ty3 rfl (by decide) (by decide) rfl rfl hs14278 (rdL.one r14277) (app_fit r14163 r14277 ha14275a)) rfl rfl ?_)
          rintro v14279 wd14282 ⟨H, hc14281⟩
          dsimp only [List.set] at H
          refine ⟨H.okS (by simp), ?_⟩
          refine dq rfl (fun _ _ => Q_assign rfl) rfl rfl <| DL_nil ?_
          replace H := H.f6
          replace H := H.f6
          replace H := H.f6
          replace H := H.f6
          replace H := H.f6
          replace H := H.f6
          replace H := H.f6
          obtain rfl := Option.some.inj ho14260
          refine x_A fun a hf => ⟨v14279, (c14161 ++ c14276), x14274, rfl, r14280, hf.sub ⟨rfl, rfl, rfl, rfl, rfl, rfl, rfl, trivial⟩, H⟩
         ·rintro a wd14283 ⟨v14256, c14257, x14258, rfl, r14259, hf, H⟩
          try dsimp only at hB14226
          refine XX.at hf <| x_block <| x_then <| R_nd <| nq (Q_add rfl rfl) rfl rfl <| nq (Q_move rfl) rfl rfl <| WL_nil ?_
          replace H := H.f6
          replace H := H.f6
          replace H := H.f6
          replace H := H.f6
          replace H := H.f6
          replace H := H.f6
          replace H := H.f6
          obtain rfl := Option.some.inj hB14226
          refine x_A fun a hf => ⟨_, rfl, v14256, c14257, x14258, w64 (x14164 + 1), rfl, r14259, hf.sub ⟨rfl, rfl, rfl, rfl, rfl, rfl, rfl, trivial⟩, H⟩
        ·replace hB14226 := itF hb hB14226
         refine C_exit <| x_then_exit <| x_then_exit <| x_block_exit ?_
         replace H := H.f6
         replace H := H.f5
         replace H := H.f5
         replace H := H.f5
         replace H := H.f5
         replace H := H.f5
         replace H := H.drop 6 rfl
         dsimp only [List.eraseIdx] at H
         obtain rfl := Option.some.inj hB14226
         obtain rfl := hO14227 _ rfl
         refine x_A fun a hf => ⟨v14160, c14161, x14162, rfl, r14163, hf.sub ⟨rfl, rfl, rfl, trivial⟩, H⟩
      ·rintro a wd14284 ⟨v14095, c14096, x14097, rfl, r14098, hf, H⟩
       try dsimp only at hB13810
       refine XX.at hf <| x_then <| C_seq <| C_seq <| R_nd <| nq (Q_move rfl) rfl rfl <| nq (Q_lenA (k := 5) H.ok rfl r14098 (by decide) Tryd.underlying23 rfl) rfl rfl <| nq (Q_move rfl) rfl rfl <| WL_nil <| x_then ?_
       obtain ⟨o14566, ho14566, hB13810⟩ := bnd hB13810
       refine C_cutQ (fun a w' => ∃ (v14562 : Value) (c14563 : (List Value)) (x14564 : (List Int)), x14564 = o14566 ∧ rdL (eI .i64) ρ x14564 c14563 ∧ Fr 103 a [(0, .pointer (some ⟨b1, 0, none⟩)), (3, v14095), (4, v14562)] ∧ Hp C w' ρ (Box b1 [v2, v5, v8, v11, v18, v12554, v13872] :: NA (eI .i64) 256 v11 c12 x13.flatten :: Arr v18 1 c12551 :: NA (eI .i64) 1 v12554 c12555 x12556 :: Arr v13872 2 c13873 :: Arr v14095 1 c14096 :: Arr v14562 1 c14563 :: hs)) ?_ ?_
       ·refine C_block ?_
        have H := H.nilArr 1
        replace H := H.f6
        replace H := H.f6
        replace H := H.f6
        replace H := H.f6
        replace H := H.f6
        replace H := H.f6
        refine C_iter (f := fun s => F_hopcroft_splitter_run_l2 N x12552 x14097 s.1 s.2) ho14566 (fun s a w' => ∃ (v14658 : Value) (c14659 : (List Value)) (x14660 : (List Int)) (x14662 : Int), (x14660, x14662) = s ∧ rdL (eI .i64) ρ x14660 c14659 ∧ Fr 103 a [(0, .pointer (some ⟨b1, 0, none⟩)), (3, v14095), (4, v14658), (70, v14095), (71, .int .i64 (x14097.length : Int)), (72, .int .i64 x14662)] ∧ Hp C w' ρ (Box b1 [v2, v5, v8, v11, v18, v12554, v13872] :: NA (eI .i64) 256 v11 c12 x13.flatten :: Arr v18 1 c12551 :: NA (eI .i64) 1 v12554 c12555 x12556 :: Arr v13872 2 c13873 :: Arr v14095 1 c14096 :: Arr v14658 1 c14659 :: hs)) ?_ ?_
        ·exact fun a hf => ⟨(.slice none 0 0), [], [], 0, rfl, rdL.nil, hf.sub ⟨rfl, rfl, rfl, rfl, rfl, rfl, trivial⟩, H⟩
        ·rintro s o14754 a wd14757 ⟨v14658, c14659, x14660, x14662, rfl, r14661, hf, H⟩ hB14755 hO14756
         replace hB14755 : F_hopcroft_splitter_run_l2 N x12552 x14097 x14660 x14662 = some o14754 := hB14755
         unfold F_hopcroft_splitter_run_l2 at hB14755
         refine CW.at hf <| C_seq <| R_nd <| nq (Q_lss rfl rfl) rfl rfl <| WL_nil <| x_then <| C_seq ?_
         refine C_cond rfl (fun hb => ?_) (fun hb => ?_)
         ·replace hB14755 := itT hb hB14755
          refine C_skip <| x_then ?_
          obtain ⟨o14802, ho14802, hB14755⟩ := bnd hB14755
          refine C_cut (fun a w' => ∃ (v14798 : Value) (c14799 : (List Value)) (x14800 : (List Int)), x14800 = o14802 ∧ rdL (eI .i64) ρ x14800 c14799 ∧ Fr 103 a [(0, .pointer (some ⟨b1, 0, none⟩)), (3, v14095), (4, v14798), (70, v14095), (71, .int .i64 (x14097.length : Int)), (72, .int .i64 x14662)] ∧ Hp C w' ρ (Box b1 [v2, v5, v8, v11, v18, v12554, v13872] :: NA (eI .i64) 256 v11 c12 x13.flatten :: Arr v18 1 c12551 :: NA (eI .i64) 1 v12554 c12555 x12556 :: Arr v13872 2 c13873 :: Arr v14095 1 c14096 :: Arr v14798 1 c14799 :: hs)) ?_ ?_
          ·refine C_block <| C_seq <| R_nd ?_
           obtain ⟨x14803, hx14803, ho14802⟩ := bnd ho14802
           obtain ⟨b14804, o14805, hi14809, hc14807, ha14808⟩ := arr_at (hs := [Arr v14095 1 c14096]) (k := 0) (by decide) (H.okS (by simp)) rfl r14098 hx14803
           refine nq (Q_idx hi14809 Tryd.underlying23 ty3 rfl rfl) rfl rfl <| nq (v := .int .i64 x14803) (Q_ld (show cellsAt _ _ _ [.int .i64 x14803] from (show _ = [_] from hc14807) ▸ (ha14808 _ (Ok.subS (by simp) H.ok))) ty3 rfl (fun _ => rfl) rfl rfl) rfl rfl <| nq (Q_assign rfl) rfl rfl <| WL_nil <| x_then <| C_seq <| R_nd <| nq (Q_move rfl) rfl rfl <| nq (Q_nilP rfl) rfl rfl <| nq (v := .pointer (some ⟨b1, 4, none⟩)) (Q_fld Tryd.underlying107 rfl ty23 (by decide) rfl rfl) rfl rfl <| nq (v := v18) (Q_ldB (k := 0) (cs := [v18]) H.ok rfl ty23 rfl rfl rfl (fun _ => rfl) rfl) rfl rfl <| nq (Q_move rfl) rfl rfl ?_
           obtain ⟨x14810, hx14810, ho14802⟩ := bnd ho14802
           obtain ⟨b14811, o14812, hi14816, hc14814, ha14815⟩ := arr_at (hs := [Arr v18 1 c12551]) (k := 0) (by decide) (H.okS (by simp)) rfl r12553 hx14810
           refine nq (Q_idx hi14816 Tryd.underlying23 ty3 rfl rfl) rfl rfl <| nq (v := .int .i64 x14810) (Q_ld (show cellsAt _ _ _ [.int .i64 x14810] from (show _ = [_] from hc14814) ▸ (ha14815 _ (Ok.subS (by simp) H.ok))) ty3 rfl (fun _ => rfl) rfl rfl) rfl rfl <| nq (Q_assign rfl) rfl rfl <| WL_nil <| x_then <| C_seq <| R_nd <| nq (Q_move rfl) rfl rfl <| nq (Q_move rfl) rfl rfl ?_
           replace H := H.f6
           obtain ⟨q14817, hq14817, ho14802⟩ := bnd ho14802
           obtain ⟨C', ρ', hl14818, HA, hL, hback⟩ := Hp.lend (A := []) (L := [Arr v14658 1 c14659]) (F := Box b1 [v2, v5, v8, v11, v18, v12554, v13872] :: NA (eI .i64) 256 v11 c12 x13.flatten :: Arr v18 1 c12551 :: NA (eI .i64) 1 v12554 c12555 x12556 :: Arr v13872 2 c13873 :: Arr v14095 1 c14096 :: hs) H
           refine ne (E_call fn91 rfl (c_91 HA  (arr_rd (by decide) hl14818 (hL (Arr v14658 1 c14659) (by simp)) r14661) hq14817)) rfl rfl ?_
           rintro _ wd14820 ⟨x14819, rfl, rfl, H⟩
           try dsimp only at ho14802
           replace H := hback H
           dsimp only [List.cons_append, List.nil_append] at H
           refine nq (Q_not rfl) rfl rfl <| WL_nil <| x_then ?_
           obtain ⟨o14833, ho14833, ho14802⟩ := bnd ho14802
           refine C_cutQ (fun a w' => ∃ (v14829 : Value) (c14830 : (List Value)) (x14831 : (List Int)), x14831 = o14833 ∧ rdL (eI .i64) ρ x14831 c14830 ∧ Fr 103 a [(0, .pointer (some ⟨b1, 0, none⟩)), (3, v14095), (4, v14829), (70, v14095), (71, .int .i64 (x14097.length : Int)), (72, .int .i64 x14662)] ∧ Hp C w' ρ (Box b1 [v2, v5, v8, v11, v18, v12554, v13872] :: NA (eI .i64) 256 v11 c12 x13.flatten :: Arr v18 1 c12551 :: NA (eI .i64) 1 v12554 c12555 x12556 :: Arr v13872 2 c13873 :: Arr v14095 1 c14096 :: Arr v14829 1 c14830 :: hs)) ?_ ?_
           ·refine C_cond rfl (fun hb => ?_) (fun hb => ?_)
            ·replace ho14833 := itT hb ho14833
             refine R_nd <| nq (Q_move rfl) rfl rfl <| nq (Q_move rfl) rfl rfl <| ne (E_bslice (xs := [.tmp 88]) (vs := [.int .i64 x14810]) H Tryd.underlying23 ty3 (by decide) (cs := [.int .i64 x14810]) rfl (sz_cons rfl sz_nil) rfl (by simp) (by simp) rfl rfl) rfl rfl ?_
             rintro _ wd14835 ⟨b14834, rfl, H⟩
             obtain ⟨x14836, hx14836, ho14833⟩ := bnd ho14833
             obtain ⟨ha14837a, ha14837b⟩ := app_some hx14836
             have r14839 : rdL (eI .i64) ρ x14836 (c14659 ++ ([.int .i64 x14810])) := ha14837b ▸ rdL.app r14661 (show rdL (eI .i64) ρ ([x14810]) ([.int .i64 x14810]) from ⟨([.int .i64 x14810]), _, rfl, rfl, rdL.nil⟩)
             refine ne (E_append (k := 1) H rfl Tryd.underlying23 ty3 rfl (by decide) (by decide) rfl rfl (Src.ofArr (k := 0) H.ok rfl) (rdL.one (show rdL (eI .i64) ρ ([x14810]) ([.int .i64 x14810]) from ⟨([.int .i64 x14810]), _, rfl, rfl, rdL.nil⟩)) (app_fit r14661 (show rdL (eI .i64) ρ ([x14810]) ([.int .i64 x14810]) from ⟨([.int .i64 x14810]), _, rfl, rfl, rdL.nil⟩) ha14837a)) rfl rfl ?_
             rintro v14838 wd14841 ⟨H, hc14840⟩
             dsimp only [List.set] at H
             refine nq (Q_assign rfl) rfl rfl <| WL_nil ?_
             replace H := H.f1
             replace H := H.f7
             replace H := H.f7
             replace H := H.f7
             replace H := H.f7
             replace H := H.f7
             replace H := H.f7
             replace H := H.drop 7 rfl
             dsimp only [List.eraseIdx] at H
             obtain rfl := Option.some.inj ho14833
             refine x_A fun a hf => ⟨v14838, (c14659 ++ ([.int .i64 x14810])), x14836, rfl, r14839, hf.sub ⟨rfl, rfl, rfl, rfl, rfl, rfl, trivial⟩, H⟩
            ·replace ho14833 := itF hb ho14833
             refine C_skip ?_
             replace H := H.f6
             replace H := H.f6
             replace H := H.f6
             replace H := H.f6
             replace H := H.f6
             replace H := H.f6
             obtain rfl := Option.some.inj ho14833
             refine x_A fun a hf => ⟨v14658, c14659, x14660, rfl, r14661, hf.sub ⟨rfl, rfl, rfl, rfl, rfl, rfl, trivial⟩, H⟩
           ·rintro a wd14842 ⟨v14829, c14830, x14831, rfl, r14832, hf, H⟩
            try dsimp only at ho14802
            refine XX.at hf <| x_block ?_
            replace H := H.f6
            replace H := H.f6
            replace H := H.f6
            replace H := H.f6
            replace H := H.f6
            replace H := H.f6
            replace H := H.f6
            obtain rfl := Option.some.inj ho14802
            refine x_A fun a hf => ⟨v14829, c14830, x14831, rfl, r14832, hf.sub ⟨rfl, rfl, rfl, rfl, rfl, rfl, trivial⟩, H⟩
          ·rintro a wd14843 ⟨v14798, c14799, x14800, rfl, r14801, hf, H⟩
           try dsimp only at hB14755
           refine CW.at hf <| R_nd <| nq (Q_add rfl rfl) rfl rfl <| nq (Q_move rfl) rfl rfl <| WL_nil ?_
           replace H := H.f6
           replace H := H.f6
           replace H := H.f6
           replace H := H.f6
           replace H := H.f6
           replace H := H.f6
           replace H := H.f6
           obtain rfl := Option.some.inj hB14755
           refine x_A fun a hf => ⟨_, rfl, v14798, c14799, x14800, w64 (x14662 + 1), rfl, r14801, hf.sub ⟨rfl, rfl, rfl, rfl, rfl, rfl, trivial⟩, H⟩
         ·replace hB14755 := itF hb hB14755
          refine C_exit <| x_then_exit <| x_then_exit <| x_block_exit ?_
          replace H := H.f6
          replace H := H.f6
          replace H := H.f6
          replace H := H.f6
          replace H := H.f6
          replace H := H.f6
          replace H := H.f6
          obtain rfl := Option.some.inj hB14755
          obtain rfl := hO14756 _ rfl
          refine x_A fun a hf => ⟨v14658, c14659, x14660, rfl, r14661, hf.sub ⟨rfl, rfl, rfl, trivial⟩, H⟩
       ·rintro a wd14844 ⟨v14562, c14563, x14564, rfl, r14565, hf, H⟩
        try dsimp only at hB13810
        refine XX.at hf <| x_then <| C_seq <| R_nd <| nq (Q_move rfl) rfl rfl <| nq (Q_lenA (k := 6) H.ok rfl r14565 (by decide) Tryd.underlying23 rfl) rfl rfl <| nq (Q_move rfl) rfl rfl <| WL_nil <| x_then ?_
        obtain ⟨o14952, ho14952, hB13810⟩ := bnd hB13810
        refine C_cutQ (fun a w' => ∃ (c14942 : (List Value)) (v14945 : Value) (c14946 : (List Value)) (v14948 : Value) (c14949 : (List Value)) (x14943 : (List Int)) (x14947 : (List (List Int))) (x14950 : (List (Int × Int))), (x14943, x14947, x14950) = o14952 ∧ rdL (eI .i64) ρ x14943 c14942 ∧ rdL (eP (eI .i64) (eI .u8)) ρ x14950 c14949 ∧ Fr 103 a [(0, .pointer (some ⟨b1, 0, none⟩))] ∧ Hp C w' ρ (Box b1 [v2, v5, v8, v11, v18, v14945, v14948] :: NA (eI .i64) 256 v11 c12 x13.flatten :: Arr v18 1 c14942 :: NA (eI .i64) 1 v14945 c14946 x14947 :: Arr v14948 2 c14949 :: hs)) ?_ ?_
        ·refine C_block ?_
         replace H := H.f6
         replace H := H.f6
         replace H := H.f6
         replace H := H.f6
         replace H := H.f6
         replace H := H.f6
         replace H := H.f6
         refine C_iter (f := fun s => F_hopcroft_splitter_run_l3 N x3 x6 x9 x13 x14097 x14564 s.1 s.2.1 s.2.2.1 s.2.2.2) ho14952 (fun s a w' => ∃ (c14984 : (List Value)) (v14987 : Value) (c14988 : (List Value)) (v14990 : Value) (c14991 : (List Value)) (x14985 : (List Int)) (x14989 : (List (List Int))) (x14992 : (List (Int × Int))) (x14994 : Int), (x14985, x14989, x14992, x14994) = s ∧ rdL (eI .i64) ρ x14985 c14984 ∧ rdL (eP (eI .i64) (eI .u8)) ρ x14992 c14991 ∧ Fr 103 a [(0, .pointer (some ⟨b1, 0, none⟩)), (3, v14095), (92, v14562), (93, .int .i64 (x14564.length : Int)), (94, .int .i64 x14994)] ∧ Hp C w' ρ (Box b1 [v2, v5, v8, v11, v18, v14987, v14990] :: NA (eI .i64) 256 v11 c12 x13.flatten :: Arr v18 1 c14984 :: NA (eI .i64) 1 v14987 c14988 x14989 :: Arr v14990 2 c14991 :: Arr v14095 1 c14096 :: Arr v14562 1 c14563 :: hs)) ?_ ?_
         ·exact fun a hf => ⟨c12551, v12554, c12555, v13872, c13873, x12552, x12556, x13874, 0, rfl, r12553, r13875, hf.sub ⟨rfl, rfl, rfl, rfl, rfl, trivial⟩, H⟩
         ·rintro s o15026 a wd15029 ⟨c14984, v14987, c14988, v14990, c14991, x14985, x14989, x14992, x14994, rfl, r14986, r14993, hf, H⟩ hB15027 hO15028
          replace hB15027 : F_hopcroft_splitter_run_l3 N x3 x6 x9 x13 x14097 x14564 x14985 x14989 x14992 x14994 = some o15026 := hB15027
          unfold F_hopcroft_splitter_run_l3 at hB15027
          refine CW.at hf <| C_seq <| R_nd <| nq (Q_lss rfl rfl) rfl rfl <| WL_nil <| x_then <| C_seq ?_
          refine C_cond rfl (fun hb => ?_) (fun hb => ?_)
          ·replace hB15027 := itT hb hB15027
           refine C_skip <| x_then <| C_seq <| C_block <| C_seq <| R_nd ?_
           obtain ⟨x15030, hx15030, hB15027⟩ := bnd hB15027
           obtain ⟨b15031, o15032, hi15036, hc15034, ha15035⟩ := arr_at (hs := [Arr v14562 1 c14563]) (k := 0) (by decide) (H.okS (by simp)) rfl r14565 hx15030
           refine nq (Q_idx hi15036 Tryd.underlying23 ty3 rfl rfl) rfl rfl <| nq (v := .int .i64 x15030) (Q_ld (show cellsAt _ _ _ [.int .i64 x15030] from (show _ = [_] from hc15034) ▸ (ha15035 _ (Ok.subS (by simp) H.ok))) ty3 rfl (fun _ => rfl) rfl rfl) rfl rfl <| nq (Q_assign rfl) rfl rfl <| WL_nil <| x_then <| R_nd <| nq (Q_move rfl) rfl rfl <| nq (Q_move rfl) rfl rfl <| nq (Q_move rfl) rfl rfl ?_
           replace H := H.f5
           replace H := H.f5
           replace H := H.f5
           replace H := H.f5
           replace H := H.f5
           replace H := H.f5
           obtain ⟨q15037, hq15037, hB15027⟩ := bnd hB15027
           obtain ⟨C', ρ', hl15038, HA, hL, hback⟩ := Hp.lend (A := [Box b1 [v2, v5, v8, v11, v18, v14987, v14990], NA (eI .i64) 256 v11 c12 x13.flatten, Arr v18 1 c14984, NA (eI .i64) 1 v14987 c14988 x14989, Arr v14990 2 c14991]) (L := [Arr v14095 1 c14096]) (F := Arr v14562 1 c14563 :: hs) H
           refine ne (E_call fn92 rfl (c_92 HA  (r4.up hl15038) (r7.up hl15038) (r10.up hl15038) gl14 (r14986.up hl15038) (r14993.up hl15038) (arr_rd (by decide) hl15038 (hL (Arr v14095 1 c14096) (by simp)) r14098) hq15037)) rfl rfl ?_
           rintro _ wd15049 ⟨c15039, v15040, c15041, v15042, c15043, x15044, x15045, x15046, rfl, rfl, r15047, r15048, H⟩
           try dsimp only at hB15027
           replace H := hback H
           replace r15047 := rdL.flat (ρ := ρ') (ρ' := ρ) (flat_I _) r15047
           replace r15048 := rdL.flat (ρ := ρ') (ρ' := ρ) (flat_P (flat_I _) (flat_I _)) r15048
           dsimp only [List.cons_append, List.nil_append] at H
           refine WL_nil <| x_block <| x_then <| R_nd <| nq (Q_add rfl rfl) rfl rfl <| nq (Q_move rfl) rfl rfl <| WL_nil ?_
           replace H := H.f6
           replace H := H.f6
           replace H := H.f6
           replace H := H.f6
           replace H := H.f6
           replace H := H.f6
           replace H := H.f6
           obtain rfl := Option.some.inj hB15027
           refine x_A fun a hf => ⟨_, rfl, c15039, v15040, c15041, v15042, c15043, x15044, x15045, x15046, w64 (x14994 + 1), rfl, r15047, r15048, hf.sub ⟨rfl, rfl, rfl, rfl, rfl, trivial⟩, H⟩
          ·replace hB15027 := itF hb hB15027
           refine C_exit <| x_then_exit <| x_then_exit <| x_block_exit ?_
           replace H := H.f4
           replace H := H.f4
           replace H := H.f4
           replace H := H.f4
           replace H := H.f4
           replace H := H.drop 5 rfl
           dsimp only [List.eraseIdx] at H
           replace H := H.drop 5 rfl
           dsimp only [List.eraseIdx] at H
           obtain rfl := Option.some.inj hB15027
           obtain rfl := hO15028 _ rfl
           refine x_A fun a hf => ⟨c14984, v14987, c14988, v14990, c14991, x14985, x14989, x14992, rfl, r14986, r14993, hf.sub ⟨rfl, trivial⟩, H⟩
        ·rintro a wd15050 ⟨c14942, v14945, c14946, v14948, c14949, x14943, x14947, x14950, rfl, r14944, r14951, hf, H⟩
         try dsimp only at hB13810
         refine XX.at hf <| x_block ?_
         replace H := H.f4
         replace H := H.f4
         replace H := H.f4
         replace H := H.f4
         replace H := H.f4
         obtain rfl := Option.some.inj hB13810
         refine x_A fun a hf => ⟨_, rfl, c14942, v14945, c14946, v14948, c14949, x14943, x14947, x14950, rfl, r14944, r14951, hf.sub ⟨rfl, trivial⟩, H⟩
   ·replace hB13810 := itF hb hB13810
    refine C_exit <| x_then_exit <| x_then_exit <| x_block_exit ?_
    replace H := H.f4
    replace H := H.f4
    replace H := H.f4
    replace H := H.f4
    replace H := H.f4
    obtain rfl := Option.some.inj hB13810
    obtain rfl := hO13811 _ rfl
    refine x_A fun a hf => ⟨c12551, v12554, c12555, v12557, c12558, x12552, x12556, x12559, rfl, r12553, r12560, hf.sub trivial, H⟩
 ·rintro a wd15051 ⟨c11292, v11295, c11296, v11298, c11299, x11293, x11297, x11300, rfl, r11294, r11301, hf, H⟩
  try dsimp only at hF
  refine XX.at hf ?_
  replace H := H.f4
  replace H := H.f4
  replace H := H.f4
  replace H := H.f4
  replace H := H.f4
  obtain rfl := Option.some.inj hF
  exact fn_end (l := []) (vs := []) rfl rfl rfl ⟨c11292, v11295, c11296, v11298, c11299, x11293, x11297, x11300, rfl, rfl, r11294, r11301, H⟩
theorem c_72 {N : Nat} {C : Cx} {w : World} {ρ : View} {hs : List Hl} {v1 : Value} {v4 : Value} {v7 : Value} {x2 : (List (List Int))} {x5 : (List Int)} {x8 : (List Int)} (H : Hp C w ρ (hs)) (r3 : RdSl ρ (eA 256 (eI .i64)) v1 x2) (r6 : RdSl ρ (eI .i64) v4 x5) (r9 : RdSl ρ (eI .i64) v7 x8) {r : ((List Int) × Int)} (hF : F_hopcroft_parts N x2 x5 x8 = some r) :
  Calls Tryd.prog 72 [.agg #[v1, v4, v7]].toArray w (Rets (fun v w' => (∃ (v380 : Value) (c381 : (List Value)) (x382 : (List Int)) (x384 : Int), (x382, x384) = r ∧ .tuple [v380, .int .i64 x384].toArray = v ∧ rdL (eI .i64) ρ x382 c381 ∧ Hp C w' ρ (Arr v380 1 c381 :: hs)))) := by
 unfold F_hopcroft_parts at hF
 have h0 : Tryd.f72.body = some _ := rfl
 refine fn_calls' Tryd.func72 h0 (n := 50) rfl (by simp) <| C_seq <| R_nd <| ne (E_box H (vs := [v1, v4, v7]) rfl rfl) rfl rfl ?_
 rintro _ wd386 ⟨b385, rfl, H⟩
 refine nq (Q_assign rfl) rfl rfl <| nq (Q_assign rfl) rfl rfl <| WL_nil <| x_then <| C_seq <| R_nd <| nq (v := .agg #[v1, v4, v7]) (Q_ldB (k := 0) (cs := [v1, v4, v7]) H.ok rfl ty25 rfl rfl rfl (fun h => nomatch h) rfl) rfl rfl <| nq (v := .agg #[v1, v4, v7, .slice none 0 0, .slice none 0 0, .slice none 0 0, .slice none 0 0]) (Q_buildS st107.choose_spec (ps := [(0, [v1, v4, v7])]) rfl ⟨rfl, rfl, by simp, trivial⟩ rfl) rfl rfl <| ne (E_box H (vs := [v1, v4, v7, .slice none 0 0, .slice none 0 0, .slice none 0 0, .slice none 0 0]) rfl rfl) rfl rfl ?_
 rintro _ wd388 ⟨b387, rfl, H⟩
 refine nq (Q_assign rfl) rfl rfl <| WL_nil <| x_then <| C_seq <| R_nd <| nq (Q_move rfl) rfl rfl ?_
 have H := H.nilNA (eI .i64) 256
 have H := H.nilArr 1
 have H := H.nilNA (eI .i64) 1
 have H := H.nilArr 2
 replace H := H.f1
 replace H := H.f2
 replace H := H.f3
 replace H := H.f4
 obtain ⟨q389, hq389, hF⟩ := bnd hF
 refine ne (E_call fn85 rfl (c_85 H  r3 r6 r9 nil_gl rdL.nil rdL.nil hq389)) rfl rfl ?_
 rintro _ wd406 ⟨v391, c392, v393, c394, v395, c396, v397, c398, x399, x400, x401, x402, rfl, rfl, r403, r404, r405, H⟩
 try dsimp only at hF
 refine WL_nil <| x_then <| C_seq <| R_nd <| nq (Q_move rfl) rfl rfl ?_
 replace H := H.f4
 replace H := H.f4
 replace H := H.f6
 replace H := H.f6
 replace H := H.f4
 obtain ⟨q407, hq407, hF⟩ := bnd hF
 refine ne (E_call fn86 rfl (c_86 H  r3 r6 r9 r403 r404 r405 hq407)) rfl rfl ?_
 rintro _ wd419 ⟨c409, v410, c411, v412, c413, x414, x415, x416, rfl, rfl, r417, r418, H⟩
 try dsimp only at hF
 refine WL_nil <| x_then <| C_seq <| R_nd <| ne (E_makeMap (kI .i64) (Value.int .i64) H) rfl rfl ?_
 rintro _ wd421 ⟨b420, rfl, H⟩
 refine nq (Q_assign rfl) rfl rfl <| WL_nil <| x_then <| C_seq <| R_nd <| nq (Q_assign rfl) rfl rfl <| WL_nil <| x_then <| C_seq <| C_seq <| R_nd <| nq (Q_move rfl) rfl rfl <| nq (Q_nilP rfl) rfl rfl <| nq (v := .pointer (some ⟨b387, 4, none⟩)) (Q_fld Tryd.underlying107 rfl ty23 (by decide) rfl rfl) rfl rfl ?_
 refine nq (v := v393) (Q_ldB (k := 1) (cs := [v393]) H.ok rfl ty23 rfl rfl rfl (fun _ => rfl) rfl) rfl rfl <| nq (Q_lenA (k := 3) H.ok rfl r417 (by decide) Tryd.underlying23 rfl) rfl rfl <| nq (Q_move rfl) rfl rfl <| WL_nil <| x_then ?_
 obtain ⟨o590, ho590, hF⟩ := bnd hF
 refine C_cutQ (fun a w' => ∃ (v586 : Value) (c587 : (List Value)) (x585 : (List (Int × Int))) (x588 : (List Int)), (x585, x588) = o590 ∧ rdL (eI .i64) ρ x588 c587 ∧ Fr 50 a [(5, .map (some b420)), (6, v586)] ∧ Hp C w' ρ (Mp (kI .i64) (Value.int .i64) b420 x585 :: Arr v586 1 c587 :: hs)) ?_ ?_
 ·refine C_block ?_
  have H := H.nilArr 1
  replace H := H.f1
  replace H := H.f4
  replace H := H.drop 3 rfl
  dsimp only [List.eraseIdx] at H
  replace H := H.drop 3 rfl
  dsimp only [List.eraseIdx] at H
  replace H := H.drop 3 rfl
  dsimp only [List.eraseIdx] at H
  replace H := H.drop 3 rfl
  dsimp only [List.eraseIdx] at H
  replace H := H.drop 3 rfl
  dsimp only [List.eraseIdx] at H
  replace H := H.drop 3 rfl
  dsimp only [List.eraseIdx] at H
  replace H := H.drop 3 rfl
  dsimp only [List.eraseIdx] at H
  refine C_iter (f := fun s => F_hopcroft_parts_l0 N x414 s.1 s.2.1 s.2.2) ho590 (fun s a w' => ∃ (v646 : Value) (c647 : (List Value)) (x644 : Int) (x645 : (List (Int × Int))) (x648 : (List Int)), (x644, x645, x648) = s ∧ rdL (eI .i64) ρ x648 c647 ∧ Fr 50 a [(5, .map (some b420)), (6, v646), (22, v393), (23, .int .i64 (x414.length : Int)), (24, .int .i64 x644)] ∧ Hp C w' ρ (Arr v393 1 c409 :: Mp (kI .i64) (Value.int .i64) b420 x645 :: Arr v646 1 c647 :: hs)) ?_ ?_
  ·exact fun a hf => ⟨(.slice none 0 0), [], 0, ([] : List (Int × Int)), [], rfl, rdL.nil, hf.sub ⟨rfl, rfl, rfl, rfl, rfl, trivial⟩, H⟩
  ·rintro s o703 a wd706 ⟨v646, c647, x644, x645, x648, rfl, r649, hf, H⟩ hB704 hO705
   replace hB704 : F_hopcroft_parts_l0 N x414 x644 x645 x648 = some o703 := hB704
   unfold F_hopcroft_parts_l0 at hB704
   refine CW.at hf <| C_seq <| R_nd <| nq (Q_lss rfl rfl) rfl rfl <| WL_nil <| x_then <| C_seq ?_
   refine C_cond rfl (fun hb => ?_) (fun hb => ?_)
   ·replace hB704 := itT hb hB704
    refine C_skip <| x_then ?_
    obtain ⟨o732, ho732, hB704⟩ := bnd hB704
    refine C_cut (fun a w' => ∃ (v728 : Value) (c729 : (List Value)) (x727 : (List (Int × Int))) (x730 : (List Int)), (x727, x730) = o732 ∧ rdL (eI .i64) ρ x730 c729 ∧ Fr 50 a [(5, .map (some b420)), (6, v728), (22, v393), (23, .int .i64 (x414.length : Int)), (24, .int .i64 x644)] ∧ Hp C w' ρ (Arr v393 1 c409 :: Mp (kI .i64) (Value.int .i64) b420 x727 :: Arr v728 1 c729 :: hs)) ?_ ?_
    ·refine C_block <| C_seq <| R_nd ?_
     obtain ⟨x733, hx733, ho732⟩ := bnd ho732
     obtain ⟨b734, o735, hi739, hc737, ha738⟩ := arr_at (hs := [Arr v393 1 c409]) (k := 0) (by decide) (H.okS (by simp)) rfl r417 hx733
     refine nq (Q_idx hi739 Tryd.underlying23 ty3 rfl rfl) rfl rfl <| nq (v := .int .i64 x733) (Q_ld (show cellsAt _ _ _ [.int .i64 x733] from (show _ = [_] from hc737) ▸ (ha738 _ (Ok.subS (by simp) H.ok))) ty3 rfl (fun _ => rfl) rfl rfl) rfl rfl <| nq (Q_assign rfl) rfl rfl <| WL_nil <| x_then <| C_seq <| C_seq <| R_nd <| nq (Q_move rfl) rfl rfl <| nq (Q_move rfl) rfl rfl <| nq (v := .tuple [.int .i64 ((mget x645 x733).getD 0), .bool ((mget x645 x733).isSome)].toArray) (Q_look (zp := 0) (k := 1) H.ok rfl Tryd.underlying108 (kOk_I Tryd.underlying3) trivial ty3 rfl rfl rfl) rfl rfl <| nq (Q_move rfl) rfl rfl <| nq (Q_extract rfl rfl) rfl rfl <| nq (Q_extract rfl rfl) rfl rfl ?_
     refine nq (Q_assign rfl) rfl rfl <| nq (Q_assign rfl) rfl rfl <| WL_nil <| x_then <| C_seq <| R_nd <| nq (Q_move rfl) rfl rfl <| nq (Q_not rfl) rfl rfl <| WL_nil <| x_then ?_
     obtain ⟨o742, ho742, ho732⟩ := bnd ho732
     refine C_cutQ (fun a w' => ∃ (x741 : (List (Int × Int))), x741 = o742 ∧ Fr 50 a [(5, .map (some b420)), (6, v646), (8, .int .i64 x733), (22, v393), (23, .int .i64 (x414.length : Int)), (24, .int .i64 x644)] ∧ Hp C w' ρ (Arr v393 1 c409 :: Mp (kI .i64) (Value.int .i64) b420 x741 :: Arr v646 1 c647 :: hs)) ?_ ?_
     ·refine C_cond rfl (fun hb => ?_) (fun hb => ?_)
      ·replace ho742 := itT hb ho742
       refine R_nd <| nq (Q_move rfl) rfl rfl <| nq (Q_move rfl) rfl rfl <| nq (Q_move rfl) rfl rfl <| nq (v := .int .i64 (x645.length : Int)) (Q_lenM (k := 1) H.ok rfl Tryd.underlying108 rfl) rfl rfl <| ne (E_mset (b := (x645.length : Int)) (k := 1) H rfl Tryd.underlying108 (kOk_I Tryd.underlying3) trivial rfl rfl rfl) rfl rfl ?_
       rintro _ wd743 H
       dsimp only [List.set] at H
       refine WL_nil ?_
       replace H := H.f2
       replace H := H.f2
       replace H := H.f2
       obtain rfl := Option.some.inj ho742
       refine x_A fun a hf => ⟨(mset x645 x733 (x645.length : Int)), rfl, hf.sub ⟨rfl, rfl, rfl, rfl, rfl, rfl, trivial⟩, H⟩
      ·replace ho742 := itF hb ho742
       refine C_skip ?_
       replace H := H.f2
       replace H := H.f2
       replace H := H.f2
       obtain rfl := Option.some.inj ho742
       refine x_A fun a hf => ⟨x645, rfl, hf.sub ⟨rfl, rfl, rfl, rfl, rfl, rfl, trivial⟩, H⟩
     ·rintro a wd744 ⟨x741, rfl, hf, H⟩
      try dsimp only at ho732
      refine XX.at hf <| x_then <| R_nd <| nq (Q_move rfl) rfl rfl <| nq (Q_move rfl) rfl rfl <| nq (Q_move rfl) rfl rfl <| nq (v := .int .i64 ((mget x741 x733).getD 0)) (Q_look1 (zp := 0) (k := 1) H.ok rfl Tryd.underlying108 (kOk_I Tryd.underlying3) trivial ty3 rfl rfl rfl) rfl rfl <| ne (E_bslice (xs := [.tmp 43]) (vs := [.int .i64 ((mget x741 x733).getD 0)]) H Tryd.underlying23 ty3 (by decide) (cs := [.int .i64 ((mget x741 x733).getD 0)]) rfl (sz_cons rfl sz_nil) rfl (by simp) (by simp) rfl rfl) rfl rfl ?_
      rintro _ wd746 ⟨b745, rfl, H⟩
      obtain ⟨x747, hx747, ho732⟩ := bnd ho732
      obtain ⟨ha748a, ha748b⟩ := app_some hx747
      have r750 : rdL (eI .i64) ρ x747 (c647 ++ ([.int .i64 ((mget x741 x733).getD 0)])) := ha748b ▸ rdL.app r649 (show rdL (eI .i64) ρ ([(mget x741 x733).getD 0]) ([.int .i64 ((mget x741 x733).getD 0)]) from ⟨([.int .i64 ((mget x741 x733).getD 0)]), _, rfl, rfl, rdL.nil⟩)
      refine ne (E_append (k := 3) H rfl Tryd.underlying23 ty3 rfl (by decide) (by decide) rfl rfl (Src.ofArr (k := 0) H.ok rfl) (rdL.one (show rdL (eI .i64) ρ ([(mget x741 x733).getD 0]) ([.int .i64 ((mget x741 x733).getD 0)]) from ⟨([.int .i64 ((mget x741 x733).getD 0)]), _, rfl, rfl, rdL.nil⟩)) (app_fit r649 (show rdL (eI .i64) ρ ([(mget x741 x733).getD 0]) ([.int .i64 ((mget x741 x733).getD 0)]) from ⟨([.int .i64 ((mget x741 x733).getD 0)]), _, rfl, rfl, rdL.nil⟩) ha748a)) rfl rfl ?_
      rintro v749 wd752 ⟨H, hc751⟩
      dsimp only [List.set] at H
      refine nq (Q_assign rfl) rfl rfl <| WL_nil <| x_block ?_
      replace H := H.f3
      replace H := H.f3
      replace H := H.f3
      replace H := H.drop 3 rfl
      dsimp only [List.eraseIdx] at H
      obtain rfl := Option.some.inj ho732
      refine x_A fun a hf => ⟨v749, (c647 ++ ([.int .i64 ((mget x741 x733).getD 0)])), x741, x747, rfl, r750, hf.sub ⟨rfl, rfl, rfl, rfl, rfl, trivial⟩, H⟩
    ·rintro a wd753 ⟨v728, c729, x727, x730, rfl, r731, hf, H⟩
     try dsimp only at hB704
     refine CW.at hf <| R_nd <| nq (Q_add rfl rfl) rfl rfl <| nq (Q_move rfl) rfl rfl <| WL_nil ?_
     replace H := H.f2
     replace H := H.f2
     replace H := H.f2
     obtain rfl := Option.some.inj hB704
     refine x_A fun a hf => ⟨_, rfl, v728, c729, w64 (x644 + 1), x727, x730, rfl, r731, hf.sub ⟨rfl, rfl, rfl, rfl, rfl, trivial⟩, H⟩
   ·replace hB704 := itF hb hB704
    refine C_exit <| x_then_exit <| x_then_exit <| x_block_exit ?_
    replace H := H.f2
    replace H := H.f2
    replace H := H.drop 2 rfl
    dsimp only [List.eraseIdx] at H
    obtain rfl := Option.some.inj hB704
    obtain rfl := hO705 _ rfl
    refine x_A fun a hf => ⟨v646, c647, x645, x648, rfl, r649, hf.sub ⟨rfl, rfl, trivial⟩, H⟩
 ·rintro a wd754 ⟨v586, c587, x585, x588, rfl, r589, hf, H⟩
  try dsimp only at hF
  refine XX.at hf <| x_then <| C_seq <| R_nd <| nq (Q_move rfl) rfl rfl <| nq (Q_move rfl) rfl rfl <| nq (v := .int .i64 (x585.length : Int)) (Q_lenM (k := 0) H.ok rfl Tryd.underlying108 rfl) rfl rfl <| nq (Q_assign rfl) rfl rfl <| nq (Q_assign rfl) rfl rfl <| WL_nil <| x_then <| C_ret ?_
  replace H := H.f1
  replace H := H.drop 1 rfl
  dsimp only [List.eraseIdx] at H
  obtain rfl := Option.some.inj hF
  exact fn_ret (l := [.tmp 2, .tmp 3]) (vs := [v586, .int .i64 (x585.length : Int)]) rfl rfl rfl ⟨v586, c587, x588, (x585.length : Int), rfl, rfl, r589, H⟩
set_option maxHeartbeats 8000000 in
theorem c_43 {N : Nat} {C : Cx} {w : World} {ρ : View} {hs : List Hl} {v1 : Value} {v4 : Value} {v7 : Value} {x2 : (List (List Int))} {x5 : (List Int)} {x8 : (List Int)} (H : Hp C w ρ (hs)) (r3 : RdSl ρ (eA 256 (eI .i64)) v1 x2) (r6 : RdSl ρ (eI .i64) v4 x5) (r9 : RdSl ρ (eI .i64) v7 x8) {r : ((List (List Int)) × (List Int) × (List Int))} (hF : F_hopcroft_Merge N x2 x5 x8 = some r) :
  Calls Tryd.prog 43 [.agg #[v1, v4, v7]].toArray w (Rets (fun v w' => (∃ (v2839 : Value) (c2840 : (List Value)) (v2843 : Value) (c2844 : (List Value)) (v2847 : Value) (c2848 : (List Value)) (x2841 : (List (List Int))) (x2845 : (List Int)) (x2849 : (List Int)), (x2841, x2845, x2849) = r ∧ .agg #[v2839, v2843, v2847] = v ∧ rdL (eA 256 (eI .i64)) ρ x2841 c2840 ∧ rdL (eI .i64) ρ x2845 c2844 ∧ rdL (eI .i64) ρ x2849 c2848 ∧ Hp C w' ρ (Arr v2839 256 c2840 :: Arr v2843 1 c2844 :: Arr v2847 1 c2848 :: hs)))) := by
 unfold F_hopcroft_Merge at hF
 have h0 : Tryd.f43.body = some _ := rfl
 refine fn_calls' Tryd.func43 h0 (n := 81) rfl (by simp) <| C_seq <| R_nd <| ne (E_box H (vs := [v1, v4, v7]) rfl rfl) rfl rfl ?_
 rintro _ wd2852 ⟨b2851, rfl, H⟩
 refine ne (E_alloc H ty25 (zs := [.slice none 0 0, .slice none 0 0, .slice none 0 0]) rfl) rfl rfl ?_
 rintro _ wd2854 ⟨b2853, rfl, H⟩
 refine WL_nil <| x_then <| C_seq <| C_seq <| R_nd <| nq (v := .agg #[v1, v4, v7]) (Q_ldB (k := 1) (cs := [v1, v4, v7]) H.ok rfl ty25 rfl rfl rfl (fun h => nomatch h) rfl) rfl rfl ?_
 obtain ⟨q2855, hq2855, hF⟩ := bnd hF
 refine ne (E_call fn26 rfl (c_26 H  r3 r6 r9 hq2855)) rfl rfl ?_
 rintro _ wd2858 ⟨x2857, rfl, rfl, H⟩
 try dsimp only at hF
 refine nq (Q_not rfl) rfl rfl <| WL_nil <| x_then ?_
 refine C_cond rfl (fun hb => ?_) (fun hb => ?_)
 ·replace hF := itT hb hF
  refine C_seq <| R_nd <| nq (v := .agg #[.slice none 0 0, .slice none 0 0, .slice none 0 0]) (Q_buildS st25.choose_spec (ps := []) rfl trivial rfl) rfl rfl <| ne (E_stB (k := 0) (cs := [.slice none 0 0, .slice none 0 0, .slice none 0 0]) (vs' := [.slice none 0 0, .slice none 0 0, .slice none 0 0]) H rfl ty25 rfl rfl rfl rfl (one_cons rfl (one_cons rfl (one_cons rfl one_nil))) (by simp) rfl) rfl rfl ?_
  rintro _ wd2859 H
  dsimp only [List.set] at H
  refine WL_nil <| x_then <| C_ret <| x_then_ret ?_
  have H := H.nilArr 256
  have H := H.nilArr 1
  have H := H.nilArr 1
  have hRV : RV Tryd.prog wd2859 [(2, .pointer (some ⟨b2853, 0, none⟩))] [.cell 2 25] [.agg #[(.slice none 0 0), (.slice none 0 0), (.slice none 0 0)]] := ⟨⟨_, rfl, run_ldv ty25 rfl (fun h => nomatch h) (box_at (H.ok.get (k := 3) rfl) 0 3)⟩, trivial⟩
  replace H := H.f1
  replace H := H.f2
  replace H := H.drop 3 rfl
  dsimp only [List.eraseIdx] at H
  replace H := H.drop 3 rfl
  dsimp only [List.eraseIdx] at H
  obtain rfl := Option.some.inj hF
  exact fn_retV (rs := [.cell 2 25]) (vs := [.agg #[(.slice none 0 0), (.slice none 0 0), (.slice none 0 0)]]) rfl hRV ⟨(.slice none 0 0), [], (.slice none 0 0), [], (.slice none 0 0), [], [], [], [], rfl, rfl, rdL.nil, rdL.nil, rdL.nil, H⟩
 ·replace hF := itF hb hF
  refine C_skip <| x_then <| C_seq <| R_nd <| nq (v := .agg #[v1, v4, v7]) (Q_ldB (k := 1) (cs := [v1, v4, v7]) H.ok rfl ty25 rfl rfl rfl (fun h => nomatch h) rfl) rfl rfl ?_
  obtain ⟨q2860, hq2860, hF⟩ := bnd hF
  refine ne (E_call fn72 rfl (c_72 H  r3 r6 r9 hq2860)) rfl rfl ?_
  rintro _ wd2867 ⟨v2862, c2863, x2864, x2865, rfl, rfl, r2866, H⟩
  try dsimp only at hF
  refine nq (Q_move rfl) rfl rfl <| nq (Q_extract rfl rfl) rfl rfl <| nq (Q_extract rfl rfl) rfl rfl <| nq (Q_assign rfl) rfl rfl <| nq (Q_assign rfl) rfl rfl <| WL_nil <| x_then ?_
  obtain ⟨o2933, ho2933, hF⟩ := bnd hF
  refine C_cut (fun a w' => ∃ (b2924 : Nat) (v2925 : Value) (c2926 : (List Value)) (v2929 : Value) (c2930 : (List Value)) (x2927 : (List (List Int))) (x2931 : (List Int)), (x2927, x2931) = o2933 ∧ rdL (eA 256 (eI .i64)) ρ x2927 c2926 ∧ rdL (eI .i64) ρ x2931 c2930 ∧ Fr 81 a [(1, .pointer (some ⟨b2851, 0, none⟩)), (2, .pointer (some ⟨b2853, 0, none⟩)), (3, v2862), (5, .pointer (some ⟨b2924, 0, none⟩))] ∧ Hp C w' ρ (Box b2851 [v1, v4, v7] :: Box b2853 [.slice none 0 0, .slice none 0 0, .slice none 0 0] :: Arr v2862 1 c2863 :: Box b2924 [v2925, v2929, .slice none 0 0] :: Arr v2925 256 c2926 :: Arr v2929 1 c2930 :: hs)) ?_ ?_
  ·refine R_dr (.take 0 (.take 2 (.three 1 3 5 (.two 3 5 (.take 4 (.one 5 (.one 6 .done))) (.one 3 (.take 4 (.one 6 .done)))) (.two 1 5 (.take 4 (.one 5 (.one 6 .done))) (.one 1 (.take 4 (.one 6 .done)))) (.two 1 3 (.one 3 (.take 4 (.one 6 .done))) (.one 1 (.take 4 (.one 6 .done))))))) (fun w' => Ok w' ρ [Arr v2862 1 c2863, Box b2853 [.slice none 0 0, .slice none 0 0, .slice none 0 0], Box b2851 [v1, v4, v7]]) (by kernel_rfl) (by kernel_rfl) (by kernel_rfl) (H.drew.okS (by simp)) ?_
   replace H := H.drew
   refine dq rfl (fun _ _ => Q_move rfl) rfl rfl <| dq rfl (fun _ _ => Q_move rfl) rfl rfl ?_
   refine d3 ?_ ?_ ?_
   ·obtain ⟨x2934, hx2934, ho2933⟩ := bnd ho2933
    obtain ⟨hm2936a, hm2936b, hm2936c⟩ := mk_some hx2934
    refine de rfl (E_make H Tryd.underlying22 ty58 (zs := (repC 256 [.int .i64 0])) rfl (by simp [repC_length]) (by decide) (by decide) rfl hm2936a hm2936b) rfl rfl ?_
    rintro _ wd2937 ⟨b2935, rfl, H⟩
    refine ⟨H.okS (by simp), ?_⟩
    refine d2 ?_ ?_
    ·obtain ⟨x2938, hx2938, ho2933⟩ := bnd ho2933
     obtain ⟨hm2940a, hm2940b, hm2940c⟩ := mk_some hx2938
     refine de rfl (E_make H Tryd.underlying23 ty3 (zs := [.int .i64 0]) rfl rfl (by decide) (by decide) rfl hm2940a hm2940b) rfl rfl ?_
     rintro _ wd2941 ⟨b2939, rfl, H⟩
     refine ⟨H.okS (by simp), ?_⟩
     refine dq (v := .agg #[(.slice (some ⟨b2935, 0, none⟩) x2865.toNat x2865.toNat), (.slice (some ⟨b2939, 0, none⟩) x2865.toNat x2865.toNat), .slice none 0 0]) rfl (fun _ _ => Q_buildS st25.choose_spec (ps := [(0, [(.slice (some ⟨b2935, 0, none⟩) x2865.toNat x2865.toNat)]), (1, [(.slice (some ⟨b2939, 0, none⟩) x2865.toNat x2865.toNat)])]) rfl ⟨rfl, (arr_cells (H.ok.get (k := 1) rfl)).1, by simp, ⟨rfl, (arr_cells (H.ok.get (k := 0) rfl)).1, by simp, trivial⟩⟩ rfl) rfl rfl ?_
     refine d1 (de rfl (E_alloc H ty25 (zs := [.slice none 0 0, .slice none 0 0, .slice none 0 0]) rfl) rfl rfl ?_)
     rintro _ wd2943 ⟨b2942, rfl, H⟩
     refine ⟨H.okS (by simp), ?_⟩
     refine d1 (de rfl (E_stB (k := 0) (cs := [(.slice (some ⟨b2935, 0, none⟩) x2865.toNat x2865.toNat), (.slice (some ⟨b2939, 0, none⟩) x2865.toNat x2865.toNat), .slice none 0 0]) (vs' := [(.slice (some ⟨b2935, 0, none⟩) x2865.toNat x2865.toNat), (.slice (some ⟨b2939, 0, none⟩) x2865.toNat x2865.toNat), .slice none 0 0]) H rfl ty25 rfl rfl rfl rfl (one_cons (arr_cells (H.ok.get (k := 2) rfl)).2 (one_cons (arr_cells (H.ok.get (k := 1) rfl)).2 (one_cons rfl one_nil))) (by simp) rfl) rfl rfl ?_)
     rintro _ wd2944 H
     dsimp only [List.set] at H
     refine ⟨H.okS (by simp), ?_⟩
     refine DL_nil ?_
     replace H := H.f1
     replace H := H.f2
     replace H := H.f2
     replace H := H.f3
     replace H := H.f4
     replace H := H.f5
     obtain rfl := Option.some.inj ho2933
     refine x_A fun a hf => ⟨b2942, (.slice (some ⟨b2935, 0, none⟩) x2865.toNat x2865.toNat), (repC x2865.toNat (repC 256 [.int .i64 0])), (.slice (some ⟨b2939, 0, none⟩) x2865.toNat x2865.toNat), (repC x2865.toNat [.int .i64 0]), x2934, x2938, rfl, (hm2936c ▸ rdL_rep (e := (eA 256 (eI .i64))) (ρ := ρ) (⟨by simp, rdL_rep (e:=(eI .i64)) (ρ:=ρ) (rfl) 256⟩) _), (hm2940c ▸ rdL_rep (e := (eI .i64)) (ρ := ρ) (rfl) _), hf.sub ⟨rfl, rfl, rfl, rfl, trivial⟩, H⟩
    ·refine de rfl (E_alloc H ty25 (zs := [.slice none 0 0, .slice none 0 0, .slice none 0 0]) rfl) rfl rfl ?_
     rintro _ wd2946 ⟨b2945, rfl, H⟩
     refine ⟨H.okS (by simp), ?_⟩
     obtain ⟨x2947, hx2947, ho2933⟩ := bnd ho2933
     obtain ⟨hm2949a, hm2949b, hm2949c⟩ := mk_some hx2947
     refine d1 (de rfl (E_make H Tryd.underlying23 ty3 (zs := [.int .i64 0]) rfl rfl (by decide) (by decide) rfl hm2949a hm2949b) rfl rfl ?_)
     rintro _ wd2950 ⟨b2948, rfl, H⟩
     refine ⟨H.okS (by simp), ?_⟩
     refine dq (v := .agg #[(.slice (some ⟨b2935, 0, none⟩) x2865.toNat x2865.toNat), (.slice (some ⟨b2948, 0, none⟩) x2865.toNat x2865.toNat), .slice none 0 0]) rfl (fun _ _ => Q_buildS st25.choose_spec (ps := [(0, [(.slice (some ⟨b2935, 0, none⟩) x2865.toNat x2865.toNat)]), (1, [(.slice (some ⟨b2948, 0, none⟩) x2865.toNat x2865.toNat)])]) rfl ⟨rfl, (arr_cells (H.ok.get (k := 2) rfl)).1, by simp, ⟨rfl, (arr_cells (H.ok.get (k := 0) rfl)).1, by simp, trivial⟩⟩ rfl) rfl rfl ?_
     refine d1 (de rfl (E_stB (k := 1) (cs := [(.slice (some ⟨b2935, 0, none⟩) x2865.toNat x2865.toNat), (.slice (some ⟨b2948, 0, none⟩) x2865.toNat x2865.toNat), .slice none 0 0]) (vs' := [(.slice (some ⟨b2935, 0, none⟩) x2865.toNat x2865.toNat), (.slice (some ⟨b2948, 0, none⟩) x2865.toNat x2865.toNat), .slice none 0 0]) H rfl ty25 rfl rfl rfl rfl (one_cons (arr_cells (H.ok.get (k := 2) rfl)).2 (one_cons (arr_cells (H.ok.get (k := 0) rfl)).2 (one_cons rfl one_nil))) (by simp) rfl) rfl rfl ?_)
     rintro _ wd2951 H
     dsimp only [List.set] at H
     refine ⟨H.okS (by simp), ?_⟩
     refine DL_nil ?_
     replace H := H.f2
     replace H := H.f2
     replace H := H.f3
     replace H := H.f4
     replace H := H.f5
     obtain rfl := Option.some.inj ho2933
     refine x_A fun a hf => ⟨b2945, (.slice (some ⟨b2935, 0, none⟩) x2865.toNat x2865.toNat), (repC x2865.toNat (repC 256 [.int .i64 0])), (.slice (some ⟨b2948, 0, none⟩) x2865.toNat x2865.toNat), (repC x2865.toNat [.int .i64 0]), x2934, x2947, rfl, (hm2936c ▸ rdL_rep (e := (eA 256 (eI .i64))) (ρ := ρ) (⟨by simp, rdL_rep (e:=(eI .i64)) (ρ:=ρ) (rfl) 256⟩) _), (hm2949c ▸ rdL_rep (e := (eI .i64)) (ρ := ρ) (rfl) _), hf.sub ⟨rfl, rfl, rfl, rfl, trivial⟩, H⟩
   ·obtain ⟨x2952, hx2952, ho2933⟩ := bnd ho2933
    obtain ⟨x2953, hx2953, ho2933⟩ := bnd ho2933
    obtain ⟨hm2955a, hm2955b, hm2955c⟩ := mk_some hx2953
    refine de rfl (E_make H Tryd.underlying23 ty3 (zs := [.int .i64 0]) rfl rfl (by decide) (by decide) rfl hm2955a hm2955b) rfl rfl ?_
    rintro _ wd2956 ⟨b2954, rfl, H⟩
    refine ⟨H.okS (by simp), ?_⟩
    refine d2 ?_ ?_
    ·obtain ⟨hm2958a, hm2958b, hm2958c⟩ := mk_some hx2952
     refine de rfl (E_make H Tryd.underlying22 ty58 (zs := (repC 256 [.int .i64 0])) rfl (by simp [repC_length]) (by decide) (by decide) rfl hm2958a hm2958b) rfl rfl ?_
     rintro _ wd2959 ⟨b2957, rfl, H⟩
     refine ⟨H.okS (by simp), ?_⟩
     refine dq (v := .agg #[(.slice (some ⟨b2957, 0, none⟩) x2865.toNat x2865.toNat), (.slice (some ⟨b2954, 0, none⟩) x2865.toNat x2865.toNat), .slice none 0 0]) rfl (fun _ _ => Q_buildS st25.choose_spec (ps := [(0, [(.slice (some ⟨b2957, 0, none⟩) x2865.toNat x2865.toNat)]), (1, [(.slice (some ⟨b2954, 0, none⟩) x2865.toNat x2865.toNat)])]) rfl ⟨rfl, (arr_cells (H.ok.get (k := 0) rfl)).1, by simp, ⟨rfl, (arr_cells (H.ok.get (k := 1) rfl)).1, by simp, trivial⟩⟩ rfl) rfl rfl ?_
     refine d1 (de rfl (E_alloc H ty25 (zs := [.slice none 0 0, .slice none 0 0, .slice none 0 0]) rfl) rfl rfl ?_)
     rintro _ wd2961 ⟨b2960, rfl, H⟩
     refine ⟨H.okS (by simp), ?_⟩
     refine d1 (de rfl (E_stB (k := 0) (cs := [(.slice (some ⟨b2957, 0, none⟩) x2865.toNat x2865.toNat), (.slice (some ⟨b2954, 0, none⟩) x2865.toNat x2865.toNat), .slice none 0 0]) (vs' := [(.slice (some ⟨b2957, 0, none⟩) x2865.toNat x2865.toNat), (.slice (some ⟨b2954, 0, none⟩) x2865.toNat x2865.toNat), .slice none 0 0]) H rfl ty25 rfl rfl rfl rfl (one_cons (arr_cells (H.ok.get (k := 1) rfl)).2 (one_cons (arr_cells (H.ok.get (k := 2) rfl)).2 (one_cons rfl one_nil))) (by simp) rfl) rfl rfl ?_)
     rintro _ wd2962 H
     dsimp only [List.set] at H
     refine ⟨H.okS (by simp), ?_⟩
     refine DL_nil ?_
     replace H := H.f2
     replace H := H.f2
     replace H := H.f2
     replace H := H.f3
     replace H := H.f4
     replace H := H.f5
     obtain rfl := Option.some.inj ho2933
     refine x_A fun a hf => ⟨b2960, (.slice (some ⟨b2957, 0, none⟩) x2865.toNat x2865.toNat), (repC x2865.toNat (repC 256 [.int .i64 0])), (.slice (some ⟨b2954, 0, none⟩) x2865.toNat x2865.toNat), (repC x2865.toNat [.int .i64 0]), x2952, x2953, rfl, (hm2958c ▸ rdL_rep (e := (eA 256 (eI .i64))) (ρ := ρ) (⟨by simp, rdL_rep (e:=(eI .i64)) (ρ:=ρ) (rfl) 256⟩) _), (hm2955c ▸ rdL_rep (e := (eI .i64)) (ρ := ρ) (rfl) _), hf.sub ⟨rfl, rfl, rfl, rfl, trivial⟩, H⟩
    ·refine de rfl (E_alloc H ty25 (zs := [.slice none 0 0, .slice none 0 0, .slice none 0 0]) rfl) rfl rfl ?_
     rintro _ wd2964 ⟨b2963, rfl, H⟩
     refine ⟨H.okS (by simp), ?_⟩
     obtain ⟨hm2966a, hm2966b, hm2966c⟩ := mk_some hx2952
     refine d1 (de rfl (E_make H Tryd.underlying22 ty58 (zs := (repC 256 [.int .i64 0])) rfl (by simp [repC_length]) (by decide) (by decide) rfl hm2966a hm2966b) rfl rfl ?_)
     rintro _ wd2967 ⟨b2965, rfl, H⟩
     refine ⟨H.okS (by simp), ?_⟩
     refine dq (v := .agg #[(.slice (some ⟨b2965, 0, none⟩) x2865.toNat x2865.toNat), (.slice (some ⟨b2954, 0, none⟩) x2865.toNat x2865.toNat), .slice none 0 0]) rfl (fun _ _ => Q_buildS st25.choose_spec (ps := [(0, [(.slice (some ⟨b2965, 0, none⟩) x2865.toNat x2865.toNat)]), (1, [(.slice (some ⟨b2954, 0, none⟩) x2865.toNat x2865.toNat)])]) rfl ⟨rfl, (arr_cells (H.ok.get (k := 0) rfl)).1, by simp, ⟨rfl, (arr_cells (H.ok.get (k := 2) rfl)).1, by simp, trivial⟩⟩ rfl) rfl rfl ?_
     refine d1 (de rfl (E_stB (k := 1) (cs := [(.slice (some ⟨b2965, 0, none⟩) x2865.toNat x2865.toNat), (.slice (some ⟨b2954, 0, none⟩) x2865.toNat x2865.toNat), .slice none 0 0]) (vs' := [(.slice (some ⟨b2965, 0, none⟩) x2865.toNat x2865.toNat), (.slice (some ⟨b2954, 0, none⟩) x2865.toNat x2865.toNat), .slice none 0 0]) H rfl ty25 rfl rfl rfl rfl (one_cons (arr_cells (H.ok.get (k := 0) rfl)).2 (one_cons (arr_cells (H.ok.get (k := 2) rfl)).2 (one_cons rfl one_nil))) (by simp) rfl) rfl rfl ?_)
     rintro _ wd2968 H
     dsimp only [List.set] at H
     refine ⟨H.okS (by simp), ?_⟩
     refine DL_nil ?_
     replace H := H.f2
     replace H := H.f1
     replace H := H.f2
     replace H := H.f3
     replace H := H.f4
     replace H := H.f5
     obtain rfl := Option.some.inj ho2933
     refine x_A fun a hf => ⟨b2963, (.slice (some ⟨b2965, 0, none⟩) x2865.toNat x2865.toNat), (repC x2865.toNat (repC 256 [.int .i64 0])), (.slice (some ⟨b2954, 0, none⟩) x2865.toNat x2865.toNat), (repC x2865.toNat [.int .i64 0]), x2952, x2953, rfl, (hm2966c ▸ rdL_rep (e := (eA 256 (eI .i64))) (ρ := ρ) (⟨by simp, rdL_rep (e:=(eI .i64)) (ρ:=ρ) (rfl) 256⟩) _), (hm2955c ▸ rdL_rep (e := (eI .i64)) (ρ := ρ) (rfl) _), hf.sub ⟨rfl, rfl, rfl, rfl, trivial⟩, H⟩
   ·refine de rfl (E_alloc H ty25 (zs := [.slice none 0 0, .slice none 0 0, .slice none 0 0]) rfl) rfl rfl ?_
    rintro _ wd2970 ⟨b2969, rfl, H⟩
    refine ⟨H.okS (by simp), ?_⟩
    refine d2 ?_ ?_
    ·obtain ⟨x2971, hx2971, ho2933⟩ := bnd ho2933
     obtain ⟨hm2973a, hm2973b, hm2973c⟩ := mk_some hx2971
     refine de rfl (E_make H Tryd.underlying22 ty58 (zs := (repC 256 [.int .i64 0])) rfl (by simp [repC_length]) (by decide) (by decide) rfl hm2973a hm2973b) rfl rfl ?_
     rintro _ wd2974 ⟨b2972, rfl, H⟩
     refine ⟨H.okS (by simp), ?_⟩
     obtain ⟨x2975, hx2975, ho2933⟩ := bnd ho2933
     obtain ⟨hm2977a, hm2977b, hm2977c⟩ := mk_some hx2975
     refine d1 (de rfl (E_make H Tryd.underlying23 ty3 (zs := [.int .i64 0]) rfl rfl (by decide) (by decide) rfl hm2977a hm2977b) rfl rfl ?_)
     rintro _ wd2978 ⟨b2976, rfl, H⟩
     refine ⟨H.okS (by simp), ?_⟩
     refine dq (v := .agg #[(.slice (some ⟨b2972, 0, none⟩) x2865.toNat x2865.toNat), (.slice (some ⟨b2976, 0, none⟩) x2865.toNat x2865.toNat), .slice none 0 0]) rfl (fun _ _ => Q_buildS st25.choose_spec (ps := [(0, [(.slice (some ⟨b2972, 0, none⟩) x2865.toNat x2865.toNat)]), (1, [(.slice (some ⟨b2976, 0, none⟩) x2865.toNat x2865.toNat)])]) rfl ⟨rfl, (arr_cells (H.ok.get (k := 1) rfl)).1, by simp, ⟨rfl, (arr_cells (H.ok.get (k := 0) rfl)).1, by simp, trivial⟩⟩ rfl) rfl rfl ?_
     refine d1 (de rfl (E_stB (k := 2) (cs := [(.slice (some ⟨b2972, 0, none⟩) x2865.toNat x2865.toNat), (.slice (some ⟨b2976, 0, none⟩) x2865.toNat x2865.toNat), .slice none 0 0]) (vs' := [(.slice (some ⟨b2972, 0, none⟩) x2865.toNat x2865.toNat), (.slice (some ⟨b2976, 0, none⟩) x2865.toNat x2865.toNat), .slice none 0 0]) H rfl ty25 rfl rfl rfl rfl (one_cons (arr_cells (H.ok.get (k := 1) rfl)).2 (one_cons (arr_cells (H.ok.get (k := 0) rfl)).2 (one_cons rfl one_nil))) (by simp) rfl) rfl rfl ?_)
     rintro _ wd2979 H
     dsimp only [List.set] at H
     refine ⟨H.okS (by simp), ?_⟩
     refine DL_nil ?_
     replace H := H.f1
     replace H := H.f2
     replace H := H.f3
     replace H := H.f4
     replace H := H.f5
     obtain rfl := Option.some.inj ho2933
     refine x_A fun a hf => ⟨b2969, (.slice (some ⟨b2972, 0, none⟩) x2865.toNat x2865.toNat), (repC x2865.toNat (repC 256 [.int .i64 0])), (.slice (some ⟨b2976, 0, none⟩) x2865.toNat x2865.toNat), (repC x2865.toNat [.int .i64 0]), x2971, x2975, rfl, (hm2973c ▸ rdL_rep (e := (eA 256 (eI .i64))) (ρ := ρ) (⟨by simp, rdL_rep (e:=(eI .i64)) (ρ:=ρ) (rfl) 256⟩) _), (hm2977c ▸ rdL_rep (e := (eI .i64)) (ρ := ρ) (rfl) _), hf.sub ⟨rfl, rfl, rfl, rfl, trivial⟩, H⟩
    ·obtain ⟨x2980, hx2980, ho2933⟩ := bnd ho2933
     obtain ⟨x2981, hx2981, ho2933⟩ := bnd ho2933
     obtain ⟨hm2983a, hm2983b, hm2983c⟩ := mk_some hx2981
     refine de rfl (E_make H Tryd.underlying23 ty3 (zs := [.int .i64 0]) rfl rfl (by decide) (by decide) rfl hm2983a hm2983b) rfl rfl ?_
     rintro _ wd2984 ⟨b2982, rfl, H⟩
     refine ⟨H.okS (by simp), ?_⟩
     obtain ⟨hm2986a, hm2986b, hm2986c⟩ := mk_some hx2980
     refine d1 (de rfl (E_make H Tryd.underlying22 ty58 (zs := (repC 256 [.int .i64 0])) rfl (by simp [repC_length]) (by decide) (by decide) rfl hm2986a hm2986b) rfl rfl ?_)
     rintro _ wd2987 ⟨b2985, rfl, H⟩
     refine ⟨H.okS (by simp), ?_⟩
     refine dq (v := .agg #[(.slice (some ⟨b2985, 0, none⟩) x2865.toNat x2865.toNat), (.slice (some ⟨b2982, 0, none⟩) x2865.toNat x2865.toNat), .slice none 0 0]) rfl (fun _ _ => Q_buildS st25.choose_spec (ps := [(0, [(.slice (some ⟨b2985, 0, none⟩) x2865.toNat x2865.toNat)]), (1, [(.slice (some ⟨b2982, 0, none⟩) x2865.toNat x2865.toNat)])]) rfl ⟨rfl, (arr_cells (H.ok.get (k := 0) rfl)).1, by simp, ⟨rfl, (arr_cells (H.ok.get (k := 1) rfl)).1, by simp, trivial⟩⟩ rfl) rfl rfl ?_
     refine d1 (de rfl (E_stB (k := 2) (cs := [(.slice (some ⟨b2985, 0, none⟩) x2865.toNat x2865.toNat), (.slice (some ⟨b2982, 0, none⟩) x2865.toNat x2865.toNat), .slice none 0 0]) (vs' := [(.slice (some ⟨b2985, 0, none⟩) x2865.toNat x2865.toNat), (.slice (some ⟨b2982, 0, none⟩) x2865.toNat x2865.toNat), .slice none 0 0]) H rfl ty25 rfl rfl rfl rfl (one_cons (arr_cells (H.ok.get (k := 0) rfl)).2 (one_cons (arr_cells (H.ok.get (k := 1) rfl)).2 (one_cons rfl one_nil))) (by simp) rfl) rfl rfl ?_)
     rintro _ wd2988 H
     dsimp only [List.set] at H
     refine ⟨H.okS (by simp), ?_⟩
     refine DL_nil ?_
     replace H := H.f1
     replace H := H.f1
     replace H := H.f2
     replace H := H.f3
     replace H := H.f4
     replace H := H.f5
     obtain rfl := Option.some.inj ho2933
     refine x_A fun a hf => ⟨b2969, (.slice (some ⟨b2985, 0, none⟩) x2865.toNat x2865.toNat), (repC x2865.toNat (repC 256 [.int .i64 0])), (.slice (some ⟨b2982, 0, none⟩) x2865.toNat x2865.toNat), (repC x2865.toNat [.int .i64 0]), x2980, x2981, rfl, (hm2986c ▸ rdL_rep (e := (eA 256 (eI .i64))) (ρ := ρ) (⟨by simp, rdL_rep (e:=(eI .i64)) (ρ:=ρ) (rfl) 256⟩) _), (hm2983c ▸ rdL_rep (e := (eI .i64)) (ρ := ρ) (rfl) _), hf.sub ⟨rfl, rfl, rfl, rfl, trivial⟩, H⟩
  ·rintro a wd2989 ⟨b2924, v2925, c2926, v2929, c2930, x2927, x2931, rfl, r2928, r2932, hf, H⟩
   try dsimp only at hF
   refine CW.at hf <| C_seq <| C_seq <| R_nd <| nq (Q_move rfl) rfl rfl <| nq (Q_lenA (k := 2) H.ok rfl r2866 (by decide) Tryd.underlying23 rfl) rfl rfl <| nq (Q_move rfl) rfl rfl <| WL_nil <| x_then ?_
   obtain ⟨o4125, ho4125, hF⟩ := bnd hF
   refine C_cutQ (fun a w' => ∃ (c4119 : (List Value)) (c4122 : (List Value)) (x4120 : (List (List Int))) (x4123 : (List Int)), (x4120, x4123) = o4125 ∧ rdL (eA 256 (eI .i64)) ρ x4120 c4119 ∧ rdL (eI .i64) ρ x4123 c4122 ∧ Fr 81 a [(1, .pointer (some ⟨b2851, 0, none⟩)), (2, .pointer (some ⟨b2853, 0, none⟩)), (3, v2862), (5, .pointer (some ⟨b2924, 0, none⟩))] ∧ Hp C w' ρ (Box b2851 [v1, v4, v7] :: Box b2853 [.slice none 0 0, .slice none 0 0, .slice none 0 0] :: Arr v2862 1 c2863 :: Box b2924 [v2925, v2929, .slice none 0 0] :: Arr v2925 256 c4119 :: Arr v2929 1 c4122 :: hs)) ?_ ?_
   ·refine C_block ?_
    replace H := H.f5
    replace H := H.f5
    replace H := H.f5
    replace H := H.f5
    replace H := H.f5
    replace H := H.f5
    refine C_iter (f := fun s => F_hopcroft_Merge_l0 N x2 x5 x2864 s.1 s.2.1 s.2.2) ho4125 (fun s a w' => ∃ (c4502 : (List Value)) (c4505 : (List Value)) (x4501 : Int) (x4503 : (List (List Int))) (x4506 : (List Int)), (x4501, x4503, x4506) = s ∧ rdL (eA 256 (eI .i64)) ρ x4503 c4502 ∧ rdL (eI .i64) ρ x4506 c4505 ∧ Fr 81 a [(1, .pointer (some ⟨b2851, 0, none⟩)), (2, .pointer (some ⟨b2853, 0, none⟩)), (3, v2862), (5, .pointer (some ⟨b2924, 0, none⟩)), (26, v2862), (27, .int .i64 (x2864.length : Int)), (28, .int .i64 x4501)] ∧ Hp C w' ρ (Box b2851 [v1, v4, v7] :: Box b2853 [.slice none 0 0, .slice none 0 0, .slice none 0 0] :: Arr v2862 1 c2863 :: Box b2924 [v2925, v2929, .slice none 0 0] :: Arr v2925 256 c4502 :: Arr v2929 1 c4505 :: hs)) ?_ ?_
    ·exact fun a hf => ⟨c2926, c2930, 0, x2927, x2931, rfl, r2928, r2932, hf.sub ⟨rfl, rfl, rfl, rfl, rfl, rfl, rfl, trivial⟩, H⟩
    ·rintro s o4883 a wd4886 ⟨c4502, c4505, x4501, x4503, x4506, rfl, r4504, r4507, hf, H⟩ hB4884 hO4885
     replace hB4884 : F_hopcroft_Merge_l0 N x2 x5 x2864 x4501 x4503 x4506 = some o4883 := hB4884
     unfold F_hopcroft_Merge_l0 at hB4884
     refine CW.at hf <| C_seq <| R_nd <| nq (Q_lss rfl rfl) rfl rfl <| WL_nil <| x_then <| C_seq ?_
     refine C_cond rfl (fun hb => ?_) (fun hb => ?_)
     ·replace hB4884 := itT hb hB4884
      refine C_skip <| x_then <| C_seq <| C_block <| C_seq <| R_nd <| nq (Q_move rfl) rfl rfl ?_
      obtain ⟨x4887, hx4887, hB4884⟩ := bnd hB4884
      obtain ⟨b4888, o4889, hi4893, hc4891, ha4892⟩ := arr_at (hs := [Arr v2862 1 c2863]) (k := 0) (by decide) (H.okS (by simp)) rfl r2866 hx4887
      refine nq (Q_idx hi4893 Tryd.underlying23 ty3 rfl rfl) rfl rfl <| nq (v := .int .i64 x4887) (Q_ld (show cellsAt _ _ _ [.int .i64 x4887] from (show _ = [_] from hc4891) ▸ (ha4892 _ (Ok.subS (by simp) H.ok))) ty3 rfl (fun _ => rfl) rfl rfl) rfl rfl <| nq (Q_assign rfl) rfl rfl <| nq (Q_assign rfl) rfl rfl <| WL_nil <| x_then <| C_seq <| C_seq <| R_nd <| nq (v := .pointer (some ⟨b2851, 0, none⟩)) (Q_fld Tryd.underlying25 rfl ty22 (by decide) rfl rfl) rfl rfl <| nq (v := v1) (Q_ldB (k := 0) (cs := [v1]) H.ok rfl ty22 rfl rfl rfl (fun _ => rfl) rfl) rfl rfl <| nq (Q_move rfl) rfl rfl ?_
      obtain ⟨x4894, hx4894, hB4884⟩ := bnd hB4884
      obtain ⟨b4895, o4896, c4897, hc4898, ha4899, hi4900⟩ := idxR r3 hx4894
      refine nq (Q_idx hi4900 Tryd.underlying22 ty58 rfl rfl) rfl rfl <| nq (v := .agg c4897.toArray) (Q_ld (ha4899.up H.ok.view) ty58 ((eA 256 (eI .i64)).len hc4898) (fun h => nomatch h) rfl rfl) rfl rfl <| nq (Q_move rfl) rfl rfl <| WL_nil <| x_then ?_
      obtain ⟨o5058, ho5058, hB4884⟩ := bnd hB4884
      refine C_cutQ (fun a w' => ∃ (c5055 : (List Value)) (x5056 : (List (List Int))), x5056 = o5058 ∧ rdL (eA 256 (eI .i64)) ρ x5056 c5055 ∧ Fr 81 a [(1, .pointer (some ⟨b2851, 0, none⟩)), (2, .pointer (some ⟨b2853, 0, none⟩)), (3, v2862), (5, .pointer (some ⟨b2924, 0, none⟩)), (6, .int .i64 x4501), (7, .int .i64 x4887), (26, v2862), (27, .int .i64 (x2864.length : Int)), (28, .int .i64 x4501)] ∧ Hp C w' ρ (Box b2851 [v1, v4, v7] :: Box b2853 [.slice none 0 0, .slice none 0 0, .slice none 0 0] :: Arr v2862 1 c2863 :: Box b2924 [v2925, v2929, .slice none 0 0] :: Arr v2925 256 c5055 :: Arr v2929 1 c4505 :: hs)) ?_ ?_
      ·refine C_block ?_
       replace H := H.f5
       replace H := H.f5
       replace H := H.f5
       replace H := H.f5
       replace H := H.f5
       replace H := H.f5
       refine C_iter (f := fun s => F_hopcroft_Merge_l1 N x2864 x4887 x4894 s.1 s.2) ho5058 (fun s a w' => ∃ (c5110 : (List Value)) (x5109 : Int) (x5111 : (List (List Int))), (x5109, x5111) = s ∧ rdL (eA 256 (eI .i64)) ρ x5111 c5110 ∧ Fr 81 a [(1, .pointer (some ⟨b2851, 0, none⟩)), (2, .pointer (some ⟨b2853, 0, none⟩)), (3, v2862), (5, .pointer (some ⟨b2924, 0, none⟩)), (6, .int .i64 x4501), (7, .int .i64 x4887), (26, v2862), (27, .int .i64 (x2864.length : Int)), (28, .int .i64 x4501), (37, .agg c4897.toArray), (38, .int .i64 x5109)] ∧ Hp C w' ρ (Box b2851 [v1, v4, v7] :: Box b2853 [.slice none 0 0, .slice none 0 0, .slice none 0 0] :: Arr v2862 1 c2863 :: Box b2924 [v2925, v2929, .slice none 0 0] :: Arr v2925 256 c5110 :: Arr v2929 1 c4505 :: hs)) ?_ ?_
       ·exact fun a hf => ⟨c4502, 0, x4503, rfl, r4504, hf.sub ⟨rfl, rfl, rfl, rfl, rfl, rfl, rfl, rfl, rfl, rfl, rfl, trivial⟩, H⟩
       ·rintro s o5163 a wd5166 ⟨c5110, x5109, x5111, rfl, r5112, hf, H⟩ hB5164 hO5165
        replace hB5164 : F_hopcroft_Merge_l1 N x2864 x4887 x4894 x5109 x5111 = some o5163 := hB5164
        unfold F_hopcroft_Merge_l1 at hB5164
        refine CW.at hf <| C_seq <| R_nd <| nq (Q_lss rfl rfl) rfl rfl <| WL_nil <| x_then <| C_seq ?_
        refine C_cond rfl (fun hb => ?_) (fun hb => ?_)
        ·replace hB5164 := itT hb hB5164
         refine C_skip <| x_then <| C_seq <| C_block <| C_seq <| R_nd <| nq (Q_move rfl) rfl rfl ?_
         obtain ⟨x5167, hx5167, hB5164⟩ := bnd hB5164
         refine nq (Q_ixI hc4898.2 hc4898.1 hx5167 Tryd.underlying58 rfl rfl ty3 rfl) rfl rfl <| nq (Q_assign rfl) rfl rfl <| nq (Q_assign rfl) rfl rfl <| WL_nil <| x_then ?_
         obtain ⟨o5191, ho5191, hB5164⟩ := bnd hB5164
         refine C_cutQ (fun a w' => ∃ (c5188 : (List Value)) (x5189 : (List (List Int))), x5189 = o5191 ∧ rdL (eA 256 (eI .i64)) ρ x5189 c5188 ∧ Fr 81 a [(1, .pointer (some ⟨b2851, 0, none⟩)), (2, .pointer (some ⟨b2853, 0, none⟩)), (3, v2862), (5, .pointer (some ⟨b2924, 0, none⟩)), (6, .int .i64 x4501), (7, .int .i64 x4887), (26, v2862), (27, .int .i64 (x2864.length : Int)), (28, .int .i64 x4501), (37, .agg c4897.toArray), (38, .int .i64 x5109)] ∧ Hp C w' ρ (Box b2851 [v1, v4, v7] :: Box b2853 [.slice none 0 0, .slice none 0 0, .slice none 0 0] :: Arr v2862 1 c2863 :: Box b2924 [v2925, v2929, .slice none 0 0] :: Arr v2925 256 c5188 :: Arr v2929 1 c4505 :: hs)) ?_ ?_
         ·refine R_dr (.take 0 (.take 1 (.take 2 (.take 3 (.take 4 (.take 5 (.take 6 (.take 7 (.take 8 (.take 9 (.one 10 .done))))))))))) (fun w' => Ok w' ρ [Box b2851 [v1, v4, v7], Box b2853 [.slice none 0 0, .slice none 0 0, .slice none 0 0], Arr v2862 1 c2863, Box b2924 [v2925, v2929, .slice none 0 0], Arr v2929 1 c4505]) (by kernel_rfl) (by kernel_rfl) (by kernel_rfl) (H.drew.okS (by simp)) ?_
          replace H := H.drew
          refine dq (v := .pointer (some ⟨b2924, 0, none⟩)) rfl (fun _ _ => Q_fld Tryd.underlying25 rfl ty22 (by decide) rfl rfl) rfl rfl <| dq (v := v2925) rfl (fun _ hw => Q_ldB (k := 3) (cs := [v2925]) hw rfl ty22 rfl rfl rfl (fun _ => rfl) rfl) rfl rfl <| dq rfl (fun _ _ => Q_move rfl) rfl rfl <| dq rfl (fun _ _ => Q_move rfl) rfl rfl <| dq rfl (fun _ _ => Q_move rfl) rfl rfl <| dq rfl (fun _ _ => Q_move rfl) rfl rfl ?_
          obtain ⟨x5192, hx5192, ho5191⟩ := bnd ho5191
          obtain ⟨b5193, o5194, hi5198, hc5196, ha5197⟩ := arr_at (hs := [Arr v2862 1 c2863]) (k := 0) (by decide) (H.okS (by simp)) rfl r2866 hx5192
          refine dq rfl (fun _ _ => Q_idx hi5198 Tryd.underlying23 ty3 rfl rfl) rfl rfl <| dq (v := .int .i64 x5192) rfl (fun _ hw => Q_ld (show cellsAt _ _ _ [.int .i64 x5192] from (show _ = [_] from hc5196) ▸ (ha5197 _ (Ok.subS (by simp) hw))) ty3 rfl (fun _ => rfl) rfl rfl) rfl rfl ?_
          obtain ⟨x5199, hx5199, ho5191⟩ := bnd ho5191
          obtain ⟨b5200, o5201, hi5205, hc5203, ha5204⟩ := arr_at (hs := [Arr v2925 256 c5110]) (k := 0) (by decide) (H.okS (by simp)) rfl r5112 hx5199
          refine dq rfl (fun _ _ => Q_idx hi5205 Tryd.underlying22 ty58 rfl rfl) rfl rfl ?_
          obtain ⟨x5206, hx5206, ho5191⟩ := bnd ho5191
          have hn5207 := idx_lt hc5203.1 hx5206
          refine dq rfl (fun _ _ => Q_idxA hn5207.1 hn5207.2 Tryd.underlying58 ty3 rfl rfl) rfl rfl ?_
          obtain ⟨x5208, hx5208, ho5191⟩ := bnd ho5191
          obtain ⟨x5209, hx5209, ho5191⟩ := bnd ho5191
          have r5210 : rdL (eA 256 (eI .i64)) ρ x5209 (setC c5110 (x4887.toNat * 256 + x5109.toNat * 1) [.int .i64 x5192]) := rdL_set2 (e := (eI .i64)) (N := 256) r5112 hc5203 hx5208 hx5209 (rfl)
          refine d1 (de rfl (E_stA (k := 4) (j := x5109.toNat * 1) (c := [.int .i64 x5192]) H rfl ty3 hi5205 rfl rfl rfl rfl (one_cons rfl one_nil) (idx_fit (N := 256) (m := 1) (idx_lt hc5203.1 hx5206))) rfl rfl ?_)
          rintro _ wd5211 H
          dsimp only [List.set] at H
          refine ⟨H.okS (by simp), ?_⟩
          refine DL_nil ?_
          replace H := H.f5
          replace H := H.f5
          replace H := H.f5
          replace H := H.f5
          replace H := H.f5
          replace H := H.f5
          obtain rfl := Option.some.inj ho5191
          refine x_A fun a hf => ⟨(setC c5110 (x4887.toNat * 256 + x5109.toNat * 1) [.int .i64 x5192]), x5209, rfl, r5210, hf.sub ⟨rfl, rfl, rfl, rfl, rfl, rfl, rfl, rfl, rfl, rfl, rfl, trivial⟩, H⟩
         ·rintro a wd5212 ⟨c5188, x5189, rfl, r5190, hf, H⟩
          try dsimp only at hB5164
          refine XX.at hf <| x_block <| x_then <| R_nd <| nq (Q_add rfl rfl) rfl rfl <| nq (Q_move rfl) rfl rfl <| WL_nil ?_
          replace H := H.f5
          replace H := H.f5
          replace H := H.f5
          replace H := H.f5
          replace H := H.f5
          replace H := H.f5
          obtain rfl := Option.some.inj hB5164
          refine x_A fun a hf => ⟨_, rfl, c5188, w64 (x5109 + 1), x5189, rfl, r5190, hf.sub ⟨rfl, rfl, rfl, rfl, rfl, rfl, rfl, rfl, rfl, rfl, rfl, trivial⟩, H⟩
        ·replace hB5164 := itF hb hB5164
         refine C_exit <| x_then_exit <| x_then_exit <| x_block_exit ?_
         replace H := H.f5
         replace H := H.f5
         replace H := H.f5
         replace H := H.f5
         replace H := H.f5
         replace H := H.f5
         obtain rfl := Option.some.inj hB5164
         obtain rfl := hO5165 _ rfl
         refine x_A fun a hf => ⟨c5110, x5111, rfl, r5112, hf.sub ⟨rfl, rfl, rfl, rfl, rfl, rfl, rfl, rfl, rfl, trivial⟩, H⟩
      ·rintro a wd5213 ⟨c5055, x5056, rfl, r5057, hf, H⟩
       try dsimp only at hB4884
       refine XX.at hf <| x_then ?_
       obtain ⟨o5235, ho5235, hB4884⟩ := bnd hB4884
       refine C_cutQ (fun a w' => ∃ (c5232 : (List Value)) (x5233 : (List Int)), x5233 = o5235 ∧ rdL (eI .i64) ρ x5233 c5232 ∧ Fr 81 a [(1, .pointer (some ⟨b2851, 0, none⟩)), (2, .pointer (some ⟨b2853, 0, none⟩)), (3, v2862), (5, .pointer (some ⟨b2924, 0, none⟩)), (26, v2862), (27, .int .i64 (x2864.length : Int)), (28, .int .i64 x4501)] ∧ Hp C w' ρ (Box b2851 [v1, v4, v7] :: Box b2853 [.slice none 0 0, .slice none 0 0, .slice none 0 0] :: Arr v2862 1 c2863 :: Box b2924 [v2925, v2929, .slice none 0 0] :: Arr v2925 256 c5055 :: Arr v2929 1 c5232 :: hs)) ?_ ?_
       ·refine R_dr (.take 0 (.take 1 (.take 2 (.take 3 (.take 4 (.take 5 (.take 6 (.take 7 (.take 8 (.one 9 .done)))))))))) (fun w' => Ok w' ρ [Box b2851 [v1, v4, v7], Box b2853 [.slice none 0 0, .slice none 0 0, .slice none 0 0], Arr v2862 1 c2863, Box b2924 [v2925, v2929, .slice none 0 0], Arr v2925 256 c5055]) (by kernel_rfl) (by kernel_rfl) (by kernel_rfl) (H.drew.okS (by simp)) ?_
        replace H := H.drew
        refine dq (v := .pointer (some ⟨b2924, 1, none⟩)) rfl (fun _ _ => Q_fld Tryd.underlying25 rfl ty23 (by decide) rfl rfl) rfl rfl <| dq (v := v2929) rfl (fun _ hw => Q_ldB (k := 3) (cs := [v2929]) hw rfl ty23 rfl rfl rfl (fun _ => rfl) rfl) rfl rfl <| dq rfl (fun _ _ => Q_move rfl) rfl rfl <| dq (v := .pointer (some ⟨b2851, 1, none⟩)) rfl (fun _ _ => Q_fld Tryd.underlying25 rfl ty23 (by decide) rfl rfl) rfl rfl <| dq (v := v4) rfl (fun _ hw => Q_ldB (k := 0) (cs := [v4]) hw rfl ty23 rfl rfl rfl (fun _ => rfl) rfl) rfl rfl <| dq rfl (fun _ _ => Q_move rfl) rfl rfl ?_
        obtain ⟨x5236, hx5236, ho5235⟩ := bnd ho5235
        obtain ⟨b5237, o5238, c5239, hc5240, ha5241, hi5242⟩ := idxR r6 hx5236
        refine dq rfl (fun _ _ => Q_idx hi5242 Tryd.underlying23 ty3 rfl rfl) rfl rfl <| dq (v := .int .i64 x5236) rfl (fun _ hw => Q_ld (show cellsAt _ _ _ [.int .i64 x5236] from (show _ = [_] from hc5240) ▸ (ha5241.up hw.view)) ty3 rfl (fun _ => rfl) rfl rfl) rfl rfl ?_
        obtain ⟨x5243, hx5243, ho5235⟩ := bnd ho5235
        obtain ⟨b5244, o5245, hi5249, hc5247, ha5248⟩ := arr_at (hs := [Arr v2929 1 c4505]) (k := 0) (by decide) (H.okS (by simp)) rfl r4507 hx5243
        refine dq rfl (fun _ _ => Q_idx hi5249 Tryd.underlying23 ty3 rfl rfl) rfl rfl ?_
        obtain ⟨x5250, hx5250, ho5235⟩ := bnd ho5235
        obtain ⟨hs5251a, hs5251b, hs5251c⟩ := setI_some hx5250
        have r5252 : rdL (eI .i64) ρ x5250 (setC c4505 (x4887.toNat * 1 + 0) [.int .i64 x5236]) := hs5251c ▸ rdL.set r4507 hs5251b (rfl)
        refine d1 (de rfl (E_stA (k := 5) (j := 0) (c := [.int .i64 x5236]) H rfl ty3 hi5249 rfl rfl rfl rfl (one_cons rfl one_nil) (by decide)) rfl rfl ?_)
        rintro _ wd5253 H
        dsimp only [List.set] at H
        refine ⟨H.okS (by simp), ?_⟩
        refine DL_nil ?_
        replace H := H.f5
        replace H := H.f5
        replace H := H.f5
        replace H := H.f5
        replace H := H.f5
        replace H := H.f5
        obtain rfl := Option.some.inj ho5235
        refine x_A fun a hf => ⟨(setC c4505 (x4887.toNat * 1 + 0) [.int .i64 x5236]), x5250, rfl, r5252, hf.sub ⟨rfl, rfl, rfl, rfl, rfl, rfl, rfl, trivial⟩, H⟩
       ·rintro a wd5254 ⟨c5232, x5233, rfl, r5234, hf, H⟩
        try dsimp only at hB4884
        refine XX.at hf <| x_block <| x_then <| R_nd <| nq (Q_add rfl rfl) rfl rfl <| nq (Q_move rfl) rfl rfl <| WL_nil ?_
        replace H := H.f5
        replace H := H.f5
        replace H := H.f5
        replace H := H.f5
        replace H := H.f5
        replace H := H.f5
        obtain rfl := Option.some.inj hB4884
        refine x_A fun a hf => ⟨_, rfl, c5055, c5232, w64 (x4501 + 1), x5056, x5233, rfl, r5057, r5234, hf.sub ⟨rfl, rfl, rfl, rfl, rfl, rfl, rfl, trivial⟩, H⟩
     ·replace hB4884 := itF hb hB4884
      refine C_exit <| x_then_exit <| x_then_exit <| x_block_exit ?_
      replace H := H.f5
      replace H := H.f5
      replace H := H.f5
      replace H := H.f5
      replace H := H.f5
      replace H := H.f5
      obtain rfl := Option.some.inj hB4884
      obtain rfl := hO4885 _ rfl
      refine x_A fun a hf => ⟨c4502, c4505, x4503, x4506, rfl, r4504, r4507, hf.sub ⟨rfl, rfl, rfl, rfl, trivial⟩, H⟩
   ·rintro a wd5255 ⟨c4119, c4122, x4120, x4123, rfl, r4121, r4124, hf, H⟩
    try dsimp only at hF
    refine XX.at hf <| x_then <| C_seq <| C_seq <| R_nd <| nq (v := .pointer (some ⟨b2851, 2, none⟩)) (Q_fld Tryd.underlying25 rfl ty23 (by decide) rfl rfl) rfl rfl <| nq (v := v7) (Q_ldB (k := 0) (cs := [v7]) H.ok rfl ty23 rfl rfl rfl (fun _ => rfl) rfl) rfl rfl <| nq (Q_len Tryd.underlying23 rfl r9) rfl rfl <| nq (Q_move rfl) rfl rfl <| WL_nil <| x_then ?_
    obtain ⟨o5468, ho5468, hF⟩ := bnd hF
    refine C_cutQ (fun a w' => ∃ (v5464 : Value) (c5465 : (List Value)) (x5466 : (List Int)), x5466 = o5468 ∧ rdL (eI .i64) ρ x5466 c5465 ∧ Fr 81 a [(2, .pointer (some ⟨b2853, 0, none⟩)), (5, .pointer (some ⟨b2924, 0, none⟩))] ∧ Hp C w' ρ (Box b2853 [.slice none 0 0, .slice none 0 0, .slice none 0 0] :: Box b2924 [v2925, v2929, v5464] :: Arr v2925 256 c4119 :: Arr v2929 1 c4122 :: Arr v5464 1 c5465 :: hs)) ?_ ?_
    ·refine C_block ?_
     have H := H.nilArr 1
     replace H := H.f6
     replace H := H.f6
     replace H := H.f6
     replace H := H.f6
     replace H := H.f6
     replace H := H.drop 6 rfl
     dsimp only [List.eraseIdx] at H
     refine C_iter (f := fun s => F_hopcroft_Merge_l2 N x8 x2864 s.1 s.2) ho5468 (fun s a w' => ∃ (v5537 : Value) (c5538 : (List Value)) (x5539 : (List Int)) (x5541 : Int), (x5539, x5541) = s ∧ rdL (eI .i64) ρ x5539 c5538 ∧ Fr 81 a [(2, .pointer (some ⟨b2853, 0, none⟩)), (3, v2862), (5, .pointer (some ⟨b2924, 0, none⟩)), (64, v7), (65, .int .i64 (x8.length : Int)), (66, .int .i64 x5541)] ∧ Hp C w' ρ (Box b2853 [.slice none 0 0, .slice none 0 0, .slice none 0 0] :: Arr v2862 1 c2863 :: Box b2924 [v2925, v2929, v5537] :: Arr v2925 256 c4119 :: Arr v2929 1 c4122 :: Arr v5537 1 c5538 :: hs)) ?_ ?_
     ·exact fun a hf => ⟨(.slice none 0 0), [], [], 0, rfl, rdL.nil, hf.sub ⟨rfl, rfl, rfl, rfl, rfl, rfl, trivial⟩, H⟩
     ·rintro s o5610 a wd5613 ⟨v5537, c5538, x5539, x5541, rfl, r5540, hf, H⟩ hB5611 hO5612
      replace hB5611 : F_hopcroft_Merge_l2 N x8 x2864 x5539 x5541 = some o5610 := hB5611
      unfold F_hopcroft_Merge_l2 at hB5611
      refine CW.at hf <| C_seq <| R_nd <| nq (Q_lss rfl rfl) rfl rfl <| WL_nil <| x_then <| C_seq ?_
      refine C_cond rfl (fun hb => ?_) (fun hb => ?_)
      ·replace hB5611 := itT hb hB5611
       refine C_skip <| x_then <| C_seq <| C_block <| C_seq <| R_nd ?_
       obtain ⟨x5614, hx5614, hB5611⟩ := bnd hB5611
       obtain ⟨b5615, o5616, c5617, hc5618, ha5619, hi5620⟩ := idxR r9 hx5614
       refine nq (Q_idx hi5620 Tryd.underlying23 ty3 rfl rfl) rfl rfl <| nq (v := .int .i64 x5614) (Q_ld (show cellsAt _ _ _ [.int .i64 x5614] from (show _ = [_] from hc5618) ▸ (ha5619.up H.ok.view)) ty3 rfl (fun _ => rfl) rfl rfl) rfl rfl <| nq (Q_assign rfl) rfl rfl <| WL_nil <| x_then ?_
       obtain ⟨o5650, ho5650, hB5611⟩ := bnd hB5611
       refine C_cutQ (fun a w' => ∃ (v5646 : Value) (c5647 : (List Value)) (x5648 : (List Int)), x5648 = o5650 ∧ rdL (eI .i64) ρ x5648 c5647 ∧ Fr 81 a [(2, .pointer (some ⟨b2853, 0, none⟩)), (3, v2862), (5, .pointer (some ⟨b2924, 0, none⟩)), (64, v7), (65, .int .i64 (x8.length : Int)), (66, .int .i64 x5541)] ∧ Hp C w' ρ (Box b2853 [.slice none 0 0, .slice none 0 0, .slice none 0 0] :: Arr v2862 1 c2863 :: Box b2924 [v2925, v2929, v5646] :: Arr v2925 256 c4119 :: Arr v2929 1 c4122 :: Arr v5646 1 c5647 :: hs)) ?_ ?_
       ·refine R_dr (.take 0 (.take 2 (.take 3 (.take 4 (.take 5 (.two 1 6 (.one 6 (.one 7 (.take 8 (.one 9 .done)))) (.one 1 (.one 7 (.take 8 (.one 9 .done)))))))))) (fun w' => Ok w' ρ [Box b2853 [.slice none 0 0, .slice none 0 0, .slice none 0 0], Arr v2862 1 c2863, Arr v2925 256 c4119, Arr v2929 1 c4122]) (by kernel_rfl) (by kernel_rfl) (by kernel_rfl) (H.drew.okS (by simp)) ?_
        replace H := H.drew
        refine dq (v := .pointer (some ⟨b2924, 2, none⟩)) rfl (fun _ _ => Q_fld Tryd.underlying25 rfl ty23 (by decide) rfl rfl) rfl rfl <| dq rfl (fun _ _ => Q_move rfl) rfl rfl <| dq rfl (fun _ _ => Q_move rfl) rfl rfl ?_
        obtain ⟨x5651, hx5651, ho5650⟩ := bnd ho5650
        obtain ⟨b5652, o5653, hi5657, hc5655, ha5656⟩ := arr_at (hs := [Arr v2862 1 c2863]) (k := 0) (by decide) (H.okS (by simp)) rfl r2866 hx5651
        refine dq rfl (fun _ _ => Q_idx hi5657 Tryd.underlying23 ty3 rfl rfl) rfl rfl <| dq (v := .int .i64 x5651) rfl (fun _ hw => Q_ld (show cellsAt _ _ _ [.int .i64 x5651] from (show _ = [_] from hc5655) ▸ (ha5656 _ (Ok.subS (by simp) hw))) ty3 rfl (fun _ => rfl) rfl rfl) rfl rfl ?_
        refine d2 ?_ ?_
        ·refine de rfl (Eff.quiet (v := v5537) (Q_ldB (k := 2) (cs := [v5537]) H.ok rfl ty23 rfl rfl rfl (fun _ => rfl) rfl)) rfl rfl ?_
         rintro _ _ ⟨rfl, rfl⟩
         refine ⟨H.okS (by simp), ?_⟩
         refine d1 (de rfl (E_bslice (xs := [.tmp 75]) (vs := [.int .i64 x5651]) H Tryd.underlying23 ty3 (by decide) (cs := [.int .i64 x5651]) rfl (sz_cons rfl sz_nil) rfl (by simp) (by simp) rfl rfl) rfl rfl ?_)
         rintro _ wd5659 ⟨b5658, rfl, H⟩
         refine ⟨H.okS (by simp), ?_⟩
         obtain ⟨x5660, hx5660, ho5650⟩ := bnd ho5650
         obtain ⟨ha5661a, ha5661b⟩ := app_some hx5660
         have r5663 : rdL (eI .i64) ρ x5660 (c5538 ++ ([.int .i64 x5651])) := ha5661b ▸ rdL.app r5540 (show rdL (eI .i64) ρ ([x5651]) ([.int .i64 x5651]) from ⟨([.int .i64 x5651]), _, rfl, rfl, rdL.nil⟩)
         refine d1 (de rfl (E_append (k := 6) H rfl Tryd.underlying23 ty3 rfl (by decide) (by decide) rfl rfl (Src.ofArr (k := 0) H.ok rfl) (rdL.one (show rdL (eI .i64) ρ ([x5651]) ([.int .i64 x5651]) from ⟨([.int .i64 x5651]), _, rfl, rfl, rdL.nil⟩)) (app_fit r5540 (show rdL (eI .i64) ρ ([x5651]) ([.int .i64 x5651]) from ⟨([.int .i64 x5651]), _, rfl, rfl, rdL.nil⟩) ha5661a)) rfl rfl ?_)
         rintro v5662 wd5665 ⟨H, hc5664⟩
         dsimp only [List.set] at H
         refine ⟨H.okS (by simp), ?_⟩
         refine dq (v := .pointer (some ⟨b2924, 2, none⟩)) rfl (fun _ _ => Q_fld Tryd.underlying25 rfl ty23 (by decide) rfl rfl) rfl rfl ?_
         refine d1 (de rfl (E_stB (k := 3) (cs := [v5662]) (vs' := [v2925, v2929, v5662]) H rfl ty23 rfl rfl (arr_cells (H.ok.get (k := 6) rfl)).1 rfl (one_cons (arr_cells (H.ok.get (k := 6) rfl)).2 one_nil) (by simp) rfl) rfl rfl ?_)
         rintro _ wd5666 H
         dsimp only [List.set] at H
         refine ⟨H.okS (by simp), ?_⟩
         refine DL_nil ?_
         replace H := H.f6
         replace H := H.f6
         replace H := H.f6
         replace H := H.f6
         replace H := H.f6
         replace H := H.f6
         replace H := H.drop 6 rfl
         dsimp only [List.eraseIdx] at H
         obtain rfl := Option.some.inj ho5650
         refine x_A fun a hf => ⟨v5662, (c5538 ++ ([.int .i64 x5651])), x5660, rfl, r5663, hf.sub ⟨rfl, rfl, rfl, rfl, rfl, rfl, trivial⟩, H⟩
        ·refine de rfl (E_bslice (xs := [.tmp 75]) (vs := [.int .i64 x5651]) H Tryd.underlying23 ty3 (by decide) (cs := [.int .i64 x5651]) rfl (sz_cons rfl sz_nil) rfl (by simp) (by simp) rfl rfl) rfl rfl ?_
         rintro _ wd5668 ⟨b5667, rfl, H⟩
         refine ⟨H.okS (by simp), ?_⟩
         refine d1 (de rfl (Eff.quiet (v := v5537) (Q_ldB (k := 3) (cs := [v5537]) H.ok rfl ty23 rfl rfl rfl (fun _ => rfl) rfl)) rfl rfl ?_)
         rintro _ _ ⟨rfl, rfl⟩
         refine ⟨H.okS (by simp), ?_⟩
         obtain ⟨x5669, hx5669, ho5650⟩ := bnd ho5650
         obtain ⟨ha5670a, ha5670b⟩ := app_some hx5669
         have r5672 : rdL (eI .i64) ρ x5669 (c5538 ++ ([.int .i64 x5651])) := ha5670b ▸ rdL.app r5540 (show rdL (eI .i64) ρ ([x5651]) ([.int .i64 x5651]) from ⟨([.int .i64 x5651]), _, rfl, rfl, rdL.nil⟩)
         refine d1 (de rfl (E_append (k := 6) H rfl Tryd.underlying23 ty3 rfl (by decide) (by decide) rfl rfl (Src.ofArr (k := 0) H.ok rfl) (rdL.one (show rdL (eI .i64) ρ ([x5651]) ([.int .i64 x5651]) from ⟨([.int .i64 x5651]), _, rfl, rfl, rdL.nil⟩)) (app_fit r5540 (show rdL (eI .i64) ρ ([x5651]) ([.int .i64 x5651]) from ⟨([.int .i64 x5651]), _, rfl, rfl, rdL.nil⟩) ha5670a)) rfl rfl ?_)
         rintro v5671 wd5674 ⟨H, hc5673⟩
         dsimp only [List.set] at H
         refine ⟨H.okS (by simp), ?_⟩
         refine dq (v := .pointer (some ⟨b2924, 2, none⟩)) rfl (fun _ _ => Q_fld Tryd.underlying25 rfl ty23 (by decide) rfl rfl) rfl rfl ?_
         refine d1 (de rfl (E_stB (k := 3) (cs := [v5671]) (vs' := [v2925, v2929, v5671]) H rfl ty23 rfl rfl (arr_cells (H.ok.get (k := 6) rfl)).1 rfl (one_cons (arr_cells (H.ok.get (k := 6) rfl)).2 one_nil) (by simp) rfl) rfl rfl ?_)
         rintro _ wd5675 H
         dsimp only [List.set] at H
         refine ⟨H.okS (by simp), ?_⟩
         refine DL_nil ?_
         replace H := H.f6
         replace H := H.f6
         replace H := H.f6
         replace H := H.f6
         replace H := H.f6
         replace H := H.f6
         replace H := H.drop 6 rfl
         dsimp only [List.eraseIdx] at H
         obtain rfl := Option.some.inj ho5650
         refine x_A fun a hf => ⟨v5671, (c5538 ++ ([.int .i64 x5651])), x5669, rfl, r5672, hf.sub ⟨rfl, rfl, rfl, rfl, rfl, rfl, trivial⟩, H⟩
       ·rintro a wd5676 ⟨v5646, c5647, x5648, rfl, r5649, hf, H⟩
        try dsimp only at hB5611
        refine XX.at hf <| x_block <| x_then <| R_nd <| nq (Q_add rfl rfl) rfl rfl <| nq (Q_move rfl) rfl rfl <| WL_nil ?_
        replace H := H.f5
        replace H := H.f5
        replace H := H.f5
        replace H := H.f5
        replace H := H.f5
        replace H := H.f5
        obtain rfl := Option.some.inj hB5611
        refine x_A fun a hf => ⟨_, rfl, v5646, c5647, x5648, w64 (x5541 + 1), rfl, r5649, hf.sub ⟨rfl, rfl, rfl, rfl, rfl, rfl, trivial⟩, H⟩
      ·replace hB5611 := itF hb hB5611
       refine C_exit <| x_then_exit <| x_then_exit <| x_block_exit ?_
       replace H := H.f5
       replace H := H.f5
       replace H := H.f5
       replace H := H.f5
       replace H := H.f4
       replace H := H.drop 5 rfl
       dsimp only [List.eraseIdx] at H
       obtain rfl := Option.some.inj hB5611
       obtain rfl := hO5612 _ rfl
       refine x_A fun a hf => ⟨v5537, c5538, x5539, rfl, r5540, hf.sub ⟨rfl, rfl, trivial⟩, H⟩
    ·rintro a wd5677 ⟨v5464, c5465, x5466, rfl, r5467, hf, H⟩
     try dsimp only at hF
     refine XX.at hf <| x_then <| C_seq <| R_nd <| nq (v := .agg #[v2925, v2929, v5464]) (Q_ldB (k := 1) (cs := [v2925, v2929, v5464]) H.ok rfl ty25 rfl rfl rfl (fun h => nomatch h) rfl) rfl rfl <| ne (E_stB (k := 0) (cs := [v2925, v2929, v5464]) (vs' := [v2925, v2929, v5464]) H rfl ty25 rfl rfl rfl rfl (one_cons (arr_cells (H.ok.get (k := 2) rfl)).2 (one_cons (arr_cells (H.ok.get (k := 3) rfl)).2 (one_cons (arr_cells (H.ok.get (k := 4) rfl)).2 one_nil))) (by simp) rfl) rfl rfl ?_
     rintro _ wd5678 H
     dsimp only [List.set] at H
     refine WL_nil <| x_then <| C_ret ?_
     have hRV : RV Tryd.prog wd5678 [(2, .pointer (some ⟨b2853, 0, none⟩))] [.cell 2 25] [.agg #[v2925, v2929, v5464]] := ⟨⟨_, rfl, run_ldv ty25 rfl (fun h => nomatch h) (box_at (H.ok.get (k := 0) rfl) 0 3)⟩, trivial⟩
     replace H := H.f4
     replace H := H.f4
     replace H := H.f4
     replace H := H.drop 3 rfl
     dsimp only [List.eraseIdx] at H
     replace H := H.drop 3 rfl
     dsimp only [List.eraseIdx] at H
     obtain rfl := Option.some.inj hF
     exact fn_retV (rs := [.cell 2 25]) (vs := [.agg #[v2925, v2929, v5464]]) rfl hRV ⟨v2925, c4119, v2929, c4122, v5464, c5465, x4120, x4123, x5466, rfl, rfl, r4121, r4124, r5467, H⟩
theorem c_45 {N : Nat} {C : Cx} {w : World} {ρ : View} {hs : List Hl} {v1 : Value} {v4 : Value} {v7 : Value} {x2 : (List (List Int))} {x5 : (List Int)} {x8 : (List Int)} (H : Hp C w ρ (hs)) {ge0 : Value} (gl0 : GErr ρ 0 ge0) (gl1 : GTab ρ 1 .u8 tab_math_bits_deBruijn64tab) (r3 : RdSl ρ (eA 256 (eI .i64)) v1 x2) (r6 : RdSl ρ (eI .i64) v4 x5) (r9 : RdSl ρ (eI .i64) v7 x8) {r : ((List (List Int)) × (List Int) × (List Int))} (hF : F_hopcroft_Least N x2 x5 x8 = some r) :
  Calls Tryd.prog 45 [.agg #[v1, v4, v7]].toArray w (Rets (fun v w' => (∃ (v45 : Value) (c46 : (List Value)) (v49 : Value) (c50 : (List Value)) (v53 : Value) (c54 : (List Value)) (x47 : (List (List Int))) (x51 : (List Int)) (x55 : (List Int)), (x47, x51, x55) = r ∧ .agg #[v45, v49, v53] = v ∧ rdL (eA 256 (eI .i64)) ρ x47 c46 ∧ rdL (eI .i64) ρ x51 c50 ∧ rdL (eI .i64) ρ x55 c54 ∧ Hp C w' ρ (Arr v45 256 c46 :: Arr v49 1 c50 :: Arr v53 1 c54 :: hs)))) := by
 unfold F_hopcroft_Least at hF
 have h0 : Tryd.f45.body = some _ := rfl
 refine fn_calls' Tryd.func45 h0 (n := 6) rfl (by simp) <| C_seq <| R_nd <| ne (E_box H (vs := [v1, v4, v7]) rfl rfl) rfl rfl ?_
 rintro _ wd58 ⟨b57, rfl, H⟩
 refine ne (E_alloc H ty25 (zs := [.slice none 0 0, .slice none 0 0, .slice none 0 0]) rfl) rfl rfl ?_
 rintro _ wd60 ⟨b59, rfl, H⟩
 refine WL_nil <| x_then <| C_seq <| R_nd <| nq (v := .agg #[v1, v4, v7]) (Q_ldB (k := 1) (cs := [v1, v4, v7]) H.ok rfl ty25 rfl rfl rfl (fun h => nomatch h) rfl) rfl rfl ?_
 obtain ⟨q61, hq61, hF⟩ := bnd hF
 refine ne (E_call fn29 rfl (c_29 H gl0 gl1 r3 r6 r9 hq61)) rfl rfl ?_
 rintro _ wd75 ⟨v63, c64, v65, c66, v67, c68, x69, x70, x71, rfl, rfl, r72, r73, r74, H⟩
 try dsimp only at hF
 replace H := H.f2
 replace H := H.f2
 replace H := H.f2
 obtain ⟨q76, hq76, hF⟩ := bnd hF
 obtain ⟨C', ρ', hl77, HA, hL, hback⟩ := Hp.lend (A := []) (L := [Arr v63 256 c64, Arr v65 1 c66, Arr v67 1 c68]) (F := Box b59 [.slice none 0 0, .slice none 0 0, .slice none 0 0] :: Box b57 [v1, v4, v7] :: hs) H
 refine ne (E_call fn43 rfl (c_43 HA  (arr_rd (by decide) hl77 (hL (Arr v63 256 c64) (by simp)) r72) (arr_rd (by decide) hl77 (hL (Arr v65 1 c66) (by simp)) r73) (arr_rd (by decide) hl77 (hL (Arr v67 1 c68) (by simp)) r74) hq76)) rfl rfl ?_
 rintro _ wd90 ⟨v78, c79, v80, c81, v82, c83, x84, x85, x86, rfl, rfl, r87, r88, r89, H⟩
 try dsimp only at hF
 replace H := hback H
 replace r87 := rdL.flat (ρ := ρ') (ρ' := ρ) (flat_A _ (flat_I _)) r87
 replace r88 := rdL.flat (ρ := ρ') (ρ' := ρ) (flat_I _) r88
 replace r89 := rdL.flat (ρ := ρ') (ρ' := ρ) (flat_I _) r89
 dsimp only [List.cons_append, List.nil_append] at H
 refine ne (E_stB (k := 6) (cs := [v78, v80, v82]) (vs' := [v78, v80, v82]) H rfl ty25 rfl rfl rfl rfl (one_cons (arr_cells (H.ok.get (k := 0) rfl)).2 (one_cons (arr_cells (H.ok.get (k := 1) rfl)).2 (one_cons (arr_cells (H.ok.get (k := 2) rfl)).2 one_nil))) (by simp) rfl) rfl rfl ?_
 rintro _ wd91 H
 dsimp only [List.set] at H
 refine WL_nil <| x_then <| C_ret ?_
 have hRV : RV Tryd.prog wd91 [(2, .pointer (some ⟨b59, 0, none⟩))] [.cell 2 25] [.agg #[v78, v80, v82]] := ⟨⟨_, rfl, run_ldv ty25 rfl (fun h => nomatch h) (box_at (H.ok.get (k := 6) rfl) 0 3)⟩, trivial⟩
 replace H := H.f2
 replace H := H.f2
 replace H := H.f2
 replace H := H.drop 3 rfl
 dsimp only [List.eraseIdx] at H
 replace H := H.drop 3 rfl
 dsimp only [List.eraseIdx] at H
 replace H := H.drop 3 rfl
 dsimp only [List.eraseIdx] at H
 replace H := H.drop 3 rfl
 dsimp only [List.eraseIdx] at H
 replace H := H.drop 3 rfl
 dsimp only [List.eraseIdx] at H
 obtain rfl := Option.some.inj hF
 exact fn_retV (rs := [.cell 2 25]) (vs := [.agg #[v78, v80, v82]]) rfl hRV ⟨v78, c79, v80, c81, v82, c83, x84, x85, x86, rfl, rfl, r87, r88, r89, H⟩
end Go.Proofs.YteiaphkejkgfkaaDoor
