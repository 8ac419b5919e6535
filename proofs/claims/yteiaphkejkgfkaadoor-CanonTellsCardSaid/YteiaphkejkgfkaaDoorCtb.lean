/-
  The walks, printed by my program, part 2: each function of the code computes its pure function.
-/
import Derived.Test.YteiaphkejkgfkaaDoorCta
namespace Go.Proofs.YteiaphkejkgfkaaDoor
open Go Go.Eng
set_option maxRecDepth 100000
theorem c_16 {N : Nat} {C : Cx} {w : World} {ρ : View} {hs : List Hl} {v1 : Value} {v4 : Value} {v7 : Value} {x2 : (List (List Int))} {x5 : (List Int)} {x8 : (List Int)} (H : Hp C w ρ (hs)) {ge0 : Value} (gl0 : GErr ρ 0 ge0) (r3 : RdSl ρ (eA 256 (eI .i64)) v1 x2) (r6 : RdSl ρ (eI .i64) v4 x5) (r9 : RdSl ρ (eI .i64) v7 x8) {r : ((List (List Int)) × (List Int) × (List Int))} (hF : F_canon_Canon N x2 x5 x8 = some r) :
    Calls Tryd.prog 16 [.agg #[v1, v4, v7]].toArray w (Rets (fun v w' => (∃ (v1966 : Value) (c1967 : (List Value)) (v1970 : Value) (c1971 : (List Value)) (v1974 : Value) (c1975 : (List Value)) (x1968 : (List (List Int))) (x1972 : (List Int)) (x1976 : (List Int)), (x1968, x1972, x1976) = r ∧ .agg #[v1966, v1970, v1974] = v ∧ rdL (eA 256 (eI .i64)) ρ x1968 c1967 ∧ rdL (eI .i64) ρ x1972 c1971 ∧ rdL (eI .i64) ρ x1976 c1975 ∧ Hp C w' ρ (Arr v1966 256 c1967 :: Arr v1970 1 c1971 :: Arr v1974 1 c1975 :: hs)))) := by
  unfold F_canon_Canon at hF
  have h0 : Tryd.f16.body = some _ := rfl
  refine fn_calls' Tryd.func16 h0 (n := 95) rfl (by simp) ?_
  refine C_seq ?_
  refine R_nd ?_
  refine ne (E_box H (vs := [v1, v4, v7]) rfl rfl) rfl rfl ?_
  rintro _ wd1979 ⟨b1978, rfl, H⟩
  replace H : Hp C wd1979 ρ (Box b1978 [v1, v4, v7] :: hs) := H
  refine ne (E_alloc H ty25 (zs := [.slice none 0 0, .slice none 0 0, .slice none 0 0]) rfl) rfl rfl ?_
  rintro _ wd1981 ⟨b1980, rfl, H⟩
  replace H : Hp C wd1981 ρ (Box b1980 [.slice none 0 0, .slice none 0 0, .slice none 0 0] :: Box b1978 [v1, v4, v7] :: hs) := H
  refine WL_nil ?_
  refine x_then ?_
  refine CW.sub (E' := [(1, .pointer (some ⟨b1978, 0, none⟩)), (2, .pointer (some ⟨b1980, 0, none⟩))]) ⟨rfl, rfl, trivial⟩ ?_
  refine C_seq ?_
  refine R_nd ?_
  refine ne (E_alloc H ty25 (zs := [.slice none 0 0, .slice none 0 0, .slice none 0 0]) rfl) rfl rfl ?_
  rintro _ wd1983 ⟨b1982, rfl, H⟩
  replace H : Hp C wd1983 ρ (Box b1982 [.slice none 0 0, .slice none 0 0, .slice none 0 0] :: Box b1980 [.slice none 0 0, .slice none 0 0, .slice none 0 0] :: Box b1978 [v1, v4, v7] :: hs) := H
  refine WL_nil ?_
  refine x_then ?_
  refine CW.sub (E' := [(1, .pointer (some ⟨b1978, 0, none⟩)), (2, .pointer (some ⟨b1980, 0, none⟩)), (3, .pointer (some ⟨b1982, 0, none⟩))]) ⟨rfl, rfl, rfl, trivial⟩ ?_
  refine C_seq ?_
  refine R_nd ?_
  refine nq (v := .agg #[v1, v4, v7]) (Q_ldB (k := 2) (cs := [v1, v4, v7]) H.ok rfl ty25 rfl rfl rfl (fun h => nomatch h) rfl) rfl rfl ?_
  obtain ⟨q1984, hq1984, hF⟩ := bnd hF
  refine ne (E_call fn18 rfl (c_18 H gl0 r3 r6 r9 hq1984)) rfl rfl ?_
  rintro _ wd1990 ⟨v1986, c1987, x1988, rfl, rfl, r1989, H⟩
  try dsimp only at hF
  replace H : Hp C wd1990 ρ (Arr v1986 1 c1987 :: Box b1982 [.slice none 0 0, .slice none 0 0, .slice none 0 0] :: Box b1980 [.slice none 0 0, .slice none 0 0, .slice none 0 0] :: Box b1978 [v1, v4, v7] :: hs) := H
  refine nq (v := v1986) (Q_assign rfl) rfl rfl ?_
  refine WL_nil ?_
  refine x_then ?_
  refine CW.sub (E' := [(1, .pointer (some ⟨b1978, 0, none⟩)), (2, .pointer (some ⟨b1980, 0, none⟩)), (3, .pointer (some ⟨b1982, 0, none⟩)), (4, v1986)]) ⟨rfl, rfl, rfl, rfl, trivial⟩ ?_
  refine C_seq ?_
  refine R_nd ?_
  refine nq (v := .pointer (some ⟨b1978, 0, none⟩)) (Q_fld Tryd.underlying25 rfl ty22 (by decide) rfl rfl) rfl rfl ?_
  refine nq (v := v1) (Q_ldB (k := 3) (cs := [v1]) H.ok rfl ty22 rfl rfl rfl (fun _ => rfl) rfl) rfl rfl ?_
  refine nq (v := .int .i64 (x2.length : Int)) (Q_len Tryd.underlying22 rfl r3) rfl rfl ?_
  obtain ⟨x1991, hx1991, hF⟩ := bnd hF
  obtain ⟨hm1993a, hm1993b, hm1993c⟩ := mk_some hx1991
  refine ne (E_make H Tryd.underlying23 ty3 (zs := [.int .i64 0]) rfl rfl (by decide) (by decide) rfl hm1993a hm1993b) rfl rfl ?_
  rintro _ wd1994 ⟨b1992, rfl, H⟩
  replace H : Hp C wd1994 ρ (Arr (.slice (some ⟨b1992, 0, none⟩) (x2.length : Int).toNat (x2.length : Int).toNat) 1 (repC (x2.length : Int).toNat [.int .i64 0]) :: Arr v1986 1 c1987 :: Box b1982 [.slice none 0 0, .slice none 0 0, .slice none 0 0] :: Box b1980 [.slice none 0 0, .slice none 0 0, .slice none 0 0] :: Box b1978 [v1, v4, v7] :: hs) := H
  refine nq (v := (.slice (some ⟨b1992, 0, none⟩) (x2.length : Int).toNat (x2.length : Int).toNat)) (Q_assign rfl) rfl rfl ?_
  refine WL_nil ?_
  refine x_then ?_
  refine CW.sub (E' := [(1, .pointer (some ⟨b1978, 0, none⟩)), (2, .pointer (some ⟨b1980, 0, none⟩)), (3, .pointer (some ⟨b1982, 0, none⟩)), (4, v1986), (5, (.slice (some ⟨b1992, 0, none⟩) (x2.length : Int).toNat (x2.length : Int).toNat))]) ⟨rfl, rfl, rfl, rfl, rfl, trivial⟩ ?_
  refine C_seq ?_
  refine C_seq ?_
  refine R_nd ?_
  refine nq (v := v1986) (Q_move rfl) rfl rfl ?_
  refine nq (v := .int .i64 (x1988.length : Int)) (Q_lenA (k := 1) H.ok rfl r1989 (by decide) Tryd.underlying23 rfl) rfl rfl ?_
  refine nq (v := .int .i64 0) (Q_move rfl) rfl rfl ?_
  refine WL_nil ?_
  refine x_then ?_
  refine CW.sub (E' := [(1, .pointer (some ⟨b1978, 0, none⟩)), (2, .pointer (some ⟨b1980, 0, none⟩)), (3, .pointer (some ⟨b1982, 0, none⟩)), (4, v1986), (5, (.slice (some ⟨b1992, 0, none⟩) (x2.length : Int).toNat (x2.length : Int).toNat)), (21, v1986), (22, .int .i64 (x1988.length : Int)), (23, .int .i64 0)]) ⟨rfl, rfl, rfl, rfl, rfl, rfl, rfl, rfl, trivial⟩ ?_
  obtain ⟨o2068, ho2068, hF⟩ := bnd hF
  refine C_cutQ (fun a w' => ∃ (c2065 : (List Value)) (x2066 : (List Int)), x2066 = o2068 ∧ rdL (eI .i64) ρ x2066 c2065 ∧ Fr 95 a [(1, .pointer (some ⟨b1978, 0, none⟩)), (2, .pointer (some ⟨b1980, 0, none⟩)), (3, .pointer (some ⟨b1982, 0, none⟩)), (4, v1986), (5, (.slice (some ⟨b1992, 0, none⟩) (x2.length : Int).toNat (x2.length : Int).toNat))] ∧ Hp C w' ρ (Box b1978 [v1, v4, v7] :: Box b1980 [.slice none 0 0, .slice none 0 0, .slice none 0 0] :: Box b1982 [.slice none 0 0, .slice none 0 0, .slice none 0 0] :: Arr v1986 1 c1987 :: Arr (.slice (some ⟨b1992, 0, none⟩) (x2.length : Int).toNat (x2.length : Int).toNat) 1 c2065 :: hs)) ?_ ?_
  · refine C_block ?_
    replace H := H.front 2 rfl
    replace H : Hp C wd1994 ρ (Box b1982 [.slice none 0 0, .slice none 0 0, .slice none 0 0] :: Arr (.slice (some ⟨b1992, 0, none⟩) (x2.length : Int).toNat (x2.length : Int).toNat) 1 (repC (x2.length : Int).toNat [.int .i64 0]) :: Arr v1986 1 c1987 :: Box b1980 [.slice none 0 0, .slice none 0 0, .slice none 0 0] :: Box b1978 [v1, v4, v7] :: hs) := H
    replace H := H.front 2 rfl
    replace H : Hp C wd1994 ρ (Arr v1986 1 c1987 :: Box b1982 [.slice none 0 0, .slice none 0 0, .slice none 0 0] :: Arr (.slice (some ⟨b1992, 0, none⟩) (x2.length : Int).toNat (x2.length : Int).toNat) 1 (repC (x2.length : Int).toNat [.int .i64 0]) :: Box b1980 [.slice none 0 0, .slice none 0 0, .slice none 0 0] :: Box b1978 [v1, v4, v7] :: hs) := H
    replace H := H.front 3 rfl
    replace H : Hp C wd1994 ρ (Box b1980 [.slice none 0 0, .slice none 0 0, .slice none 0 0] :: Arr v1986 1 c1987 :: Box b1982 [.slice none 0 0, .slice none 0 0, .slice none 0 0] :: Arr (.slice (some ⟨b1992, 0, none⟩) (x2.length : Int).toNat (x2.length : Int).toNat) 1 (repC (x2.length : Int).toNat [.int .i64 0]) :: Box b1978 [v1, v4, v7] :: hs) := H
    replace H := H.front 4 rfl
    replace H : Hp C wd1994 ρ (Box b1978 [v1, v4, v7] :: Box b1980 [.slice none 0 0, .slice none 0 0, .slice none 0 0] :: Arr v1986 1 c1987 :: Box b1982 [.slice none 0 0, .slice none 0 0, .slice none 0 0] :: Arr (.slice (some ⟨b1992, 0, none⟩) (x2.length : Int).toNat (x2.length : Int).toNat) 1 (repC (x2.length : Int).toNat [.int .i64 0]) :: hs) := H
    refine C_iter (f := fun s => F_canon_Canon_l0 N x1988 s.1 s.2) ho2068 (fun s a w' => ∃ (c2092 : (List Value)) (x2091 : Int) (x2093 : (List Int)), (x2091, x2093) = s ∧ rdL (eI .i64) ρ x2093 c2092 ∧ Fr 95 a [(1, .pointer (some ⟨b1978, 0, none⟩)), (2, .pointer (some ⟨b1980, 0, none⟩)), (3, .pointer (some ⟨b1982, 0, none⟩)), (4, v1986), (5, (.slice (some ⟨b1992, 0, none⟩) (x2.length : Int).toNat (x2.length : Int).toNat)), (21, v1986), (22, .int .i64 (x1988.length : Int)), (23, .int .i64 x2091)] ∧ Hp C w' ρ (Box b1978 [v1, v4, v7] :: Box b1980 [.slice none 0 0, .slice none 0 0, .slice none 0 0] :: Arr v1986 1 c1987 :: Box b1982 [.slice none 0 0, .slice none 0 0, .slice none 0 0] :: Arr (.slice (some ⟨b1992, 0, none⟩) (x2.length : Int).toNat (x2.length : Int).toNat) 1 c2092 :: hs)) ?_ ?_
    · exact fun a hf => ⟨(repC (x2.length : Int).toNat [.int .i64 0]), 0, x1991, rfl, (hm1993c ▸ rdL_rep (e := (eI .i64)) (ρ := ρ) (rfl) _), hf.sub ⟨rfl, rfl, rfl, rfl, rfl, rfl, rfl, rfl, trivial⟩, H⟩
    · rintro s o2117 a wd2120 ⟨c2092, x2091, x2093, rfl, r2094, hf, H⟩ hB2118 hO2119
      replace hB2118 : F_canon_Canon_l0 N x1988 x2091 x2093 = some o2117 := hB2118
      unfold F_canon_Canon_l0 at hB2118
      refine CW.at hf ?_
      refine C_seq ?_
      refine R_nd ?_
      refine nq (v := .bool (decide (x2091 < (x1988.length : Int)))) (Q_lss rfl rfl) rfl rfl ?_
      refine WL_nil ?_
      refine x_then ?_
      refine CW.sub (E' := [(1, .pointer (some ⟨b1978, 0, none⟩)), (2, .pointer (some ⟨b1980, 0, none⟩)), (3, .pointer (some ⟨b1982, 0, none⟩)), (4, v1986), (5, (.slice (some ⟨b1992, 0, none⟩) (x2.length : Int).toNat (x2.length : Int).toNat)), (21, v1986), (22, .int .i64 (x1988.length : Int)), (23, .int .i64 x2091), (24, .bool (decide (x2091 < (x1988.length : Int))))]) ⟨rfl, rfl, rfl, rfl, rfl, rfl, rfl, rfl, rfl, trivial⟩ ?_
      refine C_seq ?_
      refine C_cond rfl (fun hb => ?_) (fun hb => ?_)
      · replace hB2118 := itT hb hB2118
        refine C_skip ?_
        refine x_then ?_
        refine CW.sub (E' := [(1, .pointer (some ⟨b1978, 0, none⟩)), (2, .pointer (some ⟨b1980, 0, none⟩)), (3, .pointer (some ⟨b1982, 0, none⟩)), (4, v1986), (5, (.slice (some ⟨b1992, 0, none⟩) (x2.length : Int).toNat (x2.length : Int).toNat)), (21, v1986), (22, .int .i64 (x1988.length : Int)), (23, .int .i64 x2091)]) ⟨rfl, rfl, rfl, rfl, rfl, rfl, rfl, rfl, trivial⟩ ?_
        refine C_seq ?_
        refine C_block ?_
        refine C_seq ?_
        refine R_nd ?_
        refine nq (v := .int .i64 x2091) (Q_move rfl) rfl rfl ?_
        obtain ⟨x2121, hx2121, hB2118⟩ := bnd hB2118
        obtain ⟨b2122, o2123, hi2127, hc2125, ha2126⟩ := arr_at (hs := [Arr v1986 1 c1987]) (k := 0) (by decide) (H.okS (by simp)) rfl r1989 hx2121
        refine nq (v := .pointer (some ⟨b2122, o2123, none⟩)) (Q_idx hi2127 Tryd.underlying23 ty3 rfl rfl) rfl rfl ?_
        refine nq (v := .int .i64 x2121) (Q_ld (show cellsAt _ _ _ [.int .i64 x2121] from (show _ = [_] from hc2125) ▸ (ha2126 _ (Ok.subS (by simp) H.ok))) ty3 rfl (fun _ => rfl) rfl rfl) rfl rfl ?_
        refine nq (v := .int .i64 x2091) (Q_assign rfl) rfl rfl ?_
        refine nq (v := .int .i64 x2121) (Q_assign rfl) rfl rfl ?_
        refine WL_nil ?_
        refine x_then ?_
        refine CW.sub (E' := [(1, .pointer (some ⟨b1978, 0, none⟩)), (2, .pointer (some ⟨b1980, 0, none⟩)), (3, .pointer (some ⟨b1982, 0, none⟩)), (4, v1986), (5, (.slice (some ⟨b1992, 0, none⟩) (x2.length : Int).toNat (x2.length : Int).toNat)), (6, .int .i64 x2091), (7, .int .i64 x2121), (21, v1986), (22, .int .i64 (x1988.length : Int)), (23, .int .i64 x2091)]) ⟨rfl, rfl, rfl, rfl, rfl, rfl, rfl, rfl, rfl, rfl, trivial⟩ ?_
        refine R_nd ?_
        refine nq (v := (.slice (some ⟨b1992, 0, none⟩) (x2.length : Int).toNat (x2.length : Int).toNat)) (Q_move rfl) rfl rfl ?_
        refine nq (v := .int .i64 x2121) (Q_move rfl) rfl rfl ?_
        refine nq (v := .int .i64 x2091) (Q_move rfl) rfl rfl ?_
        obtain ⟨x2128, hx2128, hB2118⟩ := bnd hB2118
        obtain ⟨b2129, o2130, hi2134, hc2132, ha2133⟩ := arr_at (hs := [Arr (.slice (some ⟨b1992, 0, none⟩) (x2.length : Int).toNat (x2.length : Int).toNat) 1 c2092]) (k := 0) (by decide) (H.okS (by simp)) rfl r2094 hx2128
        refine nq (v := .pointer (some ⟨b2129, o2130, none⟩)) (Q_idx hi2134 Tryd.underlying23 ty3 rfl rfl) rfl rfl ?_
        obtain ⟨x2135, hx2135, hB2118⟩ := bnd hB2118
        obtain ⟨hs2136a, hs2136b, hs2136c⟩ := setI_some hx2135
        have r2137 : rdL (eI .i64) ρ x2135 (setC c2092 (x2121.toNat * 1 + 0) [.int .i64 x2091]) := hs2136c ▸ rdL.set r2094 hs2136b (rfl)
        refine ne (E_stA (k := 4) (j := 0) (c := [.int .i64 x2091]) H rfl ty3 hi2134 rfl rfl rfl rfl (one_cons rfl one_nil) (by decide)) rfl rfl ?_
        rintro _ wd2138 H
        replace H : Hp C wd2138 ρ (Box b1978 [v1, v4, v7] :: Box b1980 [.slice none 0 0, .slice none 0 0, .slice none 0 0] :: Arr v1986 1 c1987 :: Box b1982 [.slice none 0 0, .slice none 0 0, .slice none 0 0] :: Arr (.slice (some ⟨b1992, 0, none⟩) (x2.length : Int).toNat (x2.length : Int).toNat) 1 (setC c2092 (x2121.toNat * 1 + 0) [.int .i64 x2091]) :: hs) := H
        refine WL_nil ?_
        refine x_block ?_
        refine x_then ?_
        refine CW.sub (E' := [(1, .pointer (some ⟨b1978, 0, none⟩)), (2, .pointer (some ⟨b1980, 0, none⟩)), (3, .pointer (some ⟨b1982, 0, none⟩)), (4, v1986), (5, (.slice (some ⟨b1992, 0, none⟩) (x2.length : Int).toNat (x2.length : Int).toNat)), (21, v1986), (22, .int .i64 (x1988.length : Int)), (23, .int .i64 x2091)]) ⟨rfl, rfl, rfl, rfl, rfl, rfl, rfl, rfl, trivial⟩ ?_
        refine R_nd ?_
        refine nq (v := .int .i64 (w64 (x2091 + 1))) (Q_add rfl rfl) rfl rfl ?_
        refine nq (v := .int .i64 (w64 (x2091 + 1))) (Q_move rfl) rfl rfl ?_
        refine WL_nil ?_
        replace H := H.front 4 rfl
        replace H : Hp C wd2138 ρ (Arr (.slice (some ⟨b1992, 0, none⟩) (x2.length : Int).toNat (x2.length : Int).toNat) 1 (setC c2092 (x2121.toNat * 1 + 0) [.int .i64 x2091]) :: Box b1978 [v1, v4, v7] :: Box b1980 [.slice none 0 0, .slice none 0 0, .slice none 0 0] :: Arr v1986 1 c1987 :: Box b1982 [.slice none 0 0, .slice none 0 0, .slice none 0 0] :: hs) := H
        replace H := H.front 4 rfl
        replace H : Hp C wd2138 ρ (Box b1982 [.slice none 0 0, .slice none 0 0, .slice none 0 0] :: Arr (.slice (some ⟨b1992, 0, none⟩) (x2.length : Int).toNat (x2.length : Int).toNat) 1 (setC c2092 (x2121.toNat * 1 + 0) [.int .i64 x2091]) :: Box b1978 [v1, v4, v7] :: Box b1980 [.slice none 0 0, .slice none 0 0, .slice none 0 0] :: Arr v1986 1 c1987 :: hs) := H
        replace H := H.front 4 rfl
        replace H : Hp C wd2138 ρ (Arr v1986 1 c1987 :: Box b1982 [.slice none 0 0, .slice none 0 0, .slice none 0 0] :: Arr (.slice (some ⟨b1992, 0, none⟩) (x2.length : Int).toNat (x2.length : Int).toNat) 1 (setC c2092 (x2121.toNat * 1 + 0) [.int .i64 x2091]) :: Box b1978 [v1, v4, v7] :: Box b1980 [.slice none 0 0, .slice none 0 0, .slice none 0 0] :: hs) := H
        replace H := H.front 4 rfl
        replace H : Hp C wd2138 ρ (Box b1980 [.slice none 0 0, .slice none 0 0, .slice none 0 0] :: Arr v1986 1 c1987 :: Box b1982 [.slice none 0 0, .slice none 0 0, .slice none 0 0] :: Arr (.slice (some ⟨b1992, 0, none⟩) (x2.length : Int).toNat (x2.length : Int).toNat) 1 (setC c2092 (x2121.toNat * 1 + 0) [.int .i64 x2091]) :: Box b1978 [v1, v4, v7] :: hs) := H
        replace H := H.front 4 rfl
        replace H : Hp C wd2138 ρ (Box b1978 [v1, v4, v7] :: Box b1980 [.slice none 0 0, .slice none 0 0, .slice none 0 0] :: Arr v1986 1 c1987 :: Box b1982 [.slice none 0 0, .slice none 0 0, .slice none 0 0] :: Arr (.slice (some ⟨b1992, 0, none⟩) (x2.length : Int).toNat (x2.length : Int).toNat) 1 (setC c2092 (x2121.toNat * 1 + 0) [.int .i64 x2091]) :: hs) := H
        obtain rfl := Option.some.inj hB2118
        refine x_A fun a hf => ⟨_, rfl, (setC c2092 (x2121.toNat * 1 + 0) [.int .i64 x2091]), w64 (x2091 + 1), x2135, rfl, r2137, hf.sub ⟨rfl, rfl, rfl, rfl, rfl, rfl, rfl, rfl, trivial⟩, H⟩
      · replace hB2118 := itF hb hB2118
        refine C_exit ?_
        refine x_then_exit ?_
        refine x_then_exit ?_
        refine x_block_exit ?_
        replace H := H.front 4 rfl
        replace H : Hp C wd2120 ρ (Arr (.slice (some ⟨b1992, 0, none⟩) (x2.length : Int).toNat (x2.length : Int).toNat) 1 c2092 :: Box b1978 [v1, v4, v7] :: Box b1980 [.slice none 0 0, .slice none 0 0, .slice none 0 0] :: Arr v1986 1 c1987 :: Box b1982 [.slice none 0 0, .slice none 0 0, .slice none 0 0] :: hs) := H
        replace H := H.front 3 rfl
        replace H : Hp C wd2120 ρ (Arr v1986 1 c1987 :: Arr (.slice (some ⟨b1992, 0, none⟩) (x2.length : Int).toNat (x2.length : Int).toNat) 1 c2092 :: Box b1978 [v1, v4, v7] :: Box b1980 [.slice none 0 0, .slice none 0 0, .slice none 0 0] :: Box b1982 [.slice none 0 0, .slice none 0 0, .slice none 0 0] :: hs) := H
        replace H := H.front 4 rfl
        replace H : Hp C wd2120 ρ (Box b1982 [.slice none 0 0, .slice none 0 0, .slice none 0 0] :: Arr v1986 1 c1987 :: Arr (.slice (some ⟨b1992, 0, none⟩) (x2.length : Int).toNat (x2.length : Int).toNat) 1 c2092 :: Box b1978 [v1, v4, v7] :: Box b1980 [.slice none 0 0, .slice none 0 0, .slice none 0 0] :: hs) := H
        replace H := H.front 4 rfl
        replace H : Hp C wd2120 ρ (Box b1980 [.slice none 0 0, .slice none 0 0, .slice none 0 0] :: Box b1982 [.slice none 0 0, .slice none 0 0, .slice none 0 0] :: Arr v1986 1 c1987 :: Arr (.slice (some ⟨b1992, 0, none⟩) (x2.length : Int).toNat (x2.length : Int).toNat) 1 c2092 :: Box b1978 [v1, v4, v7] :: hs) := H
        replace H := H.front 4 rfl
        replace H : Hp C wd2120 ρ (Box b1978 [v1, v4, v7] :: Box b1980 [.slice none 0 0, .slice none 0 0, .slice none 0 0] :: Box b1982 [.slice none 0 0, .slice none 0 0, .slice none 0 0] :: Arr v1986 1 c1987 :: Arr (.slice (some ⟨b1992, 0, none⟩) (x2.length : Int).toNat (x2.length : Int).toNat) 1 c2092 :: hs) := H
        obtain rfl := Option.some.inj hB2118
        obtain rfl := hO2119 _ rfl
        refine x_A fun a hf => ⟨c2092, x2093, rfl, r2094, hf.sub ⟨rfl, rfl, rfl, rfl, rfl, trivial⟩, H⟩
  · rintro a wd2139 ⟨c2065, x2066, rfl, r2067, hf, H⟩
    try dsimp only at hF
    refine XX.at hf ?_
    refine x_then ?_
    refine CW.sub (E' := [(1, .pointer (some ⟨b1978, 0, none⟩)), (2, .pointer (some ⟨b1980, 0, none⟩)), (3, .pointer (some ⟨b1982, 0, none⟩)), (4, v1986), (5, (.slice (some ⟨b1992, 0, none⟩) (x2.length : Int).toNat (x2.length : Int).toNat))]) ⟨rfl, rfl, rfl, rfl, rfl, trivial⟩ ?_
    refine C_seq ?_
    refine C_seq ?_
    refine R_nd ?_
    refine nq (v := v1986) (Q_move rfl) rfl rfl ?_
    refine nq (v := .int .i64 (x1988.length : Int)) (Q_lenA (k := 3) H.ok rfl r1989 (by decide) Tryd.underlying23 rfl) rfl rfl ?_
    refine nq (v := .int .i64 0) (Q_move rfl) rfl rfl ?_
    refine WL_nil ?_
    refine x_then ?_
    refine CW.sub (E' := [(1, .pointer (some ⟨b1978, 0, none⟩)), (2, .pointer (some ⟨b1980, 0, none⟩)), (3, .pointer (some ⟨b1982, 0, none⟩)), (4, v1986), (5, (.slice (some ⟨b1992, 0, none⟩) (x2.length : Int).toNat (x2.length : Int).toNat)), (33, v1986), (34, .int .i64 (x1988.length : Int)), (35, .int .i64 0)]) ⟨rfl, rfl, rfl, rfl, rfl, rfl, rfl, rfl, trivial⟩ ?_
    obtain ⟨o2827, ho2827, hF⟩ := bnd hF
    refine C_cutQ (fun a w' => ∃ (v2819 : Value) (c2820 : (List Value)) (v2823 : Value) (c2824 : (List Value)) (x2821 : (List (List Int))) (x2825 : (List Int)), (x2821, x2825) = o2827 ∧ rdL (eA 256 (eI .i64)) ρ x2821 c2820 ∧ rdL (eI .i64) ρ x2825 c2824 ∧ Fr 95 a [(1, .pointer (some ⟨b1978, 0, none⟩)), (2, .pointer (some ⟨b1980, 0, none⟩)), (3, .pointer (some ⟨b1982, 0, none⟩)), (4, v1986), (5, (.slice (some ⟨b1992, 0, none⟩) (x2.length : Int).toNat (x2.length : Int).toNat))] ∧ Hp C w' ρ (Box b1978 [v1, v4, v7] :: Box b1980 [.slice none 0 0, .slice none 0 0, .slice none 0 0] :: Box b1982 [v2819, v2823, .slice none 0 0] :: Arr v2819 256 c2820 :: Arr v2823 1 c2824 :: Arr v1986 1 c1987 :: Arr (.slice (some ⟨b1992, 0, none⟩) (x2.length : Int).toNat (x2.length : Int).toNat) 1 c2065 :: hs)) ?_ ?_
    · refine C_block ?_
      have H := H.nilArr 256
      replace H : Hp C wd2139 ρ (Arr (.slice none 0 0) 256 ([]) :: Box b1978 [v1, v4, v7] :: Box b1980 [.slice none 0 0, .slice none 0 0, .slice none 0 0] :: Box b1982 [.slice none 0 0, .slice none 0 0, .slice none 0 0] :: Arr v1986 1 c1987 :: Arr (.slice (some ⟨b1992, 0, none⟩) (x2.length : Int).toNat (x2.length : Int).toNat) 1 c2065 :: hs) := H
      have H := H.nilArr 1
      replace H : Hp C wd2139 ρ (Arr (.slice none 0 0) 1 ([]) :: Arr (.slice none 0 0) 256 ([]) :: Box b1978 [v1, v4, v7] :: Box b1980 [.slice none 0 0, .slice none 0 0, .slice none 0 0] :: Box b1982 [.slice none 0 0, .slice none 0 0, .slice none 0 0] :: Arr v1986 1 c1987 :: Arr (.slice (some ⟨b1992, 0, none⟩) (x2.length : Int).toNat (x2.length : Int).toNat) 1 c2065 :: hs) := H
      replace H := H.front 6 rfl
      replace H : Hp C wd2139 ρ (Arr (.slice (some ⟨b1992, 0, none⟩) (x2.length : Int).toNat (x2.length : Int).toNat) 1 c2065 :: Arr (.slice none 0 0) 1 ([]) :: Arr (.slice none 0 0) 256 ([]) :: Box b1978 [v1, v4, v7] :: Box b1980 [.slice none 0 0, .slice none 0 0, .slice none 0 0] :: Box b1982 [.slice none 0 0, .slice none 0 0, .slice none 0 0] :: Arr v1986 1 c1987 :: hs) := H
      replace H := H.front 6 rfl
      replace H : Hp C wd2139 ρ (Arr v1986 1 c1987 :: Arr (.slice (some ⟨b1992, 0, none⟩) (x2.length : Int).toNat (x2.length : Int).toNat) 1 c2065 :: Arr (.slice none 0 0) 1 ([]) :: Arr (.slice none 0 0) 256 ([]) :: Box b1978 [v1, v4, v7] :: Box b1980 [.slice none 0 0, .slice none 0 0, .slice none 0 0] :: Box b1982 [.slice none 0 0, .slice none 0 0, .slice none 0 0] :: hs) := H
      replace H := H.front 2 rfl
      replace H : Hp C wd2139 ρ (Arr (.slice none 0 0) 1 ([]) :: Arr v1986 1 c1987 :: Arr (.slice (some ⟨b1992, 0, none⟩) (x2.length : Int).toNat (x2.length : Int).toNat) 1 c2065 :: Arr (.slice none 0 0) 256 ([]) :: Box b1978 [v1, v4, v7] :: Box b1980 [.slice none 0 0, .slice none 0 0, .slice none 0 0] :: Box b1982 [.slice none 0 0, .slice none 0 0, .slice none 0 0] :: hs) := H
      replace H := H.front 3 rfl
      replace H : Hp C wd2139 ρ (Arr (.slice none 0 0) 256 ([]) :: Arr (.slice none 0 0) 1 ([]) :: Arr v1986 1 c1987 :: Arr (.slice (some ⟨b1992, 0, none⟩) (x2.length : Int).toNat (x2.length : Int).toNat) 1 c2065 :: Box b1978 [v1, v4, v7] :: Box b1980 [.slice none 0 0, .slice none 0 0, .slice none 0 0] :: Box b1982 [.slice none 0 0, .slice none 0 0, .slice none 0 0] :: hs) := H
      replace H := H.front 6 rfl
      replace H : Hp C wd2139 ρ (Box b1982 [.slice none 0 0, .slice none 0 0, .slice none 0 0] :: Arr (.slice none 0 0) 256 ([]) :: Arr (.slice none 0 0) 1 ([]) :: Arr v1986 1 c1987 :: Arr (.slice (some ⟨b1992, 0, none⟩) (x2.length : Int).toNat (x2.length : Int).toNat) 1 c2065 :: Box b1978 [v1, v4, v7] :: Box b1980 [.slice none 0 0, .slice none 0 0, .slice none 0 0] :: hs) := H
      replace H := H.front 6 rfl
      replace H : Hp C wd2139 ρ (Box b1980 [.slice none 0 0, .slice none 0 0, .slice none 0 0] :: Box b1982 [.slice none 0 0, .slice none 0 0, .slice none 0 0] :: Arr (.slice none 0 0) 256 ([]) :: Arr (.slice none 0 0) 1 ([]) :: Arr v1986 1 c1987 :: Arr (.slice (some ⟨b1992, 0, none⟩) (x2.length : Int).toNat (x2.length : Int).toNat) 1 c2065 :: Box b1978 [v1, v4, v7] :: hs) := H
      replace H := H.front 6 rfl
      replace H : Hp C wd2139 ρ (Box b1978 [v1, v4, v7] :: Box b1980 [.slice none 0 0, .slice none 0 0, .slice none 0 0] :: Box b1982 [.slice none 0 0, .slice none 0 0, .slice none 0 0] :: Arr (.slice none 0 0) 256 ([]) :: Arr (.slice none 0 0) 1 ([]) :: Arr v1986 1 c1987 :: Arr (.slice (some ⟨b1992, 0, none⟩) (x2.length : Int).toNat (x2.length : Int).toNat) 1 c2065 :: hs) := H
      refine C_iter (f := fun s => F_canon_Canon_l1 N x2 x5 x1988 x2066 s.1 s.2.1 s.2.2) ho2827 (fun s a w' => ∃ (v3053 : Value) (c3054 : (List Value)) (v3057 : Value) (c3058 : (List Value)) (x3055 : (List (List Int))) (x3059 : (List Int)) (x3061 : Int), (x3055, x3059, x3061) = s ∧ rdL (eA 256 (eI .i64)) ρ x3055 c3054 ∧ rdL (eI .i64) ρ x3059 c3058 ∧ Fr 95 a [(1, .pointer (some ⟨b1978, 0, none⟩)), (2, .pointer (some ⟨b1980, 0, none⟩)), (3, .pointer (some ⟨b1982, 0, none⟩)), (4, v1986), (5, (.slice (some ⟨b1992, 0, none⟩) (x2.length : Int).toNat (x2.length : Int).toNat)), (33, v1986), (34, .int .i64 (x1988.length : Int)), (35, .int .i64 x3061)] ∧ Hp C w' ρ (Box b1978 [v1, v4, v7] :: Box b1980 [.slice none 0 0, .slice none 0 0, .slice none 0 0] :: Box b1982 [v3053, v3057, .slice none 0 0] :: Arr v3053 256 c3054 :: Arr v3057 1 c3058 :: Arr v1986 1 c1987 :: Arr (.slice (some ⟨b1992, 0, none⟩) (x2.length : Int).toNat (x2.length : Int).toNat) 1 c2065 :: hs)) ?_ ?_
      · exact fun a hf => ⟨(.slice none 0 0), [], (.slice none 0 0), [], [], [], 0, rfl, rdL.nil, rdL.nil, hf.sub ⟨rfl, rfl, rfl, rfl, rfl, rfl, rfl, rfl, trivial⟩, H⟩
      · rintro s o3287 a wd3290 ⟨v3053, c3054, v3057, c3058, x3055, x3059, x3061, rfl, r3056, r3060, hf, H⟩ hB3288 hO3289
        replace hB3288 : F_canon_Canon_l1 N x2 x5 x1988 x2066 x3055 x3059 x3061 = some o3287 := hB3288
        unfold F_canon_Canon_l1 at hB3288
        refine CW.at hf ?_
        refine C_seq ?_
        refine R_nd ?_
        refine nq (v := .bool (decide (x3061 < (x1988.length : Int)))) (Q_lss rfl rfl) rfl rfl ?_
        refine WL_nil ?_
        refine x_then ?_
        refine CW.sub (E' := [(1, .pointer (some ⟨b1978, 0, none⟩)), (2, .pointer (some ⟨b1980, 0, none⟩)), (3, .pointer (some ⟨b1982, 0, none⟩)), (4, v1986), (5, (.slice (some ⟨b1992, 0, none⟩) (x2.length : Int).toNat (x2.length : Int).toNat)), (33, v1986), (34, .int .i64 (x1988.length : Int)), (35, .int .i64 x3061), (36, .bool (decide (x3061 < (x1988.length : Int))))]) ⟨rfl, rfl, rfl, rfl, rfl, rfl, rfl, rfl, rfl, trivial⟩ ?_
        refine C_seq ?_
        refine C_cond rfl (fun hb => ?_) (fun hb => ?_)
        · replace hB3288 := itT hb hB3288
          refine C_skip ?_
          refine x_then ?_
          refine CW.sub (E' := [(1, .pointer (some ⟨b1978, 0, none⟩)), (2, .pointer (some ⟨b1980, 0, none⟩)), (3, .pointer (some ⟨b1982, 0, none⟩)), (4, v1986), (5, (.slice (some ⟨b1992, 0, none⟩) (x2.length : Int).toNat (x2.length : Int).toNat)), (33, v1986), (34, .int .i64 (x1988.length : Int)), (35, .int .i64 x3061)]) ⟨rfl, rfl, rfl, rfl, rfl, rfl, rfl, rfl, trivial⟩ ?_
          refine C_seq ?_
          refine C_block ?_
          refine C_seq ?_
          refine R_nd ?_
          obtain ⟨x3291, hx3291, hB3288⟩ := bnd hB3288
          obtain ⟨b3292, o3293, hi3297, hc3295, ha3296⟩ := arr_at (hs := [Arr v1986 1 c1987]) (k := 0) (by decide) (H.okS (by simp)) rfl r1989 hx3291
          refine nq (v := .pointer (some ⟨b3292, o3293, none⟩)) (Q_idx hi3297 Tryd.underlying23 ty3 rfl rfl) rfl rfl ?_
          refine nq (v := .int .i64 x3291) (Q_ld (show cellsAt _ _ _ [.int .i64 x3291] from (show _ = [_] from hc3295) ▸ (ha3296 _ (Ok.subS (by simp) H.ok))) ty3 rfl (fun _ => rfl) rfl rfl) rfl rfl ?_
          refine nq (v := .int .i64 x3291) (Q_assign rfl) rfl rfl ?_
          refine WL_nil ?_
          refine x_then ?_
          refine CW.sub (E' := [(1, .pointer (some ⟨b1978, 0, none⟩)), (2, .pointer (some ⟨b1980, 0, none⟩)), (3, .pointer (some ⟨b1982, 0, none⟩)), (4, v1986), (5, (.slice (some ⟨b1992, 0, none⟩) (x2.length : Int).toNat (x2.length : Int).toNat)), (9, .int .i64 x3291), (33, v1986), (34, .int .i64 (x1988.length : Int)), (35, .int .i64 x3061)]) ⟨rfl, rfl, rfl, rfl, rfl, rfl, rfl, rfl, rfl, trivial⟩ ?_
          refine C_seq ?_
          refine R_nd ?_
          refine nq (v := .pointer (some ⟨b1978, 0, none⟩)) (Q_fld Tryd.underlying25 rfl ty22 (by decide) rfl rfl) rfl rfl ?_
          refine nq (v := v1) (Q_ldB (k := 0) (cs := [v1]) H.ok rfl ty22 rfl rfl rfl (fun _ => rfl) rfl) rfl rfl ?_
          refine nq (v := .int .i64 x3291) (Q_move rfl) rfl rfl ?_
          obtain ⟨x3298, hx3298, hB3288⟩ := bnd hB3288
          obtain ⟨b3299, o3300, c3301, hc3302, ha3303, hi3304⟩ := idxR r3 hx3298
          refine nq (v := .pointer (some ⟨b3299, o3300, none⟩)) (Q_idx hi3304 Tryd.underlying22 ty58 rfl rfl) rfl rfl ?_
          refine nq (v := .agg c3301.toArray) (Q_ld (ha3303.up H.ok.view) ty58 ((eA 256 (eI .i64)).len hc3302) (fun h => nomatch h) rfl rfl) rfl rfl ?_
          refine ne (E_allocA (N := 256) (n := 1) (zs := (repC 256 [.int .i64 0])) H ty58 rfl (by simp [repC_length])) rfl rfl ?_
          rintro _ wd3306 ⟨b3305, rfl, H⟩
          replace H : Hp C wd3306 ρ (Arr (.slice (some ⟨b3305, 0, none⟩) 256 256) 1 (repC 256 [.int .i64 0]) :: Box b1978 [v1, v4, v7] :: Box b1980 [.slice none 0 0, .slice none 0 0, .slice none 0 0] :: Box b1982 [v3053, v3057, .slice none 0 0] :: Arr v3053 256 c3054 :: Arr v3057 1 c3058 :: Arr v1986 1 c1987 :: Arr (.slice (some ⟨b1992, 0, none⟩) (x2.length : Int).toNat (x2.length : Int).toNat) 1 c2065 :: hs) := H
          refine ne (E_stW (k := 0) H rfl ty58 rfl rfl (rdL.one hc3302.2) (arr_clen (rdL_rep (e:=(eI .i64)) (ρ:=ρ) (rfl) 256) List.length_replicate) (arr_clen hc3302.2 hc3302.1)) rfl rfl ?_
          rintro _ wd3307 H
          replace H : Hp C wd3307 ρ (Arr (.slice (some ⟨b3305, 0, none⟩) 256 256) 1 c3301 :: Box b1978 [v1, v4, v7] :: Box b1980 [.slice none 0 0, .slice none 0 0, .slice none 0 0] :: Box b1982 [v3053, v3057, .slice none 0 0] :: Arr v3053 256 c3054 :: Arr v3057 1 c3058 :: Arr v1986 1 c1987 :: Arr (.slice (some ⟨b1992, 0, none⟩) (x2.length : Int).toNat (x2.length : Int).toNat) 1 c2065 :: hs) := H
          refine WL_nil ?_
          refine x_then ?_
          refine CW.sub (E' := [(1, .pointer (some ⟨b1978, 0, none⟩)), (2, .pointer (some ⟨b1980, 0, none⟩)), (3, .pointer (some ⟨b1982, 0, none⟩)), (4, v1986), (5, (.slice (some ⟨b1992, 0, none⟩) (x2.length : Int).toNat (x2.length : Int).toNat)), (9, .int .i64 x3291), (10, .pointer (some ⟨b3305, 0, none⟩)), (33, v1986), (34, .int .i64 (x1988.length : Int)), (35, .int .i64 x3061)]) ⟨rfl, rfl, rfl, rfl, rfl, rfl, rfl, rfl, rfl, rfl, trivial⟩ ?_
          refine C_seq ?_
          refine C_seq ?_
          refine R_nd ?_
          refine nq (v := .agg c3301.toArray) (Q_ldW (k := 0) H.ok rfl ty58 rfl (arr_clen hc3302.2 hc3302.1)) rfl rfl ?_
          refine nq (v := .int .i64 0) (Q_move rfl) rfl rfl ?_
          refine WL_nil ?_
          refine x_then ?_
          refine CW.sub (E' := [(1, .pointer (some ⟨b1978, 0, none⟩)), (2, .pointer (some ⟨b1980, 0, none⟩)), (3, .pointer (some ⟨b1982, 0, none⟩)), (4, v1986), (5, (.slice (some ⟨b1992, 0, none⟩) (x2.length : Int).toNat (x2.length : Int).toNat)), (9, .int .i64 x3291), (10, .pointer (some ⟨b3305, 0, none⟩)), (33, v1986), (34, .int .i64 (x1988.length : Int)), (35, .int .i64 x3061), (44, .agg c3301.toArray), (45, .int .i64 0)]) ⟨rfl, rfl, rfl, rfl, rfl, rfl, rfl, rfl, rfl, rfl, rfl, rfl, trivial⟩ ?_
          obtain ⟨o3376, ho3376, hB3288⟩ := bnd hB3288
          refine C_cutQ (fun a w' => ∃ (c3372 : (List Value)) (x3373 : (List Int)), x3373 = o3376 ∧ rdL (eI .i64) ρ x3373 c3372 ∧ x3373.length = 256 ∧ Fr 95 a [(1, .pointer (some ⟨b1978, 0, none⟩)), (2, .pointer (some ⟨b1980, 0, none⟩)), (3, .pointer (some ⟨b1982, 0, none⟩)), (4, v1986), (5, (.slice (some ⟨b1992, 0, none⟩) (x2.length : Int).toNat (x2.length : Int).toNat)), (9, .int .i64 x3291), (10, .pointer (some ⟨b3305, 0, none⟩)), (33, v1986), (34, .int .i64 (x1988.length : Int)), (35, .int .i64 x3061)] ∧ Hp C w' ρ (Box b1978 [v1, v4, v7] :: Arr (.slice (some ⟨b3305, 0, none⟩) 256 256) 1 c3372 :: Box b1980 [.slice none 0 0, .slice none 0 0, .slice none 0 0] :: Box b1982 [v3053, v3057, .slice none 0 0] :: Arr v3053 256 c3054 :: Arr v3057 1 c3058 :: Arr v1986 1 c1987 :: Arr (.slice (some ⟨b1992, 0, none⟩) (x2.length : Int).toNat (x2.length : Int).toNat) 1 c2065 :: hs)) ?_ ?_
          · refine C_block ?_
            replace H := H.front 7 rfl
            replace H : Hp C wd3307 ρ (Arr (.slice (some ⟨b1992, 0, none⟩) (x2.length : Int).toNat (x2.length : Int).toNat) 1 c2065 :: Arr (.slice (some ⟨b3305, 0, none⟩) 256 256) 1 c3301 :: Box b1978 [v1, v4, v7] :: Box b1980 [.slice none 0 0, .slice none 0 0, .slice none 0 0] :: Box b1982 [v3053, v3057, .slice none 0 0] :: Arr v3053 256 c3054 :: Arr v3057 1 c3058 :: Arr v1986 1 c1987 :: hs) := H
            replace H := H.front 7 rfl
            replace H : Hp C wd3307 ρ (Arr v1986 1 c1987 :: Arr (.slice (some ⟨b1992, 0, none⟩) (x2.length : Int).toNat (x2.length : Int).toNat) 1 c2065 :: Arr (.slice (some ⟨b3305, 0, none⟩) 256 256) 1 c3301 :: Box b1978 [v1, v4, v7] :: Box b1980 [.slice none 0 0, .slice none 0 0, .slice none 0 0] :: Box b1982 [v3053, v3057, .slice none 0 0] :: Arr v3053 256 c3054 :: Arr v3057 1 c3058 :: hs) := H
            replace H := H.front 7 rfl
            replace H : Hp C wd3307 ρ (Arr v3057 1 c3058 :: Arr v1986 1 c1987 :: Arr (.slice (some ⟨b1992, 0, none⟩) (x2.length : Int).toNat (x2.length : Int).toNat) 1 c2065 :: Arr (.slice (some ⟨b3305, 0, none⟩) 256 256) 1 c3301 :: Box b1978 [v1, v4, v7] :: Box b1980 [.slice none 0 0, .slice none 0 0, .slice none 0 0] :: Box b1982 [v3053, v3057, .slice none 0 0] :: Arr v3053 256 c3054 :: hs) := H
            replace H := H.front 7 rfl
            replace H : Hp C wd3307 ρ (Arr v3053 256 c3054 :: Arr v3057 1 c3058 :: Arr v1986 1 c1987 :: Arr (.slice (some ⟨b1992, 0, none⟩) (x2.length : Int).toNat (x2.length : Int).toNat) 1 c2065 :: Arr (.slice (some ⟨b3305, 0, none⟩) 256 256) 1 c3301 :: Box b1978 [v1, v4, v7] :: Box b1980 [.slice none 0 0, .slice none 0 0, .slice none 0 0] :: Box b1982 [v3053, v3057, .slice none 0 0] :: hs) := H
            replace H := H.front 7 rfl
            replace H : Hp C wd3307 ρ (Box b1982 [v3053, v3057, .slice none 0 0] :: Arr v3053 256 c3054 :: Arr v3057 1 c3058 :: Arr v1986 1 c1987 :: Arr (.slice (some ⟨b1992, 0, none⟩) (x2.length : Int).toNat (x2.length : Int).toNat) 1 c2065 :: Arr (.slice (some ⟨b3305, 0, none⟩) 256 256) 1 c3301 :: Box b1978 [v1, v4, v7] :: Box b1980 [.slice none 0 0, .slice none 0 0, .slice none 0 0] :: hs) := H
            replace H := H.front 7 rfl
            replace H : Hp C wd3307 ρ (Box b1980 [.slice none 0 0, .slice none 0 0, .slice none 0 0] :: Box b1982 [v3053, v3057, .slice none 0 0] :: Arr v3053 256 c3054 :: Arr v3057 1 c3058 :: Arr v1986 1 c1987 :: Arr (.slice (some ⟨b1992, 0, none⟩) (x2.length : Int).toNat (x2.length : Int).toNat) 1 c2065 :: Arr (.slice (some ⟨b3305, 0, none⟩) 256 256) 1 c3301 :: Box b1978 [v1, v4, v7] :: hs) := H
            replace H := H.front 6 rfl
            replace H : Hp C wd3307 ρ (Arr (.slice (some ⟨b3305, 0, none⟩) 256 256) 1 c3301 :: Box b1980 [.slice none 0 0, .slice none 0 0, .slice none 0 0] :: Box b1982 [v3053, v3057, .slice none 0 0] :: Arr v3053 256 c3054 :: Arr v3057 1 c3058 :: Arr v1986 1 c1987 :: Arr (.slice (some ⟨b1992, 0, none⟩) (x2.length : Int).toNat (x2.length : Int).toNat) 1 c2065 :: Box b1978 [v1, v4, v7] :: hs) := H
            replace H := H.front 7 rfl
            replace H : Hp C wd3307 ρ (Box b1978 [v1, v4, v7] :: Arr (.slice (some ⟨b3305, 0, none⟩) 256 256) 1 c3301 :: Box b1980 [.slice none 0 0, .slice none 0 0, .slice none 0 0] :: Box b1982 [v3053, v3057, .slice none 0 0] :: Arr v3053 256 c3054 :: Arr v3057 1 c3058 :: Arr v1986 1 c1987 :: Arr (.slice (some ⟨b1992, 0, none⟩) (x2.length : Int).toNat (x2.length : Int).toNat) 1 c2065 :: hs) := H
            refine C_iter (f := fun s => F_canon_Canon_l2 N x2066 x3298 s.1 s.2) ho3376 (fun s a w' => ∃ (c3397 : (List Value)) (x3398 : (List Int)) (x3401 : Int), (x3398, x3401) = s ∧ rdL (eI .i64) ρ x3398 c3397 ∧ x3398.length = 256 ∧ Fr 95 a [(1, .pointer (some ⟨b1978, 0, none⟩)), (2, .pointer (some ⟨b1980, 0, none⟩)), (3, .pointer (some ⟨b1982, 0, none⟩)), (4, v1986), (5, (.slice (some ⟨b1992, 0, none⟩) (x2.length : Int).toNat (x2.length : Int).toNat)), (9, .int .i64 x3291), (10, .pointer (some ⟨b3305, 0, none⟩)), (33, v1986), (34, .int .i64 (x1988.length : Int)), (35, .int .i64 x3061), (44, .agg c3301.toArray), (45, .int .i64 x3401)] ∧ Hp C w' ρ (Box b1978 [v1, v4, v7] :: Arr (.slice (some ⟨b3305, 0, none⟩) 256 256) 1 c3397 :: Box b1980 [.slice none 0 0, .slice none 0 0, .slice none 0 0] :: Box b1982 [v3053, v3057, .slice none 0 0] :: Arr v3053 256 c3054 :: Arr v3057 1 c3058 :: Arr v1986 1 c1987 :: Arr (.slice (some ⟨b1992, 0, none⟩) (x2.length : Int).toNat (x2.length : Int).toNat) 1 c2065 :: hs)) ?_ ?_
            · exact fun a hf => ⟨c3301, x3298, 0, rfl, hc3302.2, hc3302.1, hf.sub ⟨rfl, rfl, rfl, rfl, rfl, rfl, rfl, rfl, rfl, rfl, rfl, rfl, trivial⟩, H⟩
            · rintro s o3422 a wd3425 ⟨c3397, x3398, x3401, rfl, r3399, lp3400, hf, H⟩ hB3423 hO3424
              replace hB3423 : F_canon_Canon_l2 N x2066 x3298 x3398 x3401 = some o3422 := hB3423
              unfold F_canon_Canon_l2 at hB3423
              refine CW.at hf ?_
              refine C_seq ?_
              refine R_nd ?_
              refine nq (v := .bool (decide (x3401 < 256))) (Q_lss rfl rfl) rfl rfl ?_
              refine WL_nil ?_
              refine x_then ?_
              refine CW.sub (E' := [(1, .pointer (some ⟨b1978, 0, none⟩)), (2, .pointer (some ⟨b1980, 0, none⟩)), (3, .pointer (some ⟨b1982, 0, none⟩)), (4, v1986), (5, (.slice (some ⟨b1992, 0, none⟩) (x2.length : Int).toNat (x2.length : Int).toNat)), (9, .int .i64 x3291), (10, .pointer (some ⟨b3305, 0, none⟩)), (33, v1986), (34, .int .i64 (x1988.length : Int)), (35, .int .i64 x3061), (44, .agg c3301.toArray), (45, .int .i64 x3401), (46, .bool (decide (x3401 < 256)))]) ⟨rfl, rfl, rfl, rfl, rfl, rfl, rfl, rfl, rfl, rfl, rfl, rfl, rfl, trivial⟩ ?_
              refine C_seq ?_
              refine C_cond rfl (fun hb => ?_) (fun hb => ?_)
              · replace hB3423 := itT hb hB3423
                refine C_skip ?_
                refine x_then ?_
                refine CW.sub (E' := [(1, .pointer (some ⟨b1978, 0, none⟩)), (2, .pointer (some ⟨b1980, 0, none⟩)), (3, .pointer (some ⟨b1982, 0, none⟩)), (4, v1986), (5, (.slice (some ⟨b1992, 0, none⟩) (x2.length : Int).toNat (x2.length : Int).toNat)), (9, .int .i64 x3291), (10, .pointer (some ⟨b3305, 0, none⟩)), (33, v1986), (34, .int .i64 (x1988.length : Int)), (35, .int .i64 x3061), (44, .agg c3301.toArray), (45, .int .i64 x3401)]) ⟨rfl, rfl, rfl, rfl, rfl, rfl, rfl, rfl, rfl, rfl, rfl, rfl, trivial⟩ ?_
                refine C_seq ?_
                refine C_block ?_
                refine C_seq ?_
                refine R_nd ?_
                refine nq (v := .int .i64 x3401) (Q_move rfl) rfl rfl ?_
                obtain ⟨x3426, hx3426, hB3423⟩ := bnd hB3423
                refine nq (v := .int .i64 x3426) (Q_ixI hc3302.2 hc3302.1 hx3426 Tryd.underlying58 rfl rfl ty3 rfl) rfl rfl ?_
                refine nq (v := .int .i64 x3401) (Q_assign rfl) rfl rfl ?_
                refine nq (v := .int .i64 x3426) (Q_assign rfl) rfl rfl ?_
                refine WL_nil ?_
                refine x_then ?_
                refine CW.sub (E' := [(1, .pointer (some ⟨b1978, 0, none⟩)), (2, .pointer (some ⟨b1980, 0, none⟩)), (3, .pointer (some ⟨b1982, 0, none⟩)), (4, v1986), (5, (.slice (some ⟨b1992, 0, none⟩) (x2.length : Int).toNat (x2.length : Int).toNat)), (9, .int .i64 x3291), (10, .pointer (some ⟨b3305, 0, none⟩)), (11, .int .i64 x3401), (12, .int .i64 x3426), (33, v1986), (34, .int .i64 (x1988.length : Int)), (35, .int .i64 x3061), (44, .agg c3301.toArray), (45, .int .i64 x3401)]) ⟨rfl, rfl, rfl, rfl, rfl, rfl, rfl, rfl, rfl, rfl, rfl, rfl, rfl, rfl, trivial⟩ ?_
                refine R_nd ?_
                refine nq (v := .int .i64 x3401) (Q_move rfl) rfl rfl ?_
                refine nq (v := (.slice (some ⟨b1992, 0, none⟩) (x2.length : Int).toNat (x2.length : Int).toNat)) (Q_move rfl) rfl rfl ?_
                refine nq (v := .int .i64 x3426) (Q_move rfl) rfl rfl ?_
                obtain ⟨x3427, hx3427, hB3423⟩ := bnd hB3423
                obtain ⟨b3428, o3429, hi3433, hc3431, ha3432⟩ := arr_at (hs := [Arr (.slice (some ⟨b1992, 0, none⟩) (x2.length : Int).toNat (x2.length : Int).toNat) 1 c2065]) (k := 0) (by decide) (H.okS (by simp)) rfl r2067 hx3427
                refine nq (v := .pointer (some ⟨b3428, o3429, none⟩)) (Q_idx hi3433 Tryd.underlying23 ty3 rfl rfl) rfl rfl ?_
                refine nq (v := .int .i64 x3427) (Q_ld (show cellsAt _ _ _ [.int .i64 x3427] from (show _ = [_] from hc3431) ▸ (ha3432 _ (Ok.subS (by simp) H.ok))) ty3 rfl (fun _ => rfl) rfl rfl) rfl rfl ?_
                obtain ⟨x3434, hx3434, hB3423⟩ := bnd hB3423
                have hn3436 := idx_lt (N := 256) (lp3400) hx3434
                have hi3435 : IdxOk (.slice (some ⟨b3305, 0, none⟩) 256 256) x3401 1 b3305 (0 + x3401.toNat * 1) := ⟨0, 256, 256, rfl, hn3436.1, hn3436.2, rfl⟩
                refine nq (v := .pointer (some ⟨b3305, 0 + x3401.toNat * 1, none⟩)) (Q_idxA hn3436.1 hn3436.2 Tryd.underlying58 ty3 rfl rfl) rfl rfl ?_
                obtain ⟨x3437, hx3437, hB3423⟩ := bnd hB3423
                obtain ⟨hs3438a, hs3438b, hs3438c⟩ := setI_some hx3437
                have r3439 : rdL (eI .i64) ρ x3437 (setC c3397 (x3401.toNat * 1 + 0) [.int .i64 x3427]) := hs3438c ▸ rdL.set r3399 hs3438b (rfl)
                refine ne (E_stA (k := 1) (j := 0) (c := [.int .i64 x3427]) H rfl ty3 hi3435 rfl rfl rfl rfl (one_cons rfl one_nil) (by decide)) rfl rfl ?_
                rintro _ wd3440 H
                replace H : Hp C wd3440 ρ (Box b1978 [v1, v4, v7] :: Arr (.slice (some ⟨b3305, 0, none⟩) 256 256) 1 (setC c3397 (x3401.toNat * 1 + 0) [.int .i64 x3427]) :: Box b1980 [.slice none 0 0, .slice none 0 0, .slice none 0 0] :: Box b1982 [v3053, v3057, .slice none 0 0] :: Arr v3053 256 c3054 :: Arr v3057 1 c3058 :: Arr v1986 1 c1987 :: Arr (.slice (some ⟨b1992, 0, none⟩) (x2.length : Int).toNat (x2.length : Int).toNat) 1 c2065 :: hs) := H
                refine WL_nil ?_
                refine x_block ?_
                refine x_then ?_
                refine CW.sub (E' := [(1, .pointer (some ⟨b1978, 0, none⟩)), (2, .pointer (some ⟨b1980, 0, none⟩)), (3, .pointer (some ⟨b1982, 0, none⟩)), (4, v1986), (5, (.slice (some ⟨b1992, 0, none⟩) (x2.length : Int).toNat (x2.length : Int).toNat)), (9, .int .i64 x3291), (10, .pointer (some ⟨b3305, 0, none⟩)), (33, v1986), (34, .int .i64 (x1988.length : Int)), (35, .int .i64 x3061), (44, .agg c3301.toArray), (45, .int .i64 x3401)]) ⟨rfl, rfl, rfl, rfl, rfl, rfl, rfl, rfl, rfl, rfl, rfl, rfl, trivial⟩ ?_
                refine R_nd ?_
                refine nq (v := .int .i64 (w64 (x3401 + 1))) (Q_add rfl rfl) rfl rfl ?_
                refine nq (v := .int .i64 (w64 (x3401 + 1))) (Q_move rfl) rfl rfl ?_
                refine WL_nil ?_
                replace H := H.front 7 rfl
                replace H : Hp C wd3440 ρ (Arr (.slice (some ⟨b1992, 0, none⟩) (x2.length : Int).toNat (x2.length : Int).toNat) 1 c2065 :: Box b1978 [v1, v4, v7] :: Arr (.slice (some ⟨b3305, 0, none⟩) 256 256) 1 (setC c3397 (x3401.toNat * 1 + 0) [.int .i64 x3427]) :: Box b1980 [.slice none 0 0, .slice none 0 0, .slice none 0 0] :: Box b1982 [v3053, v3057, .slice none 0 0] :: Arr v3053 256 c3054 :: Arr v3057 1 c3058 :: Arr v1986 1 c1987 :: hs) := H
                replace H := H.front 7 rfl
                replace H : Hp C wd3440 ρ (Arr v1986 1 c1987 :: Arr (.slice (some ⟨b1992, 0, none⟩) (x2.length : Int).toNat (x2.length : Int).toNat) 1 c2065 :: Box b1978 [v1, v4, v7] :: Arr (.slice (some ⟨b3305, 0, none⟩) 256 256) 1 (setC c3397 (x3401.toNat * 1 + 0) [.int .i64 x3427]) :: Box b1980 [.slice none 0 0, .slice none 0 0, .slice none 0 0] :: Box b1982 [v3053, v3057, .slice none 0 0] :: Arr v3053 256 c3054 :: Arr v3057 1 c3058 :: hs) := H
                replace H := H.front 7 rfl
                replace H : Hp C wd3440 ρ (Arr v3057 1 c3058 :: Arr v1986 1 c1987 :: Arr (.slice (some ⟨b1992, 0, none⟩) (x2.length : Int).toNat (x2.length : Int).toNat) 1 c2065 :: Box b1978 [v1, v4, v7] :: Arr (.slice (some ⟨b3305, 0, none⟩) 256 256) 1 (setC c3397 (x3401.toNat * 1 + 0) [.int .i64 x3427]) :: Box b1980 [.slice none 0 0, .slice none 0 0, .slice none 0 0] :: Box b1982 [v3053, v3057, .slice none 0 0] :: Arr v3053 256 c3054 :: hs) := H
                replace H := H.front 7 rfl
                replace H : Hp C wd3440 ρ (Arr v3053 256 c3054 :: Arr v3057 1 c3058 :: Arr v1986 1 c1987 :: Arr (.slice (some ⟨b1992, 0, none⟩) (x2.length : Int).toNat (x2.length : Int).toNat) 1 c2065 :: Box b1978 [v1, v4, v7] :: Arr (.slice (some ⟨b3305, 0, none⟩) 256 256) 1 (setC c3397 (x3401.toNat * 1 + 0) [.int .i64 x3427]) :: Box b1980 [.slice none 0 0, .slice none 0 0, .slice none 0 0] :: Box b1982 [v3053, v3057, .slice none 0 0] :: hs) := H
                replace H := H.front 7 rfl
                replace H : Hp C wd3440 ρ (Box b1982 [v3053, v3057, .slice none 0 0] :: Arr v3053 256 c3054 :: Arr v3057 1 c3058 :: Arr v1986 1 c1987 :: Arr (.slice (some ⟨b1992, 0, none⟩) (x2.length : Int).toNat (x2.length : Int).toNat) 1 c2065 :: Box b1978 [v1, v4, v7] :: Arr (.slice (some ⟨b3305, 0, none⟩) 256 256) 1 (setC c3397 (x3401.toNat * 1 + 0) [.int .i64 x3427]) :: Box b1980 [.slice none 0 0, .slice none 0 0, .slice none 0 0] :: hs) := H
                replace H := H.front 7 rfl
                replace H : Hp C wd3440 ρ (Box b1980 [.slice none 0 0, .slice none 0 0, .slice none 0 0] :: Box b1982 [v3053, v3057, .slice none 0 0] :: Arr v3053 256 c3054 :: Arr v3057 1 c3058 :: Arr v1986 1 c1987 :: Arr (.slice (some ⟨b1992, 0, none⟩) (x2.length : Int).toNat (x2.length : Int).toNat) 1 c2065 :: Box b1978 [v1, v4, v7] :: Arr (.slice (some ⟨b3305, 0, none⟩) 256 256) 1 (setC c3397 (x3401.toNat * 1 + 0) [.int .i64 x3427]) :: hs) := H
                replace H := H.front 7 rfl
                replace H : Hp C wd3440 ρ (Arr (.slice (some ⟨b3305, 0, none⟩) 256 256) 1 (setC c3397 (x3401.toNat * 1 + 0) [.int .i64 x3427]) :: Box b1980 [.slice none 0 0, .slice none 0 0, .slice none 0 0] :: Box b1982 [v3053, v3057, .slice none 0 0] :: Arr v3053 256 c3054 :: Arr v3057 1 c3058 :: Arr v1986 1 c1987 :: Arr (.slice (some ⟨b1992, 0, none⟩) (x2.length : Int).toNat (x2.length : Int).toNat) 1 c2065 :: Box b1978 [v1, v4, v7] :: hs) := H
                replace H := H.front 7 rfl
                replace H : Hp C wd3440 ρ (Box b1978 [v1, v4, v7] :: Arr (.slice (some ⟨b3305, 0, none⟩) 256 256) 1 (setC c3397 (x3401.toNat * 1 + 0) [.int .i64 x3427]) :: Box b1980 [.slice none 0 0, .slice none 0 0, .slice none 0 0] :: Box b1982 [v3053, v3057, .slice none 0 0] :: Arr v3053 256 c3054 :: Arr v3057 1 c3058 :: Arr v1986 1 c1987 :: Arr (.slice (some ⟨b1992, 0, none⟩) (x2.length : Int).toNat (x2.length : Int).toNat) 1 c2065 :: hs) := H
                obtain rfl := Option.some.inj hB3423
                refine x_A fun a hf => ⟨_, rfl, (setC c3397 (x3401.toNat * 1 + 0) [.int .i64 x3427]), x3437, w64 (x3401 + 1), rfl, r3439, (setI_len hx3437 lp3400), hf.sub ⟨rfl, rfl, rfl, rfl, rfl, rfl, rfl, rfl, rfl, rfl, rfl, rfl, trivial⟩, H⟩
              · replace hB3423 := itF hb hB3423
                refine C_exit ?_
                refine x_then_exit ?_
                refine x_then_exit ?_
                refine x_block_exit ?_
                replace H := H.front 7 rfl
                replace H : Hp C wd3425 ρ (Arr (.slice (some ⟨b1992, 0, none⟩) (x2.length : Int).toNat (x2.length : Int).toNat) 1 c2065 :: Box b1978 [v1, v4, v7] :: Arr (.slice (some ⟨b3305, 0, none⟩) 256 256) 1 c3397 :: Box b1980 [.slice none 0 0, .slice none 0 0, .slice none 0 0] :: Box b1982 [v3053, v3057, .slice none 0 0] :: Arr v3053 256 c3054 :: Arr v3057 1 c3058 :: Arr v1986 1 c1987 :: hs) := H
                replace H := H.front 7 rfl
                replace H : Hp C wd3425 ρ (Arr v1986 1 c1987 :: Arr (.slice (some ⟨b1992, 0, none⟩) (x2.length : Int).toNat (x2.length : Int).toNat) 1 c2065 :: Box b1978 [v1, v4, v7] :: Arr (.slice (some ⟨b3305, 0, none⟩) 256 256) 1 c3397 :: Box b1980 [.slice none 0 0, .slice none 0 0, .slice none 0 0] :: Box b1982 [v3053, v3057, .slice none 0 0] :: Arr v3053 256 c3054 :: Arr v3057 1 c3058 :: hs) := H
                replace H := H.front 7 rfl
                replace H : Hp C wd3425 ρ (Arr v3057 1 c3058 :: Arr v1986 1 c1987 :: Arr (.slice (some ⟨b1992, 0, none⟩) (x2.length : Int).toNat (x2.length : Int).toNat) 1 c2065 :: Box b1978 [v1, v4, v7] :: Arr (.slice (some ⟨b3305, 0, none⟩) 256 256) 1 c3397 :: Box b1980 [.slice none 0 0, .slice none 0 0, .slice none 0 0] :: Box b1982 [v3053, v3057, .slice none 0 0] :: Arr v3053 256 c3054 :: hs) := H
                replace H := H.front 7 rfl
                replace H : Hp C wd3425 ρ (Arr v3053 256 c3054 :: Arr v3057 1 c3058 :: Arr v1986 1 c1987 :: Arr (.slice (some ⟨b1992, 0, none⟩) (x2.length : Int).toNat (x2.length : Int).toNat) 1 c2065 :: Box b1978 [v1, v4, v7] :: Arr (.slice (some ⟨b3305, 0, none⟩) 256 256) 1 c3397 :: Box b1980 [.slice none 0 0, .slice none 0 0, .slice none 0 0] :: Box b1982 [v3053, v3057, .slice none 0 0] :: hs) := H
                replace H := H.front 7 rfl
                replace H : Hp C wd3425 ρ (Box b1982 [v3053, v3057, .slice none 0 0] :: Arr v3053 256 c3054 :: Arr v3057 1 c3058 :: Arr v1986 1 c1987 :: Arr (.slice (some ⟨b1992, 0, none⟩) (x2.length : Int).toNat (x2.length : Int).toNat) 1 c2065 :: Box b1978 [v1, v4, v7] :: Arr (.slice (some ⟨b3305, 0, none⟩) 256 256) 1 c3397 :: Box b1980 [.slice none 0 0, .slice none 0 0, .slice none 0 0] :: hs) := H
                replace H := H.front 7 rfl
                replace H : Hp C wd3425 ρ (Box b1980 [.slice none 0 0, .slice none 0 0, .slice none 0 0] :: Box b1982 [v3053, v3057, .slice none 0 0] :: Arr v3053 256 c3054 :: Arr v3057 1 c3058 :: Arr v1986 1 c1987 :: Arr (.slice (some ⟨b1992, 0, none⟩) (x2.length : Int).toNat (x2.length : Int).toNat) 1 c2065 :: Box b1978 [v1, v4, v7] :: Arr (.slice (some ⟨b3305, 0, none⟩) 256 256) 1 c3397 :: hs) := H
                replace H := H.front 7 rfl
                replace H : Hp C wd3425 ρ (Arr (.slice (some ⟨b3305, 0, none⟩) 256 256) 1 c3397 :: Box b1980 [.slice none 0 0, .slice none 0 0, .slice none 0 0] :: Box b1982 [v3053, v3057, .slice none 0 0] :: Arr v3053 256 c3054 :: Arr v3057 1 c3058 :: Arr v1986 1 c1987 :: Arr (.slice (some ⟨b1992, 0, none⟩) (x2.length : Int).toNat (x2.length : Int).toNat) 1 c2065 :: Box b1978 [v1, v4, v7] :: hs) := H
                replace H := H.front 7 rfl
                replace H : Hp C wd3425 ρ (Box b1978 [v1, v4, v7] :: Arr (.slice (some ⟨b3305, 0, none⟩) 256 256) 1 c3397 :: Box b1980 [.slice none 0 0, .slice none 0 0, .slice none 0 0] :: Box b1982 [v3053, v3057, .slice none 0 0] :: Arr v3053 256 c3054 :: Arr v3057 1 c3058 :: Arr v1986 1 c1987 :: Arr (.slice (some ⟨b1992, 0, none⟩) (x2.length : Int).toNat (x2.length : Int).toNat) 1 c2065 :: hs) := H
                obtain rfl := Option.some.inj hB3423
                obtain rfl := hO3424 _ rfl
                refine x_A fun a hf => ⟨c3397, x3398, rfl, r3399, lp3400, hf.sub ⟨rfl, rfl, rfl, rfl, rfl, rfl, rfl, rfl, rfl, rfl, trivial⟩, H⟩
          · rintro a wd3441 ⟨c3372, x3373, rfl, r3374, lp3375, hf, H⟩
            try dsimp only at hB3288
            refine XX.at hf ?_
            refine x_then ?_
            refine CW.sub (E' := [(1, .pointer (some ⟨b1978, 0, none⟩)), (2, .pointer (some ⟨b1980, 0, none⟩)), (3, .pointer (some ⟨b1982, 0, none⟩)), (4, v1986), (5, (.slice (some ⟨b1992, 0, none⟩) (x2.length : Int).toNat (x2.length : Int).toNat)), (9, .int .i64 x3291), (10, .pointer (some ⟨b3305, 0, none⟩)), (33, v1986), (34, .int .i64 (x1988.length : Int)), (35, .int .i64 x3061)]) ⟨rfl, rfl, rfl, rfl, rfl, rfl, rfl, rfl, rfl, rfl, trivial⟩ ?_
            refine C_seq ?_
            refine R_nd ?_
            refine nq (v := .pointer (some ⟨b1982, 0, none⟩)) (Q_fld Tryd.underlying25 rfl ty22 (by decide) rfl rfl) rfl rfl ?_
            refine nq (v := v3053) (Q_ldB (k := 3) (cs := [v3053]) H.ok rfl ty22 rfl rfl rfl (fun _ => rfl) rfl) rfl rfl ?_
            refine nq (v := .agg c3372.toArray) (Q_ldW (k := 1) H.ok rfl ty58 rfl (arr_clen r3374 lp3375)) rfl rfl ?_
            refine ne (E_bslice (xs := [.tmp 58]) (vs := [.agg c3372.toArray]) H Tryd.underlying22 ty58 (by decide) (cs := c3372) rfl (sz_cons (arr_clen r3374 lp3375) sz_nil) (by simp [Value.cells]) (by simp) (by simp) rfl rfl) rfl rfl ?_
            rintro _ wd3443 ⟨b3442, rfl, H⟩
            replace H : Hp C wd3443 ρ (Arr (.slice (some ⟨b3442, 0, none⟩) 1 1) 256 c3372 :: Box b1978 [v1, v4, v7] :: Arr (.slice (some ⟨b3305, 0, none⟩) 256 256) 1 c3372 :: Box b1980 [.slice none 0 0, .slice none 0 0, .slice none 0 0] :: Box b1982 [v3053, v3057, .slice none 0 0] :: Arr v3053 256 c3054 :: Arr v3057 1 c3058 :: Arr v1986 1 c1987 :: Arr (.slice (some ⟨b1992, 0, none⟩) (x2.length : Int).toNat (x2.length : Int).toNat) 1 c2065 :: hs) := H
            obtain ⟨x3444, hx3444, hB3288⟩ := bnd hB3288
            obtain ⟨ha3445a, ha3445b⟩ := app_some hx3444
            have r3447 : rdL (eA 256 (eI .i64)) ρ x3444 (c3054 ++ c3372) := ha3445b ▸ rdL.app r3056 (show rdL (eA 256 (eI .i64)) ρ ([x3373]) c3372 from rdL.single ⟨lp3375, r3374⟩)
            refine ne (E_append (k := 5) H rfl Tryd.underlying22 ty58 rfl (by decide) (by decide) rfl rfl (Src.ofArr (k := 0) H.ok rfl) (rdL.one (show rdL (eA 256 (eI .i64)) ρ ([x3373]) c3372 from rdL.single ⟨lp3375, r3374⟩)) (app_fit r3056 (show rdL (eA 256 (eI .i64)) ρ ([x3373]) c3372 from rdL.single ⟨lp3375, r3374⟩) ha3445a)) rfl rfl ?_
            rintro v3446 wd3449 ⟨H, hc3448⟩
            replace H : Hp C wd3449 ρ (Arr (.slice (some ⟨b3442, 0, none⟩) 1 1) 256 c3372 :: Box b1978 [v1, v4, v7] :: Arr (.slice (some ⟨b3305, 0, none⟩) 256 256) 1 c3372 :: Box b1980 [.slice none 0 0, .slice none 0 0, .slice none 0 0] :: Box b1982 [v3053, v3057, .slice none 0 0] :: Arr v3446 256 (c3054 ++ c3372) :: Arr v3057 1 c3058 :: Arr v1986 1 c1987 :: Arr (.slice (some ⟨b1992, 0, none⟩) (x2.length : Int).toNat (x2.length : Int).toNat) 1 c2065 :: hs) := H
            refine nq (v := .pointer (some ⟨b1982, 0, none⟩)) (Q_fld Tryd.underlying25 rfl ty22 (by decide) rfl rfl) rfl rfl ?_
            refine ne (E_stB (k := 4) (cs := [v3446]) (vs' := [v3446, v3057, .slice none 0 0]) H rfl ty22 rfl rfl (arr_cells (H.ok.get (k := 5) rfl)).1 rfl (one_cons (arr_cells (H.ok.get (k := 5) rfl)).2 one_nil) (by simp) rfl) rfl rfl ?_
            rintro _ wd3450 H
            replace H : Hp C wd3450 ρ (Arr (.slice (some ⟨b3442, 0, none⟩) 1 1) 256 c3372 :: Box b1978 [v1, v4, v7] :: Arr (.slice (some ⟨b3305, 0, none⟩) 256 256) 1 c3372 :: Box b1980 [.slice none 0 0, .slice none 0 0, .slice none 0 0] :: Box b1982 [v3446, v3057, .slice none 0 0] :: Arr v3446 256 (c3054 ++ c3372) :: Arr v3057 1 c3058 :: Arr v1986 1 c1987 :: Arr (.slice (some ⟨b1992, 0, none⟩) (x2.length : Int).toNat (x2.length : Int).toNat) 1 c2065 :: hs) := H
            refine WL_nil ?_
            refine x_then ?_
            refine CW.sub (E' := [(1, .pointer (some ⟨b1978, 0, none⟩)), (2, .pointer (some ⟨b1980, 0, none⟩)), (3, .pointer (some ⟨b1982, 0, none⟩)), (4, v1986), (5, (.slice (some ⟨b1992, 0, none⟩) (x2.length : Int).toNat (x2.length : Int).toNat)), (9, .int .i64 x3291), (33, v1986), (34, .int .i64 (x1988.length : Int)), (35, .int .i64 x3061)]) ⟨rfl, rfl, rfl, rfl, rfl, rfl, rfl, rfl, rfl, trivial⟩ ?_
            obtain ⟨o3480, ho3480, hB3288⟩ := bnd hB3288
            refine C_cutQ (fun a w' => ∃ (v3476 : Value) (c3477 : (List Value)) (x3478 : (List Int)), x3478 = o3480 ∧ rdL (eI .i64) ρ x3478 c3477 ∧ Fr 95 a [(1, .pointer (some ⟨b1978, 0, none⟩)), (2, .pointer (some ⟨b1980, 0, none⟩)), (3, .pointer (some ⟨b1982, 0, none⟩)), (4, v1986), (5, (.slice (some ⟨b1992, 0, none⟩) (x2.length : Int).toNat (x2.length : Int).toNat)), (33, v1986), (34, .int .i64 (x1988.length : Int)), (35, .int .i64 x3061)] ∧ Hp C w' ρ (Box b1978 [v1, v4, v7] :: Box b1980 [.slice none 0 0, .slice none 0 0, .slice none 0 0] :: Box b1982 [v3446, v3476, .slice none 0 0] :: Arr v3446 256 (c3054 ++ c3372) :: Arr v3476 1 c3477 :: Arr v1986 1 c1987 :: Arr (.slice (some ⟨b1992, 0, none⟩) (x2.length : Int).toNat (x2.length : Int).toNat) 1 c2065 :: hs)) ?_ ?_
            · refine R_dr (.take 0 (.take 2 (.take 3 (.take 4 (.take 5 (.take 6 (.two 1 7 (.one 7 (.one 8 (.take 9 (.one 10 .done)))) (.one 1 (.one 8 (.take 9 (.one 10 .done))))))))))) (fun w' => Ok w' ρ [Arr (.slice (some ⟨b3442, 0, none⟩) 1 1) 256 c3372, Box b1978 [v1, v4, v7], Arr (.slice (some ⟨b3305, 0, none⟩) 256 256) 1 c3372, Box b1980 [.slice none 0 0, .slice none 0 0, .slice none 0 0], Arr v3446 256 (c3054 ++ c3372), Arr v1986 1 c1987, Arr (.slice (some ⟨b1992, 0, none⟩) (x2.length : Int).toNat (x2.length : Int).toNat) 1 c2065]) (by kernel_rfl) (by kernel_rfl) (by kernel_rfl) (H.drew.okS (by simp)) ?_
              replace H := H.drew
              refine dq (v := .pointer (some ⟨b1982, 1, none⟩)) rfl (fun w' hw => Q_fld Tryd.underlying25 rfl ty23 (by decide) rfl rfl) rfl rfl ?_
              refine dq (v := .pointer (some ⟨b1978, 1, none⟩)) rfl (fun w' hw => Q_fld Tryd.underlying25 rfl ty23 (by decide) rfl rfl) rfl rfl ?_
              refine dq (v := v4) rfl (fun w' hw => Q_ldB (k := 1) (cs := [v4]) hw rfl ty23 rfl rfl rfl (fun _ => rfl) rfl) rfl rfl ?_
              refine dq (v := .int .i64 x3291) rfl (fun w' hw => Q_move rfl) rfl rfl ?_
              obtain ⟨x3481, hx3481, ho3480⟩ := bnd ho3480
              obtain ⟨b3482, o3483, c3484, hc3485, ha3486, hi3487⟩ := idxR r6 hx3481
              refine dq (v := .pointer (some ⟨b3482, o3483, none⟩)) rfl (fun w' hw => Q_idx hi3487 Tryd.underlying23 ty3 rfl rfl) rfl rfl ?_
              refine dq (v := .int .i64 x3481) rfl (fun w' hw => Q_ld (show cellsAt _ _ _ [.int .i64 x3481] from (show _ = [_] from hc3485) ▸ (ha3486.up hw.view)) ty3 rfl (fun _ => rfl) rfl rfl) rfl rfl ?_
              refine d2 ?_ ?_
              · refine de rfl (Eff.quiet (v := v3057) (Q_ldB (k := 4) (cs := [v3057]) H.ok rfl ty23 rfl rfl rfl (fun _ => rfl) rfl)) rfl rfl ?_
                rintro _ _ ⟨rfl, rfl⟩
                refine ⟨H.okS (by simp), ?_⟩
                refine d1 (de rfl (E_bslice (xs := [.tmp 68]) (vs := [.int .i64 x3481]) H Tryd.underlying23 ty3 (by decide) (cs := [.int .i64 x3481]) rfl (sz_cons rfl sz_nil) rfl (by simp) (by simp) rfl rfl) rfl rfl ?_)
                rintro _ wd3489 ⟨b3488, rfl, H⟩
                replace H : Hp C wd3489 ρ (Arr (.slice (some ⟨b3488, 0, none⟩) 1 1) 1 ([.int .i64 x3481]) :: Arr (.slice (some ⟨b3442, 0, none⟩) 1 1) 256 c3372 :: Box b1978 [v1, v4, v7] :: Arr (.slice (some ⟨b3305, 0, none⟩) 256 256) 1 c3372 :: Box b1980 [.slice none 0 0, .slice none 0 0, .slice none 0 0] :: Box b1982 [v3446, v3057, .slice none 0 0] :: Arr v3446 256 (c3054 ++ c3372) :: Arr v3057 1 c3058 :: Arr v1986 1 c1987 :: Arr (.slice (some ⟨b1992, 0, none⟩) (x2.length : Int).toNat (x2.length : Int).toNat) 1 c2065 :: hs) := H
                refine ⟨H.okS (by simp), ?_⟩
                obtain ⟨x3490, hx3490, ho3480⟩ := bnd ho3480
                obtain ⟨ha3491a, ha3491b⟩ := app_some hx3490
                have r3493 : rdL (eI .i64) ρ x3490 (c3058 ++ ([.int .i64 x3481])) := ha3491b ▸ rdL.app r3060 (show rdL (eI .i64) ρ ([x3481]) ([.int .i64 x3481]) from ⟨([.int .i64 x3481]), _, rfl, rfl, rdL.nil⟩)
                refine d1 (de rfl (E_append (k := 7) H rfl Tryd.underlying23 ty3 rfl (by decide) (by decide) rfl rfl (Src.ofArr (k := 0) H.ok rfl) (rdL.one (show rdL (eI .i64) ρ ([x3481]) ([.int .i64 x3481]) from ⟨([.int .i64 x3481]), _, rfl, rfl, rdL.nil⟩)) (app_fit r3060 (show rdL (eI .i64) ρ ([x3481]) ([.int .i64 x3481]) from ⟨([.int .i64 x3481]), _, rfl, rfl, rdL.nil⟩) ha3491a)) rfl rfl ?_)
                rintro v3492 wd3495 ⟨H, hc3494⟩
                replace H : Hp C wd3495 ρ (Arr (.slice (some ⟨b3488, 0, none⟩) 1 1) 1 ([.int .i64 x3481]) :: Arr (.slice (some ⟨b3442, 0, none⟩) 1 1) 256 c3372 :: Box b1978 [v1, v4, v7] :: Arr (.slice (some ⟨b3305, 0, none⟩) 256 256) 1 c3372 :: Box b1980 [.slice none 0 0, .slice none 0 0, .slice none 0 0] :: Box b1982 [v3446, v3057, .slice none 0 0] :: Arr v3446 256 (c3054 ++ c3372) :: Arr v3492 1 (c3058 ++ ([.int .i64 x3481])) :: Arr v1986 1 c1987 :: Arr (.slice (some ⟨b1992, 0, none⟩) (x2.length : Int).toNat (x2.length : Int).toNat) 1 c2065 :: hs) := H
                refine ⟨H.okS (by simp), ?_⟩
                refine dq (v := .pointer (some ⟨b1982, 1, none⟩)) rfl (fun w' hw => Q_fld Tryd.underlying25 rfl ty23 (by decide) rfl rfl) rfl rfl ?_
                refine d1 (de rfl (E_stB (k := 5) (cs := [v3492]) (vs' := [v3446, v3492, .slice none 0 0]) H rfl ty23 rfl rfl (arr_cells (H.ok.get (k := 7) rfl)).1 rfl (one_cons (arr_cells (H.ok.get (k := 7) rfl)).2 one_nil) (by simp) rfl) rfl rfl ?_)
                rintro _ wd3496 H
                replace H : Hp C wd3496 ρ (Arr (.slice (some ⟨b3488, 0, none⟩) 1 1) 1 ([.int .i64 x3481]) :: Arr (.slice (some ⟨b3442, 0, none⟩) 1 1) 256 c3372 :: Box b1978 [v1, v4, v7] :: Arr (.slice (some ⟨b3305, 0, none⟩) 256 256) 1 c3372 :: Box b1980 [.slice none 0 0, .slice none 0 0, .slice none 0 0] :: Box b1982 [v3446, v3492, .slice none 0 0] :: Arr v3446 256 (c3054 ++ c3372) :: Arr v3492 1 (c3058 ++ ([.int .i64 x3481])) :: Arr v1986 1 c1987 :: Arr (.slice (some ⟨b1992, 0, none⟩) (x2.length : Int).toNat (x2.length : Int).toNat) 1 c2065 :: hs) := H
                refine ⟨H.okS (by simp), ?_⟩
                refine DL_nil ?_
                replace H := H.front 9 rfl
                replace H : Hp C wd3496 ρ (Arr (.slice (some ⟨b1992, 0, none⟩) (x2.length : Int).toNat (x2.length : Int).toNat) 1 c2065 :: Arr (.slice (some ⟨b3488, 0, none⟩) 1 1) 1 ([.int .i64 x3481]) :: Arr (.slice (some ⟨b3442, 0, none⟩) 1 1) 256 c3372 :: Box b1978 [v1, v4, v7] :: Arr (.slice (some ⟨b3305, 0, none⟩) 256 256) 1 c3372 :: Box b1980 [.slice none 0 0, .slice none 0 0, .slice none 0 0] :: Box b1982 [v3446, v3492, .slice none 0 0] :: Arr v3446 256 (c3054 ++ c3372) :: Arr v3492 1 (c3058 ++ ([.int .i64 x3481])) :: Arr v1986 1 c1987 :: hs) := H
                replace H := H.front 9 rfl
                replace H : Hp C wd3496 ρ (Arr v1986 1 c1987 :: Arr (.slice (some ⟨b1992, 0, none⟩) (x2.length : Int).toNat (x2.length : Int).toNat) 1 c2065 :: Arr (.slice (some ⟨b3488, 0, none⟩) 1 1) 1 ([.int .i64 x3481]) :: Arr (.slice (some ⟨b3442, 0, none⟩) 1 1) 256 c3372 :: Box b1978 [v1, v4, v7] :: Arr (.slice (some ⟨b3305, 0, none⟩) 256 256) 1 c3372 :: Box b1980 [.slice none 0 0, .slice none 0 0, .slice none 0 0] :: Box b1982 [v3446, v3492, .slice none 0 0] :: Arr v3446 256 (c3054 ++ c3372) :: Arr v3492 1 (c3058 ++ ([.int .i64 x3481])) :: hs) := H
                replace H := H.front 9 rfl
                replace H : Hp C wd3496 ρ (Arr v3492 1 (c3058 ++ ([.int .i64 x3481])) :: Arr v1986 1 c1987 :: Arr (.slice (some ⟨b1992, 0, none⟩) (x2.length : Int).toNat (x2.length : Int).toNat) 1 c2065 :: Arr (.slice (some ⟨b3488, 0, none⟩) 1 1) 1 ([.int .i64 x3481]) :: Arr (.slice (some ⟨b3442, 0, none⟩) 1 1) 256 c3372 :: Box b1978 [v1, v4, v7] :: Arr (.slice (some ⟨b3305, 0, none⟩) 256 256) 1 c3372 :: Box b1980 [.slice none 0 0, .slice none 0 0, .slice none 0 0] :: Box b1982 [v3446, v3492, .slice none 0 0] :: Arr v3446 256 (c3054 ++ c3372) :: hs) := H
                replace H := H.front 9 rfl
                replace H : Hp C wd3496 ρ (Arr v3446 256 (c3054 ++ c3372) :: Arr v3492 1 (c3058 ++ ([.int .i64 x3481])) :: Arr v1986 1 c1987 :: Arr (.slice (some ⟨b1992, 0, none⟩) (x2.length : Int).toNat (x2.length : Int).toNat) 1 c2065 :: Arr (.slice (some ⟨b3488, 0, none⟩) 1 1) 1 ([.int .i64 x3481]) :: Arr (.slice (some ⟨b3442, 0, none⟩) 1 1) 256 c3372 :: Box b1978 [v1, v4, v7] :: Arr (.slice (some ⟨b3305, 0, none⟩) 256 256) 1 c3372 :: Box b1980 [.slice none 0 0, .slice none 0 0, .slice none 0 0] :: Box b1982 [v3446, v3492, .slice none 0 0] :: hs) := H
                replace H := H.front 9 rfl
                replace H : Hp C wd3496 ρ (Box b1982 [v3446, v3492, .slice none 0 0] :: Arr v3446 256 (c3054 ++ c3372) :: Arr v3492 1 (c3058 ++ ([.int .i64 x3481])) :: Arr v1986 1 c1987 :: Arr (.slice (some ⟨b1992, 0, none⟩) (x2.length : Int).toNat (x2.length : Int).toNat) 1 c2065 :: Arr (.slice (some ⟨b3488, 0, none⟩) 1 1) 1 ([.int .i64 x3481]) :: Arr (.slice (some ⟨b3442, 0, none⟩) 1 1) 256 c3372 :: Box b1978 [v1, v4, v7] :: Arr (.slice (some ⟨b3305, 0, none⟩) 256 256) 1 c3372 :: Box b1980 [.slice none 0 0, .slice none 0 0, .slice none 0 0] :: hs) := H
                replace H := H.front 9 rfl
                replace H : Hp C wd3496 ρ (Box b1980 [.slice none 0 0, .slice none 0 0, .slice none 0 0] :: Box b1982 [v3446, v3492, .slice none 0 0] :: Arr v3446 256 (c3054 ++ c3372) :: Arr v3492 1 (c3058 ++ ([.int .i64 x3481])) :: Arr v1986 1 c1987 :: Arr (.slice (some ⟨b1992, 0, none⟩) (x2.length : Int).toNat (x2.length : Int).toNat) 1 c2065 :: Arr (.slice (some ⟨b3488, 0, none⟩) 1 1) 1 ([.int .i64 x3481]) :: Arr (.slice (some ⟨b3442, 0, none⟩) 1 1) 256 c3372 :: Box b1978 [v1, v4, v7] :: Arr (.slice (some ⟨b3305, 0, none⟩) 256 256) 1 c3372 :: hs) := H
                replace H := H.front 8 rfl
                replace H : Hp C wd3496 ρ (Box b1978 [v1, v4, v7] :: Box b1980 [.slice none 0 0, .slice none 0 0, .slice none 0 0] :: Box b1982 [v3446, v3492, .slice none 0 0] :: Arr v3446 256 (c3054 ++ c3372) :: Arr v3492 1 (c3058 ++ ([.int .i64 x3481])) :: Arr v1986 1 c1987 :: Arr (.slice (some ⟨b1992, 0, none⟩) (x2.length : Int).toNat (x2.length : Int).toNat) 1 c2065 :: Arr (.slice (some ⟨b3488, 0, none⟩) 1 1) 1 ([.int .i64 x3481]) :: Arr (.slice (some ⟨b3442, 0, none⟩) 1 1) 256 c3372 :: Arr (.slice (some ⟨b3305, 0, none⟩) 256 256) 1 c3372 :: hs) := H
                replace H := H.drop 7 rfl
                replace H : Hp C wd3496 ρ (Box b1978 [v1, v4, v7] :: Box b1980 [.slice none 0 0, .slice none 0 0, .slice none 0 0] :: Box b1982 [v3446, v3492, .slice none 0 0] :: Arr v3446 256 (c3054 ++ c3372) :: Arr v3492 1 (c3058 ++ ([.int .i64 x3481])) :: Arr v1986 1 c1987 :: Arr (.slice (some ⟨b1992, 0, none⟩) (x2.length : Int).toNat (x2.length : Int).toNat) 1 c2065 :: Arr (.slice (some ⟨b3442, 0, none⟩) 1 1) 256 c3372 :: Arr (.slice (some ⟨b3305, 0, none⟩) 256 256) 1 c3372 :: hs) := H
                replace H := H.drop 7 rfl
                replace H : Hp C wd3496 ρ (Box b1978 [v1, v4, v7] :: Box b1980 [.slice none 0 0, .slice none 0 0, .slice none 0 0] :: Box b1982 [v3446, v3492, .slice none 0 0] :: Arr v3446 256 (c3054 ++ c3372) :: Arr v3492 1 (c3058 ++ ([.int .i64 x3481])) :: Arr v1986 1 c1987 :: Arr (.slice (some ⟨b1992, 0, none⟩) (x2.length : Int).toNat (x2.length : Int).toNat) 1 c2065 :: Arr (.slice (some ⟨b3305, 0, none⟩) 256 256) 1 c3372 :: hs) := H
                replace H := H.drop 7 rfl
                replace H : Hp C wd3496 ρ (Box b1978 [v1, v4, v7] :: Box b1980 [.slice none 0 0, .slice none 0 0, .slice none 0 0] :: Box b1982 [v3446, v3492, .slice none 0 0] :: Arr v3446 256 (c3054 ++ c3372) :: Arr v3492 1 (c3058 ++ ([.int .i64 x3481])) :: Arr v1986 1 c1987 :: Arr (.slice (some ⟨b1992, 0, none⟩) (x2.length : Int).toNat (x2.length : Int).toNat) 1 c2065 :: hs) := H
                obtain rfl := Option.some.inj ho3480
                refine x_A fun a hf => ⟨v3492, (c3058 ++ ([.int .i64 x3481])), x3490, rfl, r3493, hf.sub ⟨rfl, rfl, rfl, rfl, rfl, rfl, rfl, rfl, trivial⟩, H⟩
              · refine de rfl (E_bslice (xs := [.tmp 68]) (vs := [.int .i64 x3481]) H Tryd.underlying23 ty3 (by decide) (cs := [.int .i64 x3481]) rfl (sz_cons rfl sz_nil) rfl (by simp) (by simp) rfl rfl) rfl rfl ?_
                rintro _ wd3498 ⟨b3497, rfl, H⟩
                replace H : Hp C wd3498 ρ (Arr (.slice (some ⟨b3497, 0, none⟩) 1 1) 1 ([.int .i64 x3481]) :: Arr (.slice (some ⟨b3442, 0, none⟩) 1 1) 256 c3372 :: Box b1978 [v1, v4, v7] :: Arr (.slice (some ⟨b3305, 0, none⟩) 256 256) 1 c3372 :: Box b1980 [.slice none 0 0, .slice none 0 0, .slice none 0 0] :: Box b1982 [v3446, v3057, .slice none 0 0] :: Arr v3446 256 (c3054 ++ c3372) :: Arr v3057 1 c3058 :: Arr v1986 1 c1987 :: Arr (.slice (some ⟨b1992, 0, none⟩) (x2.length : Int).toNat (x2.length : Int).toNat) 1 c2065 :: hs) := H
                refine ⟨H.okS (by simp), ?_⟩
                refine d1 (de rfl (Eff.quiet (v := v3057) (Q_ldB (k := 5) (cs := [v3057]) H.ok rfl ty23 rfl rfl rfl (fun _ => rfl) rfl)) rfl rfl ?_)
                rintro _ _ ⟨rfl, rfl⟩
                refine ⟨H.okS (by simp), ?_⟩
                obtain ⟨x3499, hx3499, ho3480⟩ := bnd ho3480
                obtain ⟨ha3500a, ha3500b⟩ := app_some hx3499
                have r3502 : rdL (eI .i64) ρ x3499 (c3058 ++ ([.int .i64 x3481])) := ha3500b ▸ rdL.app r3060 (show rdL (eI .i64) ρ ([x3481]) ([.int .i64 x3481]) from ⟨([.int .i64 x3481]), _, rfl, rfl, rdL.nil⟩)
                refine d1 (de rfl (E_append (k := 7) H rfl Tryd.underlying23 ty3 rfl (by decide) (by decide) rfl rfl (Src.ofArr (k := 0) H.ok rfl) (rdL.one (show rdL (eI .i64) ρ ([x3481]) ([.int .i64 x3481]) from ⟨([.int .i64 x3481]), _, rfl, rfl, rdL.nil⟩)) (app_fit r3060 (show rdL (eI .i64) ρ ([x3481]) ([.int .i64 x3481]) from ⟨([.int .i64 x3481]), _, rfl, rfl, rdL.nil⟩) ha3500a)) rfl rfl ?_)
                rintro v3501 wd3504 ⟨H, hc3503⟩
                replace H : Hp C wd3504 ρ (Arr (.slice (some ⟨b3497, 0, none⟩) 1 1) 1 ([.int .i64 x3481]) :: Arr (.slice (some ⟨b3442, 0, none⟩) 1 1) 256 c3372 :: Box b1978 [v1, v4, v7] :: Arr (.slice (some ⟨b3305, 0, none⟩) 256 256) 1 c3372 :: Box b1980 [.slice none 0 0, .slice none 0 0, .slice none 0 0] :: Box b1982 [v3446, v3057, .slice none 0 0] :: Arr v3446 256 (c3054 ++ c3372) :: Arr v3501 1 (c3058 ++ ([.int .i64 x3481])) :: Arr v1986 1 c1987 :: Arr (.slice (some ⟨b1992, 0, none⟩) (x2.length : Int).toNat (x2.length : Int).toNat) 1 c2065 :: hs) := H
                refine ⟨H.okS (by simp), ?_⟩
                refine dq (v := .pointer (some ⟨b1982, 1, none⟩)) rfl (fun w' hw => Q_fld Tryd.underlying25 rfl ty23 (by decide) rfl rfl) rfl rfl ?_
                refine d1 (de rfl (E_stB (k := 5) (cs := [v3501]) (vs' := [v3446, v3501, .slice none 0 0]) H rfl ty23 rfl rfl (arr_cells (H.ok.get (k := 7) rfl)).1 rfl (one_cons (arr_cells (H.ok.get (k := 7) rfl)).2 one_nil) (by simp) rfl) rfl rfl ?_)
                rintro _ wd3505 H
                replace H : Hp C wd3505 ρ (Arr (.slice (some ⟨b3497, 0, none⟩) 1 1) 1 ([.int .i64 x3481]) :: Arr (.slice (some ⟨b3442, 0, none⟩) 1 1) 256 c3372 :: Box b1978 [v1, v4, v7] :: Arr (.slice (some ⟨b3305, 0, none⟩) 256 256) 1 c3372 :: Box b1980 [.slice none 0 0, .slice none 0 0, .slice none 0 0] :: Box b1982 [v3446, v3501, .slice none 0 0] :: Arr v3446 256 (c3054 ++ c3372) :: Arr v3501 1 (c3058 ++ ([.int .i64 x3481])) :: Arr v1986 1 c1987 :: Arr (.slice (some ⟨b1992, 0, none⟩) (x2.length : Int).toNat (x2.length : Int).toNat) 1 c2065 :: hs) := H
                refine ⟨H.okS (by simp), ?_⟩
                refine DL_nil ?_
                replace H := H.front 9 rfl
                replace H : Hp C wd3505 ρ (Arr (.slice (some ⟨b1992, 0, none⟩) (x2.length : Int).toNat (x2.length : Int).toNat) 1 c2065 :: Arr (.slice (some ⟨b3497, 0, none⟩) 1 1) 1 ([.int .i64 x3481]) :: Arr (.slice (some ⟨b3442, 0, none⟩) 1 1) 256 c3372 :: Box b1978 [v1, v4, v7] :: Arr (.slice (some ⟨b3305, 0, none⟩) 256 256) 1 c3372 :: Box b1980 [.slice none 0 0, .slice none 0 0, .slice none 0 0] :: Box b1982 [v3446, v3501, .slice none 0 0] :: Arr v3446 256 (c3054 ++ c3372) :: Arr v3501 1 (c3058 ++ ([.int .i64 x3481])) :: Arr v1986 1 c1987 :: hs) := H
                replace H := H.front 9 rfl
                replace H : Hp C wd3505 ρ (Arr v1986 1 c1987 :: Arr (.slice (some ⟨b1992, 0, none⟩) (x2.length : Int).toNat (x2.length : Int).toNat) 1 c2065 :: Arr (.slice (some ⟨b3497, 0, none⟩) 1 1) 1 ([.int .i64 x3481]) :: Arr (.slice (some ⟨b3442, 0, none⟩) 1 1) 256 c3372 :: Box b1978 [v1, v4, v7] :: Arr (.slice (some ⟨b3305, 0, none⟩) 256 256) 1 c3372 :: Box b1980 [.slice none 0 0, .slice none 0 0, .slice none 0 0] :: Box b1982 [v3446, v3501, .slice none 0 0] :: Arr v3446 256 (c3054 ++ c3372) :: Arr v3501 1 (c3058 ++ ([.int .i64 x3481])) :: hs) := H
                replace H := H.front 9 rfl
                replace H : Hp C wd3505 ρ (Arr v3501 1 (c3058 ++ ([.int .i64 x3481])) :: Arr v1986 1 c1987 :: Arr (.slice (some ⟨b1992, 0, none⟩) (x2.length : Int).toNat (x2.length : Int).toNat) 1 c2065 :: Arr (.slice (some ⟨b3497, 0, none⟩) 1 1) 1 ([.int .i64 x3481]) :: Arr (.slice (some ⟨b3442, 0, none⟩) 1 1) 256 c3372 :: Box b1978 [v1, v4, v7] :: Arr (.slice (some ⟨b3305, 0, none⟩) 256 256) 1 c3372 :: Box b1980 [.slice none 0 0, .slice none 0 0, .slice none 0 0] :: Box b1982 [v3446, v3501, .slice none 0 0] :: Arr v3446 256 (c3054 ++ c3372) :: hs) := H
                replace H := H.front 9 rfl
                replace H : Hp C wd3505 ρ (Arr v3446 256 (c3054 ++ c3372) :: Arr v3501 1 (c3058 ++ ([.int .i64 x3481])) :: Arr v1986 1 c1987 :: Arr (.slice (some ⟨b1992, 0, none⟩) (x2.length : Int).toNat (x2.length : Int).toNat) 1 c2065 :: Arr (.slice (some ⟨b3497, 0, none⟩) 1 1) 1 ([.int .i64 x3481]) :: Arr (.slice (some ⟨b3442, 0, none⟩) 1 1) 256 c3372 :: Box b1978 [v1, v4, v7] :: Arr (.slice (some ⟨b3305, 0, none⟩) 256 256) 1 c3372 :: Box b1980 [.slice none 0 0, .slice none 0 0, .slice none 0 0] :: Box b1982 [v3446, v3501, .slice none 0 0] :: hs) := H
                replace H := H.front 9 rfl
                replace H : Hp C wd3505 ρ (Box b1982 [v3446, v3501, .slice none 0 0] :: Arr v3446 256 (c3054 ++ c3372) :: Arr v3501 1 (c3058 ++ ([.int .i64 x3481])) :: Arr v1986 1 c1987 :: Arr (.slice (some ⟨b1992, 0, none⟩) (x2.length : Int).toNat (x2.length : Int).toNat) 1 c2065 :: Arr (.slice (some ⟨b3497, 0, none⟩) 1 1) 1 ([.int .i64 x3481]) :: Arr (.slice (some ⟨b3442, 0, none⟩) 1 1) 256 c3372 :: Box b1978 [v1, v4, v7] :: Arr (.slice (some ⟨b3305, 0, none⟩) 256 256) 1 c3372 :: Box b1980 [.slice none 0 0, .slice none 0 0, .slice none 0 0] :: hs) := H
                replace H := H.front 9 rfl
                replace H : Hp C wd3505 ρ (Box b1980 [.slice none 0 0, .slice none 0 0, .slice none 0 0] :: Box b1982 [v3446, v3501, .slice none 0 0] :: Arr v3446 256 (c3054 ++ c3372) :: Arr v3501 1 (c3058 ++ ([.int .i64 x3481])) :: Arr v1986 1 c1987 :: Arr (.slice (some ⟨b1992, 0, none⟩) (x2.length : Int).toNat (x2.length : Int).toNat) 1 c2065 :: Arr (.slice (some ⟨b3497, 0, none⟩) 1 1) 1 ([.int .i64 x3481]) :: Arr (.slice (some ⟨b3442, 0, none⟩) 1 1) 256 c3372 :: Box b1978 [v1, v4, v7] :: Arr (.slice (some ⟨b3305, 0, none⟩) 256 256) 1 c3372 :: hs) := H
                replace H := H.front 8 rfl
                replace H : Hp C wd3505 ρ (Box b1978 [v1, v4, v7] :: Box b1980 [.slice none 0 0, .slice none 0 0, .slice none 0 0] :: Box b1982 [v3446, v3501, .slice none 0 0] :: Arr v3446 256 (c3054 ++ c3372) :: Arr v3501 1 (c3058 ++ ([.int .i64 x3481])) :: Arr v1986 1 c1987 :: Arr (.slice (some ⟨b1992, 0, none⟩) (x2.length : Int).toNat (x2.length : Int).toNat) 1 c2065 :: Arr (.slice (some ⟨b3497, 0, none⟩) 1 1) 1 ([.int .i64 x3481]) :: Arr (.slice (some ⟨b3442, 0, none⟩) 1 1) 256 c3372 :: Arr (.slice (some ⟨b3305, 0, none⟩) 256 256) 1 c3372 :: hs) := H
                replace H := H.drop 7 rfl
                replace H : Hp C wd3505 ρ (Box b1978 [v1, v4, v7] :: Box b1980 [.slice none 0 0, .slice none 0 0, .slice none 0 0] :: Box b1982 [v3446, v3501, .slice none 0 0] :: Arr v3446 256 (c3054 ++ c3372) :: Arr v3501 1 (c3058 ++ ([.int .i64 x3481])) :: Arr v1986 1 c1987 :: Arr (.slice (some ⟨b1992, 0, none⟩) (x2.length : Int).toNat (x2.length : Int).toNat) 1 c2065 :: Arr (.slice (some ⟨b3442, 0, none⟩) 1 1) 256 c3372 :: Arr (.slice (some ⟨b3305, 0, none⟩) 256 256) 1 c3372 :: hs) := H
                replace H := H.drop 7 rfl
                replace H : Hp C wd3505 ρ (Box b1978 [v1, v4, v7] :: Box b1980 [.slice none 0 0, .slice none 0 0, .slice none 0 0] :: Box b1982 [v3446, v3501, .slice none 0 0] :: Arr v3446 256 (c3054 ++ c3372) :: Arr v3501 1 (c3058 ++ ([.int .i64 x3481])) :: Arr v1986 1 c1987 :: Arr (.slice (some ⟨b1992, 0, none⟩) (x2.length : Int).toNat (x2.length : Int).toNat) 1 c2065 :: Arr (.slice (some ⟨b3305, 0, none⟩) 256 256) 1 c3372 :: hs) := H
                replace H := H.drop 7 rfl
                replace H : Hp C wd3505 ρ (Box b1978 [v1, v4, v7] :: Box b1980 [.slice none 0 0, .slice none 0 0, .slice none 0 0] :: Box b1982 [v3446, v3501, .slice none 0 0] :: Arr v3446 256 (c3054 ++ c3372) :: Arr v3501 1 (c3058 ++ ([.int .i64 x3481])) :: Arr v1986 1 c1987 :: Arr (.slice (some ⟨b1992, 0, none⟩) (x2.length : Int).toNat (x2.length : Int).toNat) 1 c2065 :: hs) := H
                obtain rfl := Option.some.inj ho3480
                refine x_A fun a hf => ⟨v3501, (c3058 ++ ([.int .i64 x3481])), x3499, rfl, r3502, hf.sub ⟨rfl, rfl, rfl, rfl, rfl, rfl, rfl, rfl, trivial⟩, H⟩
            · rintro a wd3506 ⟨v3476, c3477, x3478, rfl, r3479, hf, H⟩
              try dsimp only at hB3288
              refine XX.at hf ?_
              refine x_block ?_
              refine x_then ?_
              refine CW.sub (E' := [(1, .pointer (some ⟨b1978, 0, none⟩)), (2, .pointer (some ⟨b1980, 0, none⟩)), (3, .pointer (some ⟨b1982, 0, none⟩)), (4, v1986), (5, (.slice (some ⟨b1992, 0, none⟩) (x2.length : Int).toNat (x2.length : Int).toNat)), (33, v1986), (34, .int .i64 (x1988.length : Int)), (35, .int .i64 x3061)]) ⟨rfl, rfl, rfl, rfl, rfl, rfl, rfl, rfl, trivial⟩ ?_
              refine R_nd ?_
              refine nq (v := .int .i64 (w64 (x3061 + 1))) (Q_add rfl rfl) rfl rfl ?_
              refine nq (v := .int .i64 (w64 (x3061 + 1))) (Q_move rfl) rfl rfl ?_
              refine WL_nil ?_
              replace H := H.front 6 rfl
              replace H : Hp C wd3506 ρ (Arr (.slice (some ⟨b1992, 0, none⟩) (x2.length : Int).toNat (x2.length : Int).toNat) 1 c2065 :: Box b1978 [v1, v4, v7] :: Box b1980 [.slice none 0 0, .slice none 0 0, .slice none 0 0] :: Box b1982 [v3446, v3476, .slice none 0 0] :: Arr v3446 256 (c3054 ++ c3372) :: Arr v3476 1 c3477 :: Arr v1986 1 c1987 :: hs) := H
              replace H := H.front 6 rfl
              replace H : Hp C wd3506 ρ (Arr v1986 1 c1987 :: Arr (.slice (some ⟨b1992, 0, none⟩) (x2.length : Int).toNat (x2.length : Int).toNat) 1 c2065 :: Box b1978 [v1, v4, v7] :: Box b1980 [.slice none 0 0, .slice none 0 0, .slice none 0 0] :: Box b1982 [v3446, v3476, .slice none 0 0] :: Arr v3446 256 (c3054 ++ c3372) :: Arr v3476 1 c3477 :: hs) := H
              replace H := H.front 6 rfl
              replace H : Hp C wd3506 ρ (Arr v3476 1 c3477 :: Arr v1986 1 c1987 :: Arr (.slice (some ⟨b1992, 0, none⟩) (x2.length : Int).toNat (x2.length : Int).toNat) 1 c2065 :: Box b1978 [v1, v4, v7] :: Box b1980 [.slice none 0 0, .slice none 0 0, .slice none 0 0] :: Box b1982 [v3446, v3476, .slice none 0 0] :: Arr v3446 256 (c3054 ++ c3372) :: hs) := H
              replace H := H.front 6 rfl
              replace H : Hp C wd3506 ρ (Arr v3446 256 (c3054 ++ c3372) :: Arr v3476 1 c3477 :: Arr v1986 1 c1987 :: Arr (.slice (some ⟨b1992, 0, none⟩) (x2.length : Int).toNat (x2.length : Int).toNat) 1 c2065 :: Box b1978 [v1, v4, v7] :: Box b1980 [.slice none 0 0, .slice none 0 0, .slice none 0 0] :: Box b1982 [v3446, v3476, .slice none 0 0] :: hs) := H
              replace H := H.front 6 rfl
              replace H : Hp C wd3506 ρ (Box b1982 [v3446, v3476, .slice none 0 0] :: Arr v3446 256 (c3054 ++ c3372) :: Arr v3476 1 c3477 :: Arr v1986 1 c1987 :: Arr (.slice (some ⟨b1992, 0, none⟩) (x2.length : Int).toNat (x2.length : Int).toNat) 1 c2065 :: Box b1978 [v1, v4, v7] :: Box b1980 [.slice none 0 0, .slice none 0 0, .slice none 0 0] :: hs) := H
              replace H := H.front 6 rfl
              replace H : Hp C wd3506 ρ (Box b1980 [.slice none 0 0, .slice none 0 0, .slice none 0 0] :: Box b1982 [v3446, v3476, .slice none 0 0] :: Arr v3446 256 (c3054 ++ c3372) :: Arr v3476 1 c3477 :: Arr v1986 1 c1987 :: Arr (.slice (some ⟨b1992, 0, none⟩) (x2.length : Int).toNat (x2.length : Int).toNat) 1 c2065 :: Box b1978 [v1, v4, v7] :: hs) := H
              replace H := H.front 6 rfl
              replace H : Hp C wd3506 ρ (Box b1978 [v1, v4, v7] :: Box b1980 [.slice none 0 0, .slice none 0 0, .slice none 0 0] :: Box b1982 [v3446, v3476, .slice none 0 0] :: Arr v3446 256 (c3054 ++ c3372) :: Arr v3476 1 c3477 :: Arr v1986 1 c1987 :: Arr (.slice (some ⟨b1992, 0, none⟩) (x2.length : Int).toNat (x2.length : Int).toNat) 1 c2065 :: hs) := H
              obtain rfl := Option.some.inj hB3288
              refine x_A fun a hf => ⟨_, rfl, v3446, (c3054 ++ c3372), v3476, c3477, x3444, x3478, w64 (x3061 + 1), rfl, r3447, r3479, hf.sub ⟨rfl, rfl, rfl, rfl, rfl, rfl, rfl, rfl, trivial⟩, H⟩
        · replace hB3288 := itF hb hB3288
          refine C_exit ?_
          refine x_then_exit ?_
          refine x_then_exit ?_
          refine x_block_exit ?_
          replace H := H.front 6 rfl
          replace H : Hp C wd3290 ρ (Arr (.slice (some ⟨b1992, 0, none⟩) (x2.length : Int).toNat (x2.length : Int).toNat) 1 c2065 :: Box b1978 [v1, v4, v7] :: Box b1980 [.slice none 0 0, .slice none 0 0, .slice none 0 0] :: Box b1982 [v3053, v3057, .slice none 0 0] :: Arr v3053 256 c3054 :: Arr v3057 1 c3058 :: Arr v1986 1 c1987 :: hs) := H
          replace H := H.front 6 rfl
          replace H : Hp C wd3290 ρ (Arr v1986 1 c1987 :: Arr (.slice (some ⟨b1992, 0, none⟩) (x2.length : Int).toNat (x2.length : Int).toNat) 1 c2065 :: Box b1978 [v1, v4, v7] :: Box b1980 [.slice none 0 0, .slice none 0 0, .slice none 0 0] :: Box b1982 [v3053, v3057, .slice none 0 0] :: Arr v3053 256 c3054 :: Arr v3057 1 c3058 :: hs) := H
          replace H := H.front 6 rfl
          replace H : Hp C wd3290 ρ (Arr v3057 1 c3058 :: Arr v1986 1 c1987 :: Arr (.slice (some ⟨b1992, 0, none⟩) (x2.length : Int).toNat (x2.length : Int).toNat) 1 c2065 :: Box b1978 [v1, v4, v7] :: Box b1980 [.slice none 0 0, .slice none 0 0, .slice none 0 0] :: Box b1982 [v3053, v3057, .slice none 0 0] :: Arr v3053 256 c3054 :: hs) := H
          replace H := H.front 6 rfl
          replace H : Hp C wd3290 ρ (Arr v3053 256 c3054 :: Arr v3057 1 c3058 :: Arr v1986 1 c1987 :: Arr (.slice (some ⟨b1992, 0, none⟩) (x2.length : Int).toNat (x2.length : Int).toNat) 1 c2065 :: Box b1978 [v1, v4, v7] :: Box b1980 [.slice none 0 0, .slice none 0 0, .slice none 0 0] :: Box b1982 [v3053, v3057, .slice none 0 0] :: hs) := H
          replace H := H.front 6 rfl
          replace H : Hp C wd3290 ρ (Box b1982 [v3053, v3057, .slice none 0 0] :: Arr v3053 256 c3054 :: Arr v3057 1 c3058 :: Arr v1986 1 c1987 :: Arr (.slice (some ⟨b1992, 0, none⟩) (x2.length : Int).toNat (x2.length : Int).toNat) 1 c2065 :: Box b1978 [v1, v4, v7] :: Box b1980 [.slice none 0 0, .slice none 0 0, .slice none 0 0] :: hs) := H
          replace H := H.front 6 rfl
          replace H : Hp C wd3290 ρ (Box b1980 [.slice none 0 0, .slice none 0 0, .slice none 0 0] :: Box b1982 [v3053, v3057, .slice none 0 0] :: Arr v3053 256 c3054 :: Arr v3057 1 c3058 :: Arr v1986 1 c1987 :: Arr (.slice (some ⟨b1992, 0, none⟩) (x2.length : Int).toNat (x2.length : Int).toNat) 1 c2065 :: Box b1978 [v1, v4, v7] :: hs) := H
          replace H := H.front 6 rfl
          replace H : Hp C wd3290 ρ (Box b1978 [v1, v4, v7] :: Box b1980 [.slice none 0 0, .slice none 0 0, .slice none 0 0] :: Box b1982 [v3053, v3057, .slice none 0 0] :: Arr v3053 256 c3054 :: Arr v3057 1 c3058 :: Arr v1986 1 c1987 :: Arr (.slice (some ⟨b1992, 0, none⟩) (x2.length : Int).toNat (x2.length : Int).toNat) 1 c2065 :: hs) := H
          obtain rfl := Option.some.inj hB3288
          obtain rfl := hO3289 _ rfl
          refine x_A fun a hf => ⟨v3053, c3054, v3057, c3058, x3055, x3059, rfl, r3056, r3060, hf.sub ⟨rfl, rfl, rfl, rfl, rfl, trivial⟩, H⟩
    · rintro a wd3507 ⟨v2819, c2820, v2823, c2824, x2821, x2825, rfl, r2822, r2826, hf, H⟩
      try dsimp only at hF
      refine XX.at hf ?_
      refine x_then ?_
      refine CW.sub (E' := [(1, .pointer (some ⟨b1978, 0, none⟩)), (2, .pointer (some ⟨b1980, 0, none⟩)), (3, .pointer (some ⟨b1982, 0, none⟩)), (4, v1986), (5, (.slice (some ⟨b1992, 0, none⟩) (x2.length : Int).toNat (x2.length : Int).toNat))]) ⟨rfl, rfl, rfl, rfl, rfl, trivial⟩ ?_
      refine C_seq ?_
      refine C_seq ?_
      refine R_nd ?_
      refine nq (v := v1986) (Q_move rfl) rfl rfl ?_
      refine nq (v := .int .i64 (x1988.length : Int)) (Q_lenA (k := 5) H.ok rfl r1989 (by decide) Tryd.underlying23 rfl) rfl rfl ?_
      refine nq (v := .bool ((x1988.length : Int) == 0)) (Q_eql rfl rfl) rfl rfl ?_
      refine WL_nil ?_
      refine x_then ?_
      refine CW.sub (E' := [(1, .pointer (some ⟨b1978, 0, none⟩)), (2, .pointer (some ⟨b1980, 0, none⟩)), (3, .pointer (some ⟨b1982, 0, none⟩)), (5, (.slice (some ⟨b1992, 0, none⟩) (x2.length : Int).toNat (x2.length : Int).toNat)), (75, .bool ((x1988.length : Int) == 0))]) ⟨rfl, rfl, rfl, rfl, rfl, trivial⟩ ?_
      refine C_cond rfl (fun hb => ?_) (fun hb => ?_)
      · replace hF := itT hb hF
        refine C_seq ?_
        refine R_nd ?_
        refine nq (v := .agg #[v2819, v2823, .slice none 0 0]) (Q_ldB (k := 2) (cs := [v2819, v2823, .slice none 0 0]) H.ok rfl ty25 rfl rfl rfl (fun h => nomatch h) rfl) rfl rfl ?_
        refine ne (E_stB (k := 1) (cs := [v2819, v2823, .slice none 0 0]) (vs' := [v2819, v2823, .slice none 0 0]) H rfl ty25 rfl rfl rfl rfl (one_cons (arr_cells (H.ok.get (k := 3) rfl)).2 (one_cons (arr_cells (H.ok.get (k := 4) rfl)).2 (one_cons rfl one_nil))) (by simp) rfl) rfl rfl ?_
        rintro _ wd3508 H
        replace H : Hp C wd3508 ρ (Box b1978 [v1, v4, v7] :: Box b1980 [v2819, v2823, .slice none 0 0] :: Box b1982 [v2819, v2823, .slice none 0 0] :: Arr v2819 256 c2820 :: Arr v2823 1 c2824 :: Arr v1986 1 c1987 :: Arr (.slice (some ⟨b1992, 0, none⟩) (x2.length : Int).toNat (x2.length : Int).toNat) 1 c2065 :: hs) := H
        refine WL_nil ?_
        refine x_then ?_
        refine CW.sub (E' := [(2, .pointer (some ⟨b1980, 0, none⟩))]) ⟨rfl, trivial⟩ ?_
        refine C_ret ?_
        refine x_then_ret ?_
        have H := H.nilArr 1
        replace H : Hp C wd3508 ρ (Arr (.slice none 0 0) 1 ([]) :: Box b1978 [v1, v4, v7] :: Box b1980 [v2819, v2823, .slice none 0 0] :: Box b1982 [v2819, v2823, .slice none 0 0] :: Arr v2819 256 c2820 :: Arr v2823 1 c2824 :: Arr v1986 1 c1987 :: Arr (.slice (some ⟨b1992, 0, none⟩) (x2.length : Int).toNat (x2.length : Int).toNat) 1 c2065 :: hs) := H
        have hRV : RV Tryd.prog wd3508 [(2, .pointer (some ⟨b1980, 0, none⟩))] [.cell 2 25] [.agg #[v2819, v2823, (.slice none 0 0)]] := ⟨⟨_, rfl, run_ldv ty25 rfl (fun h => nomatch h) (box_at (H.ok.get (k := 2) rfl) 0 3)⟩, trivial⟩
        replace H := H.front 5 rfl
        replace H : Hp C wd3508 ρ (Arr v2823 1 c2824 :: Arr (.slice none 0 0) 1 ([]) :: Box b1978 [v1, v4, v7] :: Box b1980 [v2819, v2823, .slice none 0 0] :: Box b1982 [v2819, v2823, .slice none 0 0] :: Arr v2819 256 c2820 :: Arr v1986 1 c1987 :: Arr (.slice (some ⟨b1992, 0, none⟩) (x2.length : Int).toNat (x2.length : Int).toNat) 1 c2065 :: hs) := H
        replace H := H.front 5 rfl
        replace H : Hp C wd3508 ρ (Arr v2819 256 c2820 :: Arr v2823 1 c2824 :: Arr (.slice none 0 0) 1 ([]) :: Box b1978 [v1, v4, v7] :: Box b1980 [v2819, v2823, .slice none 0 0] :: Box b1982 [v2819, v2823, .slice none 0 0] :: Arr v1986 1 c1987 :: Arr (.slice (some ⟨b1992, 0, none⟩) (x2.length : Int).toNat (x2.length : Int).toNat) 1 c2065 :: hs) := H
        replace H := H.drop 3 rfl
        replace H : Hp C wd3508 ρ (Arr v2819 256 c2820 :: Arr v2823 1 c2824 :: Arr (.slice none 0 0) 1 ([]) :: Box b1980 [v2819, v2823, .slice none 0 0] :: Box b1982 [v2819, v2823, .slice none 0 0] :: Arr v1986 1 c1987 :: Arr (.slice (some ⟨b1992, 0, none⟩) (x2.length : Int).toNat (x2.length : Int).toNat) 1 c2065 :: hs) := H
        replace H := H.drop 3 rfl
        replace H : Hp C wd3508 ρ (Arr v2819 256 c2820 :: Arr v2823 1 c2824 :: Arr (.slice none 0 0) 1 ([]) :: Box b1982 [v2819, v2823, .slice none 0 0] :: Arr v1986 1 c1987 :: Arr (.slice (some ⟨b1992, 0, none⟩) (x2.length : Int).toNat (x2.length : Int).toNat) 1 c2065 :: hs) := H
        replace H := H.drop 3 rfl
        replace H : Hp C wd3508 ρ (Arr v2819 256 c2820 :: Arr v2823 1 c2824 :: Arr (.slice none 0 0) 1 ([]) :: Arr v1986 1 c1987 :: Arr (.slice (some ⟨b1992, 0, none⟩) (x2.length : Int).toNat (x2.length : Int).toNat) 1 c2065 :: hs) := H
        replace H := H.drop 3 rfl
        replace H : Hp C wd3508 ρ (Arr v2819 256 c2820 :: Arr v2823 1 c2824 :: Arr (.slice none 0 0) 1 ([]) :: Arr (.slice (some ⟨b1992, 0, none⟩) (x2.length : Int).toNat (x2.length : Int).toNat) 1 c2065 :: hs) := H
        replace H := H.drop 3 rfl
        replace H : Hp C wd3508 ρ (Arr v2819 256 c2820 :: Arr v2823 1 c2824 :: Arr (.slice none 0 0) 1 ([]) :: hs) := H
        obtain rfl := Option.some.inj hF
        exact fn_retV (rs := [.cell 2 25]) (vs := [.agg #[v2819, v2823, (.slice none 0 0)]]) rfl hRV ⟨v2819, c2820, v2823, c2824, (.slice none 0 0), [], x2821, x2825, [], rfl, rfl, r2822, r2826, rdL.nil, H⟩
      · replace hF := itF hb hF
        refine C_skip ?_
        refine x_then ?_
        refine CW.sub (E' := [(1, .pointer (some ⟨b1978, 0, none⟩)), (2, .pointer (some ⟨b1980, 0, none⟩)), (3, .pointer (some ⟨b1982, 0, none⟩)), (5, (.slice (some ⟨b1992, 0, none⟩) (x2.length : Int).toNat (x2.length : Int).toNat))]) ⟨rfl, rfl, rfl, rfl, trivial⟩ ?_
        refine C_seq ?_
        refine C_seq ?_
        refine R_nd ?_
        refine nq (v := .pointer (some ⟨b1978, 2, none⟩)) (Q_fld Tryd.underlying25 rfl ty23 (by decide) rfl rfl) rfl rfl ?_
        refine nq (v := v7) (Q_ldB (k := 0) (cs := [v7]) H.ok rfl ty23 rfl rfl rfl (fun _ => rfl) rfl) rfl rfl ?_
        refine nq (v := .int .i64 (x8.length : Int)) (Q_len Tryd.underlying23 rfl r9) rfl rfl ?_
        refine nq (v := .int .i64 0) (Q_move rfl) rfl rfl ?_
        refine WL_nil ?_
        refine x_then ?_
        refine CW.sub (E' := [(2, .pointer (some ⟨b1980, 0, none⟩)), (3, .pointer (some ⟨b1982, 0, none⟩)), (5, (.slice (some ⟨b1992, 0, none⟩) (x2.length : Int).toNat (x2.length : Int).toNat)), (78, v7), (79, .int .i64 (x8.length : Int)), (80, .int .i64 0)]) ⟨rfl, rfl, rfl, rfl, rfl, rfl, trivial⟩ ?_
        obtain ⟨o3721, ho3721, hF⟩ := bnd hF
        refine C_cutQ (fun a w' => ∃ (v3717 : Value) (c3718 : (List Value)) (x3719 : (List Int)), x3719 = o3721 ∧ rdL (eI .i64) ρ x3719 c3718 ∧ Fr 95 a [(2, .pointer (some ⟨b1980, 0, none⟩)), (3, .pointer (some ⟨b1982, 0, none⟩))] ∧ Hp C w' ρ (Box b1980 [.slice none 0 0, .slice none 0 0, .slice none 0 0] :: Box b1982 [v2819, v2823, v3717] :: Arr v2819 256 c2820 :: Arr v2823 1 c2824 :: Arr v3717 1 c3718 :: hs)) ?_ ?_
        · refine C_block ?_
          have H := H.nilArr 1
          replace H : Hp C wd3507 ρ (Arr (.slice none 0 0) 1 ([]) :: Box b1978 [v1, v4, v7] :: Box b1980 [.slice none 0 0, .slice none 0 0, .slice none 0 0] :: Box b1982 [v2819, v2823, .slice none 0 0] :: Arr v2819 256 c2820 :: Arr v2823 1 c2824 :: Arr v1986 1 c1987 :: Arr (.slice (some ⟨b1992, 0, none⟩) (x2.length : Int).toNat (x2.length : Int).toNat) 1 c2065 :: hs) := H
          replace H := H.front 7 rfl
          replace H : Hp C wd3507 ρ (Arr (.slice (some ⟨b1992, 0, none⟩) (x2.length : Int).toNat (x2.length : Int).toNat) 1 c2065 :: Arr (.slice none 0 0) 1 ([]) :: Box b1978 [v1, v4, v7] :: Box b1980 [.slice none 0 0, .slice none 0 0, .slice none 0 0] :: Box b1982 [v2819, v2823, .slice none 0 0] :: Arr v2819 256 c2820 :: Arr v2823 1 c2824 :: Arr v1986 1 c1987 :: hs) := H
          replace H := H.front 1 rfl
          replace H : Hp C wd3507 ρ (Arr (.slice none 0 0) 1 ([]) :: Arr (.slice (some ⟨b1992, 0, none⟩) (x2.length : Int).toNat (x2.length : Int).toNat) 1 c2065 :: Box b1978 [v1, v4, v7] :: Box b1980 [.slice none 0 0, .slice none 0 0, .slice none 0 0] :: Box b1982 [v2819, v2823, .slice none 0 0] :: Arr v2819 256 c2820 :: Arr v2823 1 c2824 :: Arr v1986 1 c1987 :: hs) := H
          replace H := H.front 6 rfl
          replace H : Hp C wd3507 ρ (Arr v2823 1 c2824 :: Arr (.slice none 0 0) 1 ([]) :: Arr (.slice (some ⟨b1992, 0, none⟩) (x2.length : Int).toNat (x2.length : Int).toNat) 1 c2065 :: Box b1978 [v1, v4, v7] :: Box b1980 [.slice none 0 0, .slice none 0 0, .slice none 0 0] :: Box b1982 [v2819, v2823, .slice none 0 0] :: Arr v2819 256 c2820 :: Arr v1986 1 c1987 :: hs) := H
          replace H := H.front 6 rfl
          replace H : Hp C wd3507 ρ (Arr v2819 256 c2820 :: Arr v2823 1 c2824 :: Arr (.slice none 0 0) 1 ([]) :: Arr (.slice (some ⟨b1992, 0, none⟩) (x2.length : Int).toNat (x2.length : Int).toNat) 1 c2065 :: Box b1978 [v1, v4, v7] :: Box b1980 [.slice none 0 0, .slice none 0 0, .slice none 0 0] :: Box b1982 [v2819, v2823, .slice none 0 0] :: Arr v1986 1 c1987 :: hs) := H
          replace H := H.front 6 rfl
          replace H : Hp C wd3507 ρ (Box b1982 [v2819, v2823, .slice none 0 0] :: Arr v2819 256 c2820 :: Arr v2823 1 c2824 :: Arr (.slice none 0 0) 1 ([]) :: Arr (.slice (some ⟨b1992, 0, none⟩) (x2.length : Int).toNat (x2.length : Int).toNat) 1 c2065 :: Box b1978 [v1, v4, v7] :: Box b1980 [.slice none 0 0, .slice none 0 0, .slice none 0 0] :: Arr v1986 1 c1987 :: hs) := H
          replace H := H.front 6 rfl
          replace H : Hp C wd3507 ρ (Box b1980 [.slice none 0 0, .slice none 0 0, .slice none 0 0] :: Box b1982 [v2819, v2823, .slice none 0 0] :: Arr v2819 256 c2820 :: Arr v2823 1 c2824 :: Arr (.slice none 0 0) 1 ([]) :: Arr (.slice (some ⟨b1992, 0, none⟩) (x2.length : Int).toNat (x2.length : Int).toNat) 1 c2065 :: Box b1978 [v1, v4, v7] :: Arr v1986 1 c1987 :: hs) := H
          replace H := H.drop 6 rfl
          replace H : Hp C wd3507 ρ (Box b1980 [.slice none 0 0, .slice none 0 0, .slice none 0 0] :: Box b1982 [v2819, v2823, .slice none 0 0] :: Arr v2819 256 c2820 :: Arr v2823 1 c2824 :: Arr (.slice none 0 0) 1 ([]) :: Arr (.slice (some ⟨b1992, 0, none⟩) (x2.length : Int).toNat (x2.length : Int).toNat) 1 c2065 :: Arr v1986 1 c1987 :: hs) := H
          replace H := H.drop 6 rfl
          replace H : Hp C wd3507 ρ (Box b1980 [.slice none 0 0, .slice none 0 0, .slice none 0 0] :: Box b1982 [v2819, v2823, .slice none 0 0] :: Arr v2819 256 c2820 :: Arr v2823 1 c2824 :: Arr (.slice none 0 0) 1 ([]) :: Arr (.slice (some ⟨b1992, 0, none⟩) (x2.length : Int).toNat (x2.length : Int).toNat) 1 c2065 :: hs) := H
          refine C_iter (f := fun s => F_canon_Canon_l3 N x8 x2066 s.1 s.2) ho3721 (fun s a w' => ∃ (v3790 : Value) (c3791 : (List Value)) (x3792 : (List Int)) (x3794 : Int), (x3792, x3794) = s ∧ rdL (eI .i64) ρ x3792 c3791 ∧ Fr 95 a [(2, .pointer (some ⟨b1980, 0, none⟩)), (3, .pointer (some ⟨b1982, 0, none⟩)), (5, (.slice (some ⟨b1992, 0, none⟩) (x2.length : Int).toNat (x2.length : Int).toNat)), (78, v7), (79, .int .i64 (x8.length : Int)), (80, .int .i64 x3794)] ∧ Hp C w' ρ (Box b1980 [.slice none 0 0, .slice none 0 0, .slice none 0 0] :: Box b1982 [v2819, v2823, v3790] :: Arr v2819 256 c2820 :: Arr v2823 1 c2824 :: Arr v3790 1 c3791 :: Arr (.slice (some ⟨b1992, 0, none⟩) (x2.length : Int).toNat (x2.length : Int).toNat) 1 c2065 :: hs)) ?_ ?_
          · exact fun a hf => ⟨(.slice none 0 0), [], [], 0, rfl, rdL.nil, hf.sub ⟨rfl, rfl, rfl, rfl, rfl, rfl, trivial⟩, H⟩
          · rintro s o3863 a wd3866 ⟨v3790, c3791, x3792, x3794, rfl, r3793, hf, H⟩ hB3864 hO3865
            replace hB3864 : F_canon_Canon_l3 N x8 x2066 x3792 x3794 = some o3863 := hB3864
            unfold F_canon_Canon_l3 at hB3864
            refine CW.at hf ?_
            refine C_seq ?_
            refine R_nd ?_
            refine nq (v := .bool (decide (x3794 < (x8.length : Int)))) (Q_lss rfl rfl) rfl rfl ?_
            refine WL_nil ?_
            refine x_then ?_
            refine CW.sub (E' := [(2, .pointer (some ⟨b1980, 0, none⟩)), (3, .pointer (some ⟨b1982, 0, none⟩)), (5, (.slice (some ⟨b1992, 0, none⟩) (x2.length : Int).toNat (x2.length : Int).toNat)), (78, v7), (79, .int .i64 (x8.length : Int)), (80, .int .i64 x3794), (81, .bool (decide (x3794 < (x8.length : Int))))]) ⟨rfl, rfl, rfl, rfl, rfl, rfl, rfl, trivial⟩ ?_
            refine C_seq ?_
            refine C_cond rfl (fun hb => ?_) (fun hb => ?_)
            · replace hB3864 := itT hb hB3864
              refine C_skip ?_
              refine x_then ?_
              refine CW.sub (E' := [(2, .pointer (some ⟨b1980, 0, none⟩)), (3, .pointer (some ⟨b1982, 0, none⟩)), (5, (.slice (some ⟨b1992, 0, none⟩) (x2.length : Int).toNat (x2.length : Int).toNat)), (78, v7), (79, .int .i64 (x8.length : Int)), (80, .int .i64 x3794)]) ⟨rfl, rfl, rfl, rfl, rfl, rfl, trivial⟩ ?_
              refine C_seq ?_
              refine C_block ?_
              refine C_seq ?_
              refine R_nd ?_
              obtain ⟨x3867, hx3867, hB3864⟩ := bnd hB3864
              obtain ⟨b3868, o3869, c3870, hc3871, ha3872, hi3873⟩ := idxR r9 hx3867
              refine nq (v := .pointer (some ⟨b3868, o3869, none⟩)) (Q_idx hi3873 Tryd.underlying23 ty3 rfl rfl) rfl rfl ?_
              refine nq (v := .int .i64 x3867) (Q_ld (show cellsAt _ _ _ [.int .i64 x3867] from (show _ = [_] from hc3871) ▸ (ha3872.up H.ok.view)) ty3 rfl (fun _ => rfl) rfl rfl) rfl rfl ?_
              refine nq (v := .int .i64 x3867) (Q_assign rfl) rfl rfl ?_
              refine WL_nil ?_
              refine x_then ?_
              refine CW.sub (E' := [(2, .pointer (some ⟨b1980, 0, none⟩)), (3, .pointer (some ⟨b1982, 0, none⟩)), (5, (.slice (some ⟨b1992, 0, none⟩) (x2.length : Int).toNat (x2.length : Int).toNat)), (14, .int .i64 x3867), (78, v7), (79, .int .i64 (x8.length : Int)), (80, .int .i64 x3794)]) ⟨rfl, rfl, rfl, rfl, rfl, rfl, rfl, trivial⟩ ?_
              obtain ⟨o3903, ho3903, hB3864⟩ := bnd hB3864
              refine C_cutQ (fun a w' => ∃ (v3899 : Value) (c3900 : (List Value)) (x3901 : (List Int)), x3901 = o3903 ∧ rdL (eI .i64) ρ x3901 c3900 ∧ Fr 95 a [(2, .pointer (some ⟨b1980, 0, none⟩)), (3, .pointer (some ⟨b1982, 0, none⟩)), (5, (.slice (some ⟨b1992, 0, none⟩) (x2.length : Int).toNat (x2.length : Int).toNat)), (78, v7), (79, .int .i64 (x8.length : Int)), (80, .int .i64 x3794)] ∧ Hp C w' ρ (Box b1980 [.slice none 0 0, .slice none 0 0, .slice none 0 0] :: Box b1982 [v2819, v2823, v3899] :: Arr v2819 256 c2820 :: Arr v2823 1 c2824 :: Arr v3899 1 c3900 :: Arr (.slice (some ⟨b1992, 0, none⟩) (x2.length : Int).toNat (x2.length : Int).toNat) 1 c2065 :: hs)) ?_ ?_
              · refine R_dr (.take 0 (.take 2 (.take 3 (.take 4 (.take 5 (.two 1 6 (.one 6 (.one 7 (.take 8 (.one 9 .done)))) (.one 1 (.one 7 (.take 8 (.one 9 .done)))))))))) (fun w' => Ok w' ρ [Box b1980 [.slice none 0 0, .slice none 0 0, .slice none 0 0], Arr v2819 256 c2820, Arr v2823 1 c2824, Arr (.slice (some ⟨b1992, 0, none⟩) (x2.length : Int).toNat (x2.length : Int).toNat) 1 c2065]) (by kernel_rfl) (by kernel_rfl) (by kernel_rfl) (H.drew.okS (by simp)) ?_
                replace H := H.drew
                refine dq (v := .pointer (some ⟨b1982, 2, none⟩)) rfl (fun w' hw => Q_fld Tryd.underlying25 rfl ty23 (by decide) rfl rfl) rfl rfl ?_
                refine dq (v := (.slice (some ⟨b1992, 0, none⟩) (x2.length : Int).toNat (x2.length : Int).toNat)) rfl (fun w' hw => Q_move rfl) rfl rfl ?_
                refine dq (v := .int .i64 x3867) rfl (fun w' hw => Q_move rfl) rfl rfl ?_
                obtain ⟨x3904, hx3904, ho3903⟩ := bnd ho3903
                obtain ⟨b3905, o3906, hi3910, hc3908, ha3909⟩ := arr_at (hs := [Arr (.slice (some ⟨b1992, 0, none⟩) (x2.length : Int).toNat (x2.length : Int).toNat) 1 c2065]) (k := 0) (by decide) (H.okS (by simp)) rfl r2067 hx3904
                refine dq (v := .pointer (some ⟨b3905, o3906, none⟩)) rfl (fun w' hw => Q_idx hi3910 Tryd.underlying23 ty3 rfl rfl) rfl rfl ?_
                refine dq (v := .int .i64 x3904) rfl (fun w' hw => Q_ld (show cellsAt _ _ _ [.int .i64 x3904] from (show _ = [_] from hc3908) ▸ (ha3909 _ (Ok.subS (by simp) hw))) ty3 rfl (fun _ => rfl) rfl rfl) rfl rfl ?_
                refine d2 ?_ ?_
                · refine de rfl (Eff.quiet (v := v3790) (Q_ldB (k := 1) (cs := [v3790]) H.ok rfl ty23 rfl rfl rfl (fun _ => rfl) rfl)) rfl rfl ?_
                  rintro _ _ ⟨rfl, rfl⟩
                  refine ⟨H.okS (by simp), ?_⟩
                  refine d1 (de rfl (E_bslice (xs := [.tmp 89]) (vs := [.int .i64 x3904]) H Tryd.underlying23 ty3 (by decide) (cs := [.int .i64 x3904]) rfl (sz_cons rfl sz_nil) rfl (by simp) (by simp) rfl rfl) rfl rfl ?_)
                  rintro _ wd3912 ⟨b3911, rfl, H⟩
                  replace H : Hp C wd3912 ρ (Arr (.slice (some ⟨b3911, 0, none⟩) 1 1) 1 ([.int .i64 x3904]) :: Box b1980 [.slice none 0 0, .slice none 0 0, .slice none 0 0] :: Box b1982 [v2819, v2823, v3790] :: Arr v2819 256 c2820 :: Arr v2823 1 c2824 :: Arr v3790 1 c3791 :: Arr (.slice (some ⟨b1992, 0, none⟩) (x2.length : Int).toNat (x2.length : Int).toNat) 1 c2065 :: hs) := H
                  refine ⟨H.okS (by simp), ?_⟩
                  obtain ⟨x3913, hx3913, ho3903⟩ := bnd ho3903
                  obtain ⟨ha3914a, ha3914b⟩ := app_some hx3913
                  have r3916 : rdL (eI .i64) ρ x3913 (c3791 ++ ([.int .i64 x3904])) := ha3914b ▸ rdL.app r3793 (show rdL (eI .i64) ρ ([x3904]) ([.int .i64 x3904]) from ⟨([.int .i64 x3904]), _, rfl, rfl, rdL.nil⟩)
                  refine d1 (de rfl (E_append (k := 5) H rfl Tryd.underlying23 ty3 rfl (by decide) (by decide) rfl rfl (Src.ofArr (k := 0) H.ok rfl) (rdL.one (show rdL (eI .i64) ρ ([x3904]) ([.int .i64 x3904]) from ⟨([.int .i64 x3904]), _, rfl, rfl, rdL.nil⟩)) (app_fit r3793 (show rdL (eI .i64) ρ ([x3904]) ([.int .i64 x3904]) from ⟨([.int .i64 x3904]), _, rfl, rfl, rdL.nil⟩) ha3914a)) rfl rfl ?_)
                  rintro v3915 wd3918 ⟨H, hc3917⟩
                  replace H : Hp C wd3918 ρ (Arr (.slice (some ⟨b3911, 0, none⟩) 1 1) 1 ([.int .i64 x3904]) :: Box b1980 [.slice none 0 0, .slice none 0 0, .slice none 0 0] :: Box b1982 [v2819, v2823, v3790] :: Arr v2819 256 c2820 :: Arr v2823 1 c2824 :: Arr v3915 1 (c3791 ++ ([.int .i64 x3904])) :: Arr (.slice (some ⟨b1992, 0, none⟩) (x2.length : Int).toNat (x2.length : Int).toNat) 1 c2065 :: hs) := H
                  refine ⟨H.okS (by simp), ?_⟩
                  refine dq (v := .pointer (some ⟨b1982, 2, none⟩)) rfl (fun w' hw => Q_fld Tryd.underlying25 rfl ty23 (by decide) rfl rfl) rfl rfl ?_
                  refine d1 (de rfl (E_stB (k := 2) (cs := [v3915]) (vs' := [v2819, v2823, v3915]) H rfl ty23 rfl rfl (arr_cells (H.ok.get (k := 5) rfl)).1 rfl (one_cons (arr_cells (H.ok.get (k := 5) rfl)).2 one_nil) (by simp) rfl) rfl rfl ?_)
                  rintro _ wd3919 H
                  replace H : Hp C wd3919 ρ (Arr (.slice (some ⟨b3911, 0, none⟩) 1 1) 1 ([.int .i64 x3904]) :: Box b1980 [.slice none 0 0, .slice none 0 0, .slice none 0 0] :: Box b1982 [v2819, v2823, v3915] :: Arr v2819 256 c2820 :: Arr v2823 1 c2824 :: Arr v3915 1 (c3791 ++ ([.int .i64 x3904])) :: Arr (.slice (some ⟨b1992, 0, none⟩) (x2.length : Int).toNat (x2.length : Int).toNat) 1 c2065 :: hs) := H
                  refine ⟨H.okS (by simp), ?_⟩
                  refine DL_nil ?_
                  replace H := H.front 6 rfl
                  replace H : Hp C wd3919 ρ (Arr (.slice (some ⟨b1992, 0, none⟩) (x2.length : Int).toNat (x2.length : Int).toNat) 1 c2065 :: Arr (.slice (some ⟨b3911, 0, none⟩) 1 1) 1 ([.int .i64 x3904]) :: Box b1980 [.slice none 0 0, .slice none 0 0, .slice none 0 0] :: Box b1982 [v2819, v2823, v3915] :: Arr v2819 256 c2820 :: Arr v2823 1 c2824 :: Arr v3915 1 (c3791 ++ ([.int .i64 x3904])) :: hs) := H
                  replace H := H.front 6 rfl
                  replace H : Hp C wd3919 ρ (Arr v3915 1 (c3791 ++ ([.int .i64 x3904])) :: Arr (.slice (some ⟨b1992, 0, none⟩) (x2.length : Int).toNat (x2.length : Int).toNat) 1 c2065 :: Arr (.slice (some ⟨b3911, 0, none⟩) 1 1) 1 ([.int .i64 x3904]) :: Box b1980 [.slice none 0 0, .slice none 0 0, .slice none 0 0] :: Box b1982 [v2819, v2823, v3915] :: Arr v2819 256 c2820 :: Arr v2823 1 c2824 :: hs) := H
                  replace H := H.front 6 rfl
                  replace H : Hp C wd3919 ρ (Arr v2823 1 c2824 :: Arr v3915 1 (c3791 ++ ([.int .i64 x3904])) :: Arr (.slice (some ⟨b1992, 0, none⟩) (x2.length : Int).toNat (x2.length : Int).toNat) 1 c2065 :: Arr (.slice (some ⟨b3911, 0, none⟩) 1 1) 1 ([.int .i64 x3904]) :: Box b1980 [.slice none 0 0, .slice none 0 0, .slice none 0 0] :: Box b1982 [v2819, v2823, v3915] :: Arr v2819 256 c2820 :: hs) := H
                  replace H := H.front 6 rfl
                  replace H : Hp C wd3919 ρ (Arr v2819 256 c2820 :: Arr v2823 1 c2824 :: Arr v3915 1 (c3791 ++ ([.int .i64 x3904])) :: Arr (.slice (some ⟨b1992, 0, none⟩) (x2.length : Int).toNat (x2.length : Int).toNat) 1 c2065 :: Arr (.slice (some ⟨b3911, 0, none⟩) 1 1) 1 ([.int .i64 x3904]) :: Box b1980 [.slice none 0 0, .slice none 0 0, .slice none 0 0] :: Box b1982 [v2819, v2823, v3915] :: hs) := H
                  replace H := H.front 6 rfl
                  replace H : Hp C wd3919 ρ (Box b1982 [v2819, v2823, v3915] :: Arr v2819 256 c2820 :: Arr v2823 1 c2824 :: Arr v3915 1 (c3791 ++ ([.int .i64 x3904])) :: Arr (.slice (some ⟨b1992, 0, none⟩) (x2.length : Int).toNat (x2.length : Int).toNat) 1 c2065 :: Arr (.slice (some ⟨b3911, 0, none⟩) 1 1) 1 ([.int .i64 x3904]) :: Box b1980 [.slice none 0 0, .slice none 0 0, .slice none 0 0] :: hs) := H
                  replace H := H.front 6 rfl
                  replace H : Hp C wd3919 ρ (Box b1980 [.slice none 0 0, .slice none 0 0, .slice none 0 0] :: Box b1982 [v2819, v2823, v3915] :: Arr v2819 256 c2820 :: Arr v2823 1 c2824 :: Arr v3915 1 (c3791 ++ ([.int .i64 x3904])) :: Arr (.slice (some ⟨b1992, 0, none⟩) (x2.length : Int).toNat (x2.length : Int).toNat) 1 c2065 :: Arr (.slice (some ⟨b3911, 0, none⟩) 1 1) 1 ([.int .i64 x3904]) :: hs) := H
                  replace H := H.drop 6 rfl
                  replace H : Hp C wd3919 ρ (Box b1980 [.slice none 0 0, .slice none 0 0, .slice none 0 0] :: Box b1982 [v2819, v2823, v3915] :: Arr v2819 256 c2820 :: Arr v2823 1 c2824 :: Arr v3915 1 (c3791 ++ ([.int .i64 x3904])) :: Arr (.slice (some ⟨b1992, 0, none⟩) (x2.length : Int).toNat (x2.length : Int).toNat) 1 c2065 :: hs) := H
                  obtain rfl := Option.some.inj ho3903
                  refine x_A fun a hf => ⟨v3915, (c3791 ++ ([.int .i64 x3904])), x3913, rfl, r3916, hf.sub ⟨rfl, rfl, rfl, rfl, rfl, rfl, trivial⟩, H⟩
                · refine de rfl (E_bslice (xs := [.tmp 89]) (vs := [.int .i64 x3904]) H Tryd.underlying23 ty3 (by decide) (cs := [.int .i64 x3904]) rfl (sz_cons rfl sz_nil) rfl (by simp) (by simp) rfl rfl) rfl rfl ?_
                  rintro _ wd3921 ⟨b3920, rfl, H⟩
                  replace H : Hp C wd3921 ρ (Arr (.slice (some ⟨b3920, 0, none⟩) 1 1) 1 ([.int .i64 x3904]) :: Box b1980 [.slice none 0 0, .slice none 0 0, .slice none 0 0] :: Box b1982 [v2819, v2823, v3790] :: Arr v2819 256 c2820 :: Arr v2823 1 c2824 :: Arr v3790 1 c3791 :: Arr (.slice (some ⟨b1992, 0, none⟩) (x2.length : Int).toNat (x2.length : Int).toNat) 1 c2065 :: hs) := H
                  refine ⟨H.okS (by simp), ?_⟩
                  refine d1 (de rfl (Eff.quiet (v := v3790) (Q_ldB (k := 2) (cs := [v3790]) H.ok rfl ty23 rfl rfl rfl (fun _ => rfl) rfl)) rfl rfl ?_)
                  rintro _ _ ⟨rfl, rfl⟩
                  refine ⟨H.okS (by simp), ?_⟩
                  obtain ⟨x3922, hx3922, ho3903⟩ := bnd ho3903
                  obtain ⟨ha3923a, ha3923b⟩ := app_some hx3922
                  have r3925 : rdL (eI .i64) ρ x3922 (c3791 ++ ([.int .i64 x3904])) := ha3923b ▸ rdL.app r3793 (show rdL (eI .i64) ρ ([x3904]) ([.int .i64 x3904]) from ⟨([.int .i64 x3904]), _, rfl, rfl, rdL.nil⟩)
                  refine d1 (de rfl (E_append (k := 5) H rfl Tryd.underlying23 ty3 rfl (by decide) (by decide) rfl rfl (Src.ofArr (k := 0) H.ok rfl) (rdL.one (show rdL (eI .i64) ρ ([x3904]) ([.int .i64 x3904]) from ⟨([.int .i64 x3904]), _, rfl, rfl, rdL.nil⟩)) (app_fit r3793 (show rdL (eI .i64) ρ ([x3904]) ([.int .i64 x3904]) from ⟨([.int .i64 x3904]), _, rfl, rfl, rdL.nil⟩) ha3923a)) rfl rfl ?_)
                  rintro v3924 wd3927 ⟨H, hc3926⟩
                  replace H : Hp C wd3927 ρ (Arr (.slice (some ⟨b3920, 0, none⟩) 1 1) 1 ([.int .i64 x3904]) :: Box b1980 [.slice none 0 0, .slice none 0 0, .slice none 0 0] :: Box b1982 [v2819, v2823, v3790] :: Arr v2819 256 c2820 :: Arr v2823 1 c2824 :: Arr v3924 1 (c3791 ++ ([.int .i64 x3904])) :: Arr (.slice (some ⟨b1992, 0, none⟩) (x2.length : Int).toNat (x2.length : Int).toNat) 1 c2065 :: hs) := H
                  refine ⟨H.okS (by simp), ?_⟩
                  refine dq (v := .pointer (some ⟨b1982, 2, none⟩)) rfl (fun w' hw => Q_fld Tryd.underlying25 rfl ty23 (by decide) rfl rfl) rfl rfl ?_
                  refine d1 (de rfl (E_stB (k := 2) (cs := [v3924]) (vs' := [v2819, v2823, v3924]) H rfl ty23 rfl rfl (arr_cells (H.ok.get (k := 5) rfl)).1 rfl (one_cons (arr_cells (H.ok.get (k := 5) rfl)).2 one_nil) (by simp) rfl) rfl rfl ?_)
                  rintro _ wd3928 H
                  replace H : Hp C wd3928 ρ (Arr (.slice (some ⟨b3920, 0, none⟩) 1 1) 1 ([.int .i64 x3904]) :: Box b1980 [.slice none 0 0, .slice none 0 0, .slice none 0 0] :: Box b1982 [v2819, v2823, v3924] :: Arr v2819 256 c2820 :: Arr v2823 1 c2824 :: Arr v3924 1 (c3791 ++ ([.int .i64 x3904])) :: Arr (.slice (some ⟨b1992, 0, none⟩) (x2.length : Int).toNat (x2.length : Int).toNat) 1 c2065 :: hs) := H
                  refine ⟨H.okS (by simp), ?_⟩
                  refine DL_nil ?_
                  replace H := H.front 6 rfl
                  replace H : Hp C wd3928 ρ (Arr (.slice (some ⟨b1992, 0, none⟩) (x2.length : Int).toNat (x2.length : Int).toNat) 1 c2065 :: Arr (.slice (some ⟨b3920, 0, none⟩) 1 1) 1 ([.int .i64 x3904]) :: Box b1980 [.slice none 0 0, .slice none 0 0, .slice none 0 0] :: Box b1982 [v2819, v2823, v3924] :: Arr v2819 256 c2820 :: Arr v2823 1 c2824 :: Arr v3924 1 (c3791 ++ ([.int .i64 x3904])) :: hs) := H
                  replace H := H.front 6 rfl
                  replace H : Hp C wd3928 ρ (Arr v3924 1 (c3791 ++ ([.int .i64 x3904])) :: Arr (.slice (some ⟨b1992, 0, none⟩) (x2.length : Int).toNat (x2.length : Int).toNat) 1 c2065 :: Arr (.slice (some ⟨b3920, 0, none⟩) 1 1) 1 ([.int .i64 x3904]) :: Box b1980 [.slice none 0 0, .slice none 0 0, .slice none 0 0] :: Box b1982 [v2819, v2823, v3924] :: Arr v2819 256 c2820 :: Arr v2823 1 c2824 :: hs) := H
                  replace H := H.front 6 rfl
                  replace H : Hp C wd3928 ρ (Arr v2823 1 c2824 :: Arr v3924 1 (c3791 ++ ([.int .i64 x3904])) :: Arr (.slice (some ⟨b1992, 0, none⟩) (x2.length : Int).toNat (x2.length : Int).toNat) 1 c2065 :: Arr (.slice (some ⟨b3920, 0, none⟩) 1 1) 1 ([.int .i64 x3904]) :: Box b1980 [.slice none 0 0, .slice none 0 0, .slice none 0 0] :: Box b1982 [v2819, v2823, v3924] :: Arr v2819 256 c2820 :: hs) := H
                  replace H := H.front 6 rfl
                  replace H : Hp C wd3928 ρ (Arr v2819 256 c2820 :: Arr v2823 1 c2824 :: Arr v3924 1 (c3791 ++ ([.int .i64 x3904])) :: Arr (.slice (some ⟨b1992, 0, none⟩) (x2.length : Int).toNat (x2.length : Int).toNat) 1 c2065 :: Arr (.slice (some ⟨b3920, 0, none⟩) 1 1) 1 ([.int .i64 x3904]) :: Box b1980 [.slice none 0 0, .slice none 0 0, .slice none 0 0] :: Box b1982 [v2819, v2823, v3924] :: hs) := H
                  replace H := H.front 6 rfl
                  replace H : Hp C wd3928 ρ (Box b1982 [v2819, v2823, v3924] :: Arr v2819 256 c2820 :: Arr v2823 1 c2824 :: Arr v3924 1 (c3791 ++ ([.int .i64 x3904])) :: Arr (.slice (some ⟨b1992, 0, none⟩) (x2.length : Int).toNat (x2.length : Int).toNat) 1 c2065 :: Arr (.slice (some ⟨b3920, 0, none⟩) 1 1) 1 ([.int .i64 x3904]) :: Box b1980 [.slice none 0 0, .slice none 0 0, .slice none 0 0] :: hs) := H
                  replace H := H.front 6 rfl
                  replace H : Hp C wd3928 ρ (Box b1980 [.slice none 0 0, .slice none 0 0, .slice none 0 0] :: Box b1982 [v2819, v2823, v3924] :: Arr v2819 256 c2820 :: Arr v2823 1 c2824 :: Arr v3924 1 (c3791 ++ ([.int .i64 x3904])) :: Arr (.slice (some ⟨b1992, 0, none⟩) (x2.length : Int).toNat (x2.length : Int).toNat) 1 c2065 :: Arr (.slice (some ⟨b3920, 0, none⟩) 1 1) 1 ([.int .i64 x3904]) :: hs) := H
                  replace H := H.drop 6 rfl
                  replace H : Hp C wd3928 ρ (Box b1980 [.slice none 0 0, .slice none 0 0, .slice none 0 0] :: Box b1982 [v2819, v2823, v3924] :: Arr v2819 256 c2820 :: Arr v2823 1 c2824 :: Arr v3924 1 (c3791 ++ ([.int .i64 x3904])) :: Arr (.slice (some ⟨b1992, 0, none⟩) (x2.length : Int).toNat (x2.length : Int).toNat) 1 c2065 :: hs) := H
                  obtain rfl := Option.some.inj ho3903
                  refine x_A fun a hf => ⟨v3924, (c3791 ++ ([.int .i64 x3904])), x3922, rfl, r3925, hf.sub ⟨rfl, rfl, rfl, rfl, rfl, rfl, trivial⟩, H⟩
              · rintro a wd3929 ⟨v3899, c3900, x3901, rfl, r3902, hf, H⟩
                try dsimp only at hB3864
                refine XX.at hf ?_
                refine x_block ?_
                refine x_then ?_
                refine CW.sub (E' := [(2, .pointer (some ⟨b1980, 0, none⟩)), (3, .pointer (some ⟨b1982, 0, none⟩)), (5, (.slice (some ⟨b1992, 0, none⟩) (x2.length : Int).toNat (x2.length : Int).toNat)), (78, v7), (79, .int .i64 (x8.length : Int)), (80, .int .i64 x3794)]) ⟨rfl, rfl, rfl, rfl, rfl, rfl, trivial⟩ ?_
                refine R_nd ?_
                refine nq (v := .int .i64 (w64 (x3794 + 1))) (Q_add rfl rfl) rfl rfl ?_
                refine nq (v := .int .i64 (w64 (x3794 + 1))) (Q_move rfl) rfl rfl ?_
                refine WL_nil ?_
                replace H := H.front 5 rfl
                replace H : Hp C wd3929 ρ (Arr (.slice (some ⟨b1992, 0, none⟩) (x2.length : Int).toNat (x2.length : Int).toNat) 1 c2065 :: Box b1980 [.slice none 0 0, .slice none 0 0, .slice none 0 0] :: Box b1982 [v2819, v2823, v3899] :: Arr v2819 256 c2820 :: Arr v2823 1 c2824 :: Arr v3899 1 c3900 :: hs) := H
                replace H := H.front 5 rfl
                replace H : Hp C wd3929 ρ (Arr v3899 1 c3900 :: Arr (.slice (some ⟨b1992, 0, none⟩) (x2.length : Int).toNat (x2.length : Int).toNat) 1 c2065 :: Box b1980 [.slice none 0 0, .slice none 0 0, .slice none 0 0] :: Box b1982 [v2819, v2823, v3899] :: Arr v2819 256 c2820 :: Arr v2823 1 c2824 :: hs) := H
                replace H := H.front 5 rfl
                replace H : Hp C wd3929 ρ (Arr v2823 1 c2824 :: Arr v3899 1 c3900 :: Arr (.slice (some ⟨b1992, 0, none⟩) (x2.length : Int).toNat (x2.length : Int).toNat) 1 c2065 :: Box b1980 [.slice none 0 0, .slice none 0 0, .slice none 0 0] :: Box b1982 [v2819, v2823, v3899] :: Arr v2819 256 c2820 :: hs) := H
                replace H := H.front 5 rfl
                replace H : Hp C wd3929 ρ (Arr v2819 256 c2820 :: Arr v2823 1 c2824 :: Arr v3899 1 c3900 :: Arr (.slice (some ⟨b1992, 0, none⟩) (x2.length : Int).toNat (x2.length : Int).toNat) 1 c2065 :: Box b1980 [.slice none 0 0, .slice none 0 0, .slice none 0 0] :: Box b1982 [v2819, v2823, v3899] :: hs) := H
                replace H := H.front 5 rfl
                replace H : Hp C wd3929 ρ (Box b1982 [v2819, v2823, v3899] :: Arr v2819 256 c2820 :: Arr v2823 1 c2824 :: Arr v3899 1 c3900 :: Arr (.slice (some ⟨b1992, 0, none⟩) (x2.length : Int).toNat (x2.length : Int).toNat) 1 c2065 :: Box b1980 [.slice none 0 0, .slice none 0 0, .slice none 0 0] :: hs) := H
                replace H := H.front 5 rfl
                replace H : Hp C wd3929 ρ (Box b1980 [.slice none 0 0, .slice none 0 0, .slice none 0 0] :: Box b1982 [v2819, v2823, v3899] :: Arr v2819 256 c2820 :: Arr v2823 1 c2824 :: Arr v3899 1 c3900 :: Arr (.slice (some ⟨b1992, 0, none⟩) (x2.length : Int).toNat (x2.length : Int).toNat) 1 c2065 :: hs) := H
                obtain rfl := Option.some.inj hB3864
                refine x_A fun a hf => ⟨_, rfl, v3899, c3900, x3901, w64 (x3794 + 1), rfl, r3902, hf.sub ⟨rfl, rfl, rfl, rfl, rfl, rfl, trivial⟩, H⟩
            · replace hB3864 := itF hb hB3864
              refine C_exit ?_
              refine x_then_exit ?_
              refine x_then_exit ?_
              refine x_block_exit ?_
              replace H := H.front 4 rfl
              replace H : Hp C wd3866 ρ (Arr v3790 1 c3791 :: Box b1980 [.slice none 0 0, .slice none 0 0, .slice none 0 0] :: Box b1982 [v2819, v2823, v3790] :: Arr v2819 256 c2820 :: Arr v2823 1 c2824 :: Arr (.slice (some ⟨b1992, 0, none⟩) (x2.length : Int).toNat (x2.length : Int).toNat) 1 c2065 :: hs) := H
              replace H := H.front 4 rfl
              replace H : Hp C wd3866 ρ (Arr v2823 1 c2824 :: Arr v3790 1 c3791 :: Box b1980 [.slice none 0 0, .slice none 0 0, .slice none 0 0] :: Box b1982 [v2819, v2823, v3790] :: Arr v2819 256 c2820 :: Arr (.slice (some ⟨b1992, 0, none⟩) (x2.length : Int).toNat (x2.length : Int).toNat) 1 c2065 :: hs) := H
              replace H := H.front 4 rfl
              replace H : Hp C wd3866 ρ (Arr v2819 256 c2820 :: Arr v2823 1 c2824 :: Arr v3790 1 c3791 :: Box b1980 [.slice none 0 0, .slice none 0 0, .slice none 0 0] :: Box b1982 [v2819, v2823, v3790] :: Arr (.slice (some ⟨b1992, 0, none⟩) (x2.length : Int).toNat (x2.length : Int).toNat) 1 c2065 :: hs) := H
              replace H := H.front 4 rfl
              replace H : Hp C wd3866 ρ (Box b1982 [v2819, v2823, v3790] :: Arr v2819 256 c2820 :: Arr v2823 1 c2824 :: Arr v3790 1 c3791 :: Box b1980 [.slice none 0 0, .slice none 0 0, .slice none 0 0] :: Arr (.slice (some ⟨b1992, 0, none⟩) (x2.length : Int).toNat (x2.length : Int).toNat) 1 c2065 :: hs) := H
              replace H := H.front 4 rfl
              replace H : Hp C wd3866 ρ (Box b1980 [.slice none 0 0, .slice none 0 0, .slice none 0 0] :: Box b1982 [v2819, v2823, v3790] :: Arr v2819 256 c2820 :: Arr v2823 1 c2824 :: Arr v3790 1 c3791 :: Arr (.slice (some ⟨b1992, 0, none⟩) (x2.length : Int).toNat (x2.length : Int).toNat) 1 c2065 :: hs) := H
              replace H := H.drop 5 rfl
              replace H : Hp C wd3866 ρ (Box b1980 [.slice none 0 0, .slice none 0 0, .slice none 0 0] :: Box b1982 [v2819, v2823, v3790] :: Arr v2819 256 c2820 :: Arr v2823 1 c2824 :: Arr v3790 1 c3791 :: hs) := H
              obtain rfl := Option.some.inj hB3864
              obtain rfl := hO3865 _ rfl
              refine x_A fun a hf => ⟨v3790, c3791, x3792, rfl, r3793, hf.sub ⟨rfl, rfl, trivial⟩, H⟩
        · rintro a wd3930 ⟨v3717, c3718, x3719, rfl, r3720, hf, H⟩
          try dsimp only at hF
          refine XX.at hf ?_
          refine x_then ?_
          refine CW.sub (E' := [(2, .pointer (some ⟨b1980, 0, none⟩)), (3, .pointer (some ⟨b1982, 0, none⟩))]) ⟨rfl, rfl, trivial⟩ ?_
          refine C_seq ?_
          refine R_nd ?_
          refine nq (v := .agg #[v2819, v2823, v3717]) (Q_ldB (k := 1) (cs := [v2819, v2823, v3717]) H.ok rfl ty25 rfl rfl rfl (fun h => nomatch h) rfl) rfl rfl ?_
          refine ne (E_stB (k := 0) (cs := [v2819, v2823, v3717]) (vs' := [v2819, v2823, v3717]) H rfl ty25 rfl rfl rfl rfl (one_cons (arr_cells (H.ok.get (k := 2) rfl)).2 (one_cons (arr_cells (H.ok.get (k := 3) rfl)).2 (one_cons (arr_cells (H.ok.get (k := 4) rfl)).2 one_nil))) (by simp) rfl) rfl rfl ?_
          rintro _ wd3931 H
          replace H : Hp C wd3931 ρ (Box b1980 [v2819, v2823, v3717] :: Box b1982 [v2819, v2823, v3717] :: Arr v2819 256 c2820 :: Arr v2823 1 c2824 :: Arr v3717 1 c3718 :: hs) := H
          refine WL_nil ?_
          refine x_then ?_
          refine CW.sub (E' := [(2, .pointer (some ⟨b1980, 0, none⟩))]) ⟨rfl, trivial⟩ ?_
          refine C_ret ?_
          have hRV : RV Tryd.prog wd3931 [(2, .pointer (some ⟨b1980, 0, none⟩))] [.cell 2 25] [.agg #[v2819, v2823, v3717]] := ⟨⟨_, rfl, run_ldv ty25 rfl (fun h => nomatch h) (box_at (H.ok.get (k := 0) rfl) 0 3)⟩, trivial⟩
          replace H := H.front 4 rfl
          replace H : Hp C wd3931 ρ (Arr v3717 1 c3718 :: Box b1980 [v2819, v2823, v3717] :: Box b1982 [v2819, v2823, v3717] :: Arr v2819 256 c2820 :: Arr v2823 1 c2824 :: hs) := H
          replace H := H.front 4 rfl
          replace H : Hp C wd3931 ρ (Arr v2823 1 c2824 :: Arr v3717 1 c3718 :: Box b1980 [v2819, v2823, v3717] :: Box b1982 [v2819, v2823, v3717] :: Arr v2819 256 c2820 :: hs) := H
          replace H := H.front 4 rfl
          replace H : Hp C wd3931 ρ (Arr v2819 256 c2820 :: Arr v2823 1 c2824 :: Arr v3717 1 c3718 :: Box b1980 [v2819, v2823, v3717] :: Box b1982 [v2819, v2823, v3717] :: hs) := H
          replace H := H.drop 3 rfl
          replace H : Hp C wd3931 ρ (Arr v2819 256 c2820 :: Arr v2823 1 c2824 :: Arr v3717 1 c3718 :: Box b1982 [v2819, v2823, v3717] :: hs) := H
          replace H := H.drop 3 rfl
          replace H : Hp C wd3931 ρ (Arr v2819 256 c2820 :: Arr v2823 1 c2824 :: Arr v3717 1 c3718 :: hs) := H
          obtain rfl := Option.some.inj hF
          exact fn_retV (rs := [.cell 2 25]) (vs := [.agg #[v2819, v2823, v3717]]) rfl hRV ⟨v2819, c2820, v2823, c2824, v3717, c3718, x2821, x2825, x3719, rfl, rfl, r2822, r2826, r3720, H⟩
theorem c_17 {N : Nat} {C : Cx} {w : World} {ρ : View} {hs : List Hl} {v1 : Value} {v4 : Value} {v7 : Value} {x2 : (List (List Int))} {x5 : (List Int)} {x8 : (List Int)} (H : Hp C w ρ (hs)) (r3 : RdSl ρ (eA 256 (eI .i64)) v1 x2) (r6 : RdSl ρ (eI .i64) v4 x5) (r9 : RdSl ρ (eI .i64) v7 x8) {r : Bool} (hF : F_dofferref17_Right N x2 x5 x8 = some r) :
    Calls Tryd.prog 17 [.agg #[v1, v4, v7]].toArray w (Rets (fun v w' => (∃ (x600 : Bool), x600 = r ∧ .bool x600 = v ∧ Hp C w' ρ (hs)))) := by
  unfold F_dofferref17_Right at hF
  have h0 : Tryd.f17.body = some _ := rfl
  refine fn_calls' Tryd.func17 h0 (n := 101) rfl (by simp) ?_
  refine C_seq ?_
  refine R_nd ?_
  refine ne (E_box H (vs := [v1, v4, v7]) rfl rfl) rfl rfl ?_
  rintro _ wd602 ⟨b601, rfl, H⟩
  replace H : Hp C wd602 ρ (Box b601 [v1, v4, v7] :: hs) := H
  refine nq (v := .bool false) (Q_assign rfl) rfl rfl ?_
  refine WL_nil ?_
  refine x_then ?_
  refine CW.sub (E' := [(1, .pointer (some ⟨b601, 0, none⟩))]) ⟨rfl, trivial⟩ ?_
  refine C_seq ?_
  refine R_nd ?_
  refine nq (v := .pointer (some ⟨b601, 0, none⟩)) (Q_fld Tryd.underlying29 rfl ty27 (by decide) rfl rfl) rfl rfl ?_
  refine nq (v := v1) (Q_ldB (k := 0) (cs := [v1]) H.ok rfl ty27 rfl rfl rfl (fun _ => rfl) rfl) rfl rfl ?_
  refine nq (v := .int .i64 (x2.length : Int)) (Q_len Tryd.underlying27 rfl r3) rfl rfl ?_
  refine nq (v := .int .i64 (x2.length : Int)) (Q_assign rfl) rfl rfl ?_
  refine WL_nil ?_
  refine x_then ?_
  refine CW.sub (E' := [(1, .pointer (some ⟨b601, 0, none⟩)), (3, .int .i64 (x2.length : Int))]) ⟨rfl, rfl, trivial⟩ ?_
  refine C_seq ?_
  obtain ⟨o604, ho604, hF⟩ := bnd hF
  refine C_cut (fun a w' => ∃ (x603 : Bool), x603 = o604 ∧ Fr 101 a [(1, .pointer (some ⟨b601, 0, none⟩)), (3, .int .i64 (x2.length : Int)), (37, .bool x603)] ∧ Hp C w' ρ (Box b601 [v1, v4, v7] :: hs)) ?_ ?_
  · refine R_nd ?_
    refine nq (v := .int .i64 (x2.length : Int)) (Q_move rfl) rfl rfl ?_
    refine nq (v := .bool (decide ((x2.length : Int) < 1))) (Q_lss rfl rfl) rfl rfl ?_
    refine nq (v := .bool (decide ((x2.length : Int) < 1))) (Q_move rfl) rfl rfl ?_
    rcases Bool.eq_false_or_eq_true (decide ((x2.length : Int) < 1)) with hb | hb
    · rw [hb]
      replace ho604 := itT hb ho604
      refine gs rfl rfl rfl rfl ?_
      refine gs rfl rfl rfl rfl ?_
      refine nq (v := .bool true) (Q_pickT rfl rfl) rfl rfl ?_
      refine nq (v := .bool true) (Q_move rfl) rfl rfl ?_
      refine gs rfl rfl rfl rfl ?_
      refine gs rfl rfl rfl rfl ?_
      refine gs rfl rfl rfl rfl ?_
      refine gs rfl rfl rfl rfl ?_
      refine gs rfl rfl rfl rfl ?_
      refine nq (v := .bool true) (Q_pickT rfl rfl) rfl rfl ?_
      refine nq (v := .bool true) (Q_move rfl) rfl rfl ?_
      refine gs rfl rfl rfl rfl ?_
      refine gs rfl rfl rfl rfl ?_
      refine gs rfl rfl rfl rfl ?_
      refine gs rfl rfl rfl rfl ?_
      refine nq (v := .bool true) (Q_pickT rfl rfl) rfl rfl ?_
      refine nq (v := .bool true) (Q_move rfl) rfl rfl ?_
      refine gs rfl rfl rfl rfl ?_
      refine gs rfl rfl rfl rfl ?_
      refine gs rfl rfl rfl rfl ?_
      refine gs rfl rfl rfl rfl ?_
      refine nq (v := .bool true) (Q_pickT rfl rfl) rfl rfl ?_
      refine WL_nil ?_
      obtain rfl := Option.some.inj ho604
      refine x_A fun a hf => ⟨true, rfl, hf.sub ⟨rfl, rfl, rfl, trivial⟩, H⟩
    · rw [hb]
      replace ho604 := itF hb ho604
      refine gq (v := .int .i64 (x2.length : Int)) (Q_move rfl) rfl rfl rfl ?_
      refine gq (v := .bool (decide ((x2.length : Int) > 200))) (Q_gtr rfl rfl) rfl rfl rfl ?_
      refine nq (v := .bool (decide ((x2.length : Int) > 200))) (Q_pickF rfl rfl) rfl rfl ?_
      refine nq (v := .bool (decide ((x2.length : Int) > 200))) (Q_move rfl) rfl rfl ?_
      rcases Bool.eq_false_or_eq_true (decide ((x2.length : Int) > 200)) with hb | hb
      · rw [hb]
        replace ho604 := itT hb ho604
        refine gs rfl rfl rfl rfl ?_
        refine gs rfl rfl rfl rfl ?_
        refine gs rfl rfl rfl rfl ?_
        refine gs rfl rfl rfl rfl ?_
        refine gs rfl rfl rfl rfl ?_
        refine nq (v := .bool true) (Q_pickT rfl rfl) rfl rfl ?_
        refine nq (v := .bool true) (Q_move rfl) rfl rfl ?_
        refine gs rfl rfl rfl rfl ?_
        refine gs rfl rfl rfl rfl ?_
        refine gs rfl rfl rfl rfl ?_
        refine gs rfl rfl rfl rfl ?_
        refine nq (v := .bool true) (Q_pickT rfl rfl) rfl rfl ?_
        refine nq (v := .bool true) (Q_move rfl) rfl rfl ?_
        refine gs rfl rfl rfl rfl ?_
        refine gs rfl rfl rfl rfl ?_
        refine gs rfl rfl rfl rfl ?_
        refine gs rfl rfl rfl rfl ?_
        refine nq (v := .bool true) (Q_pickT rfl rfl) rfl rfl ?_
        refine WL_nil ?_
        obtain rfl := Option.some.inj ho604
        refine x_A fun a hf => ⟨true, rfl, hf.sub ⟨rfl, rfl, rfl, trivial⟩, H⟩
      · rw [hb]
        replace ho604 := itF hb ho604
        refine gq (v := .pointer (some ⟨b601, 1, none⟩)) (Q_fld Tryd.underlying29 rfl ty23 (by decide) rfl rfl) rfl rfl rfl ?_
        refine gq (v := v4) (Q_ldB (k := 0) (cs := [v4]) H.ok rfl ty23 rfl rfl rfl (fun _ => rfl) rfl) rfl rfl rfl ?_
        refine gq (v := .int .i64 (x5.length : Int)) (Q_len Tryd.underlying23 rfl r6) rfl rfl rfl ?_
        refine gq (v := .int .i64 (x2.length : Int)) (Q_move rfl) rfl rfl rfl ?_
        refine gq (v := .bool ((x5.length : Int) != (x2.length : Int))) (Q_neq rfl rfl) rfl rfl rfl ?_
        refine nq (v := .bool ((x5.length : Int) != (x2.length : Int))) (Q_pickF rfl rfl) rfl rfl ?_
        refine nq (v := .bool ((x5.length : Int) != (x2.length : Int))) (Q_move rfl) rfl rfl ?_
        rcases Bool.eq_false_or_eq_true ((x5.length : Int) != (x2.length : Int)) with hb | hb
        · rw [hb]
          replace ho604 := itT hb ho604
          refine gs rfl rfl rfl rfl ?_
          refine gs rfl rfl rfl rfl ?_
          refine gs rfl rfl rfl rfl ?_
          refine gs rfl rfl rfl rfl ?_
          refine nq (v := .bool true) (Q_pickT rfl rfl) rfl rfl ?_
          refine nq (v := .bool true) (Q_move rfl) rfl rfl ?_
          refine gs rfl rfl rfl rfl ?_
          refine gs rfl rfl rfl rfl ?_
          refine gs rfl rfl rfl rfl ?_
          refine gs rfl rfl rfl rfl ?_
          refine nq (v := .bool true) (Q_pickT rfl rfl) rfl rfl ?_
          refine WL_nil ?_
          obtain rfl := Option.some.inj ho604
          refine x_A fun a hf => ⟨true, rfl, hf.sub ⟨rfl, rfl, rfl, trivial⟩, H⟩
        · rw [hb]
          replace ho604 := itF hb ho604
          refine gq (v := .pointer (some ⟨b601, 2, none⟩)) (Q_fld Tryd.underlying29 rfl ty23 (by decide) rfl rfl) rfl rfl rfl ?_
          refine gq (v := v7) (Q_ldB (k := 0) (cs := [v7]) H.ok rfl ty23 rfl rfl rfl (fun _ => rfl) rfl) rfl rfl rfl ?_
          refine gq (v := .int .i64 (x8.length : Int)) (Q_len Tryd.underlying23 rfl r9) rfl rfl rfl ?_
          refine gq (v := .bool (decide ((x8.length : Int) < 1))) (Q_lss rfl rfl) rfl rfl rfl ?_
          refine nq (v := .bool (decide ((x8.length : Int) < 1))) (Q_pickF rfl rfl) rfl rfl ?_
          refine nq (v := .bool (decide ((x8.length : Int) < 1))) (Q_move rfl) rfl rfl ?_
          rcases Bool.eq_false_or_eq_true (decide ((x8.length : Int) < 1)) with hb | hb
          · rw [hb]
            replace ho604 := itT hb ho604
            refine gs rfl rfl rfl rfl ?_
            refine gs rfl rfl rfl rfl ?_
            refine gs rfl rfl rfl rfl ?_
            refine gs rfl rfl rfl rfl ?_
            refine nq (v := .bool true) (Q_pickT rfl rfl) rfl rfl ?_
            refine WL_nil ?_
            obtain rfl := Option.some.inj ho604
            refine x_A fun a hf => ⟨true, rfl, hf.sub ⟨rfl, rfl, rfl, trivial⟩, H⟩
          · rw [hb]
            replace ho604 := itF hb ho604
            refine gq (v := .pointer (some ⟨b601, 2, none⟩)) (Q_fld Tryd.underlying29 rfl ty23 (by decide) rfl rfl) rfl rfl rfl ?_
            refine gq (v := v7) (Q_ldB (k := 0) (cs := [v7]) H.ok rfl ty23 rfl rfl rfl (fun _ => rfl) rfl) rfl rfl rfl ?_
            refine gq (v := .int .i64 (x8.length : Int)) (Q_len Tryd.underlying23 rfl r9) rfl rfl rfl ?_
            refine gq (v := .bool (decide ((x8.length : Int) > 8))) (Q_gtr rfl rfl) rfl rfl rfl ?_
            refine nq (v := .bool (decide ((x8.length : Int) > 8))) (Q_pickF rfl rfl) rfl rfl ?_
            refine WL_nil ?_
            obtain rfl := Option.some.inj ho604
            refine x_A fun a hf => ⟨decide ((x8.length : Int) > 8), rfl, hf.sub ⟨rfl, rfl, rfl, trivial⟩, H⟩
  · rintro a wd605 ⟨x603, rfl, hf, H⟩
    try dsimp only at hF
    refine CW.at hf ?_
    refine C_cond rfl (fun hb => ?_) (fun hb => ?_)
    · replace hF := itT hb hF
      refine C_seq ?_
      refine R_nd ?_
      refine nq (v := .bool false) (Q_assign rfl) rfl rfl ?_
      refine WL_nil ?_
      refine x_then ?_
      refine CW.sub (E' := [(2, .bool false)]) ⟨rfl, trivial⟩ ?_
      refine C_ret ?_
      refine x_then_ret ?_
      replace H := H.drop 0 rfl
      replace H : Hp C wd605 ρ (hs) := H
      obtain rfl := Option.some.inj hF
      exact fn_ret (l := [.tmp 2]) (vs := [.bool false]) rfl rfl rfl ⟨false, rfl, rfl, H⟩
    · replace hF := itF hb hF
      refine C_skip ?_
      refine x_then ?_
      refine CW.sub (E' := [(1, .pointer (some ⟨b601, 0, none⟩)), (3, .int .i64 (x2.length : Int))]) ⟨rfl, rfl, trivial⟩ ?_
      refine C_seq ?_
      refine C_seq ?_
      refine R_nd ?_
      refine nq (v := .pointer (some ⟨b601, 0, none⟩)) (Q_fld Tryd.underlying29 rfl ty27 (by decide) rfl rfl) rfl rfl ?_
      refine nq (v := v1) (Q_ldB (k := 0) (cs := [v1]) H.ok rfl ty27 rfl rfl rfl (fun _ => rfl) rfl) rfl rfl ?_
      refine nq (v := .int .i64 (x2.length : Int)) (Q_len Tryd.underlying27 rfl r3) rfl rfl ?_
      refine nq (v := .int .i64 0) (Q_move rfl) rfl rfl ?_
      refine WL_nil ?_
      refine x_then ?_
      refine CW.sub (E' := [(1, .pointer (some ⟨b601, 0, none⟩)), (3, .int .i64 (x2.length : Int)), (39, v1), (40, .int .i64 (x2.length : Int)), (41, .int .i64 0)]) ⟨rfl, rfl, rfl, rfl, rfl, trivial⟩ ?_
      obtain ⟨o856, ho856, hF⟩ := bnd hF
      refine C_cutQ (fun a w' => .inl () = o856 ∧ Fr 101 a [(1, .pointer (some ⟨b601, 0, none⟩)), (3, .int .i64 (x2.length : Int))] ∧ Hp C w' ρ (Box b601 [v1, v4, v7] :: hs)) ?_ ?_
      · refine C_block ?_
        refine C_iter (f := fun s => F_dofferref17_Right_l0 N x2 x5 s) ho856 (fun s a w' => ∃ (x939 : Int), x939 = s ∧ Fr 101 a [(1, .pointer (some ⟨b601, 0, none⟩)), (3, .int .i64 (x2.length : Int)), (39, v1), (40, .int .i64 (x2.length : Int)), (41, .int .i64 x939)] ∧ Hp C w' ρ (Box b601 [v1, v4, v7] :: hs)) ?_ ?_
        · exact fun a hf => ⟨0, rfl, hf.sub ⟨rfl, rfl, rfl, rfl, rfl, trivial⟩, H⟩
        · rintro s o1022 a wd1025 ⟨x939, rfl, hf, H⟩ hB1023 hO1024
          replace hB1023 : F_dofferref17_Right_l0 N x2 x5 x939 = some o1022 := hB1023
          unfold F_dofferref17_Right_l0 at hB1023
          refine CW.at hf ?_
          refine C_seq ?_
          refine R_nd ?_
          refine nq (v := .bool (decide (x939 < (x2.length : Int)))) (Q_lss rfl rfl) rfl rfl ?_
          refine WL_nil ?_
          refine x_then ?_
          refine CW.sub (E' := [(1, .pointer (some ⟨b601, 0, none⟩)), (3, .int .i64 (x2.length : Int)), (39, v1), (40, .int .i64 (x2.length : Int)), (41, .int .i64 x939), (42, .bool (decide (x939 < (x2.length : Int))))]) ⟨rfl, rfl, rfl, rfl, rfl, rfl, trivial⟩ ?_
          refine C_seq ?_
          refine C_cond rfl (fun hb => ?_) (fun hb => ?_)
          · replace hB1023 := itT hb hB1023
            refine C_skip ?_
            refine x_then ?_
            refine CW.sub (E' := [(1, .pointer (some ⟨b601, 0, none⟩)), (3, .int .i64 (x2.length : Int)), (39, v1), (40, .int .i64 (x2.length : Int)), (41, .int .i64 x939)]) ⟨rfl, rfl, rfl, rfl, rfl, trivial⟩ ?_
            refine C_seq ?_
            refine C_block ?_
            refine C_seq ?_
            refine R_nd ?_
            refine nq (v := .int .i64 x939) (Q_move rfl) rfl rfl ?_
            obtain ⟨x1026, hx1026, hB1023⟩ := bnd hB1023
            obtain ⟨b1027, o1028, c1029, hc1030, ha1031, hi1032⟩ := idxR r3 hx1026
            refine nq (v := .pointer (some ⟨b1027, o1028, none⟩)) (Q_idx hi1032 Tryd.underlying27 ty57 rfl rfl) rfl rfl ?_
            refine nq (v := .agg c1029.toArray) (Q_ld (ha1031.up H.ok.view) ty57 ((eA 256 (eI .i64)).len hc1030) (fun h => nomatch h) rfl rfl) rfl rfl ?_
            refine ne (E_allocA (N := 256) (n := 1) (zs := (repC 256 [.int .i64 0])) H ty57 rfl (by simp [repC_length])) rfl rfl ?_
            rintro _ wd1034 ⟨b1033, rfl, H⟩
            replace H : Hp C wd1034 ρ (Arr (.slice (some ⟨b1033, 0, none⟩) 256 256) 1 (repC 256 [.int .i64 0]) :: Box b601 [v1, v4, v7] :: hs) := H
            refine nq (v := .int .i64 x939) (Q_assign rfl) rfl rfl ?_
            refine ne (E_stW (k := 0) H rfl ty57 rfl rfl (rdL.one hc1030.2) (arr_clen (rdL_rep (e:=(eI .i64)) (ρ:=ρ) (rfl) 256) List.length_replicate) (arr_clen hc1030.2 hc1030.1)) rfl rfl ?_
            rintro _ wd1035 H
            replace H : Hp C wd1035 ρ (Arr (.slice (some ⟨b1033, 0, none⟩) 256 256) 1 c1029 :: Box b601 [v1, v4, v7] :: hs) := H
            refine WL_nil ?_
            refine x_then ?_
            refine CW.sub (E' := [(1, .pointer (some ⟨b601, 0, none⟩)), (3, .int .i64 (x2.length : Int)), (4, .int .i64 x939), (5, .pointer (some ⟨b1033, 0, none⟩)), (39, v1), (40, .int .i64 (x2.length : Int)), (41, .int .i64 x939)]) ⟨rfl, rfl, rfl, rfl, rfl, rfl, rfl, trivial⟩ ?_
            refine C_seq ?_
            obtain ⟨o1051, ho1051, hB1023⟩ := bnd hB1023
            refine C_cut (fun a w' => ∃ (x1050 : Bool), x1050 = o1051 ∧ Fr 101 a [(1, .pointer (some ⟨b601, 0, none⟩)), (3, .int .i64 (x2.length : Int)), (4, .int .i64 x939), (5, .pointer (some ⟨b1033, 0, none⟩)), (39, v1), (40, .int .i64 (x2.length : Int)), (41, .int .i64 x939), (59, .bool x1050)] ∧ Hp C w' ρ (Box b601 [v1, v4, v7] :: Arr (.slice (some ⟨b1033, 0, none⟩) 256 256) 1 c1029 :: hs)) ?_ ?_
            · refine R_nd ?_
              refine nq (v := .pointer (some ⟨b601, 1, none⟩)) (Q_fld Tryd.underlying29 rfl ty23 (by decide) rfl rfl) rfl rfl ?_
              refine nq (v := v4) (Q_ldB (k := 1) (cs := [v4]) H.ok rfl ty23 rfl rfl rfl (fun _ => rfl) rfl) rfl rfl ?_
              refine nq (v := .int .i64 x939) (Q_move rfl) rfl rfl ?_
              obtain ⟨x1052, hx1052, ho1051⟩ := bnd ho1051
              obtain ⟨b1053, o1054, c1055, hc1056, ha1057, hi1058⟩ := idxR r6 hx1052
              refine nq (v := .pointer (some ⟨b1053, o1054, none⟩)) (Q_idx hi1058 Tryd.underlying23 ty3 rfl rfl) rfl rfl ?_
              refine nq (v := .int .i64 x1052) (Q_ld (show cellsAt _ _ _ [.int .i64 x1052] from (show _ = [_] from hc1056) ▸ (ha1057.up H.ok.view)) ty3 rfl (fun _ => rfl) rfl rfl) rfl rfl ?_
              refine nq (v := .bool (decide (x1052 < (-1)))) (Q_lss rfl rfl) rfl rfl ?_
              refine nq (v := .bool (decide (x1052 < (-1)))) (Q_move rfl) rfl rfl ?_
              rcases Bool.eq_false_or_eq_true (decide (x1052 < (-1))) with hb | hb
              · rw [hb]
                replace ho1051 := itT hb ho1051
                refine gs rfl rfl rfl rfl ?_
                refine gs rfl rfl rfl rfl ?_
                refine gs rfl rfl rfl rfl ?_
                refine gs rfl rfl rfl rfl ?_
                refine gs rfl rfl rfl rfl ?_
                refine gs rfl rfl rfl rfl ?_
                refine nq (v := .bool true) (Q_pickT rfl rfl) rfl rfl ?_
                refine WL_nil ?_
                replace H := H.front 1 rfl
                replace H : Hp C wd1035 ρ (Box b601 [v1, v4, v7] :: Arr (.slice (some ⟨b1033, 0, none⟩) 256 256) 1 c1029 :: hs) := H
                obtain rfl := Option.some.inj ho1051
                refine x_A fun a hf => ⟨true, rfl, hf.sub ⟨rfl, rfl, rfl, rfl, rfl, rfl, rfl, rfl, trivial⟩, H⟩
              · rw [hb]
                replace ho1051 := itF hb ho1051
                refine gq (v := .pointer (some ⟨b601, 1, none⟩)) (Q_fld Tryd.underlying29 rfl ty23 (by decide) rfl rfl) rfl rfl rfl ?_
                refine gq (v := v4) (Q_ldB (k := 1) (cs := [v4]) H.ok rfl ty23 rfl rfl rfl (fun _ => rfl) rfl) rfl rfl rfl ?_
                refine gq (v := .int .i64 x939) (Q_move rfl) rfl rfl rfl ?_
                obtain ⟨x1059, hx1059, ho1051⟩ := bnd ho1051
                obtain ⟨b1060, o1061, c1062, hc1063, ha1064, hi1065⟩ := idxR r6 hx1059
                refine gq (v := .pointer (some ⟨b1060, o1061, none⟩)) (Q_idx hi1065 Tryd.underlying23 ty3 rfl rfl) rfl rfl rfl ?_
                refine gq (v := .int .i64 x1059) (Q_ld (show cellsAt _ _ _ [.int .i64 x1059] from (show _ = [_] from hc1063) ▸ (ha1064.up H.ok.view)) ty3 rfl (fun _ => rfl) rfl rfl) rfl rfl rfl ?_
                refine gq (v := .bool (decide (x1059 > 47))) (Q_gtr rfl rfl) rfl rfl rfl ?_
                refine nq (v := .bool (decide (x1059 > 47))) (Q_pickF rfl rfl) rfl rfl ?_
                refine WL_nil ?_
                replace H := H.front 1 rfl
                replace H : Hp C wd1035 ρ (Box b601 [v1, v4, v7] :: Arr (.slice (some ⟨b1033, 0, none⟩) 256 256) 1 c1029 :: hs) := H
                obtain rfl := Option.some.inj ho1051
                refine x_A fun a hf => ⟨decide (x1059 > 47), rfl, hf.sub ⟨rfl, rfl, rfl, rfl, rfl, rfl, rfl, rfl, trivial⟩, H⟩
            · rintro a wd1066 ⟨x1050, rfl, hf, H⟩
              try dsimp only at hB1023
              refine CW.at hf ?_
              refine C_cond rfl (fun hb => ?_) (fun hb => ?_)
              · replace hB1023 := itT hb hB1023
                refine C_seq ?_
                refine R_nd ?_
                refine nq (v := .bool false) (Q_assign rfl) rfl rfl ?_
                refine WL_nil ?_
                refine x_then ?_
                refine CW.sub (E' := [(2, .bool false)]) ⟨rfl, trivial⟩ ?_
                refine C_ret ?_
                refine x_then_ret ?_
                refine x_block_ret ?_
                refine x_then_ret ?_
                refine x_then_ret ?_
                refine x_block_ret ?_
                refine x_then_ret ?_
                refine x_then_ret ?_
                replace H := H.drop 0 rfl
                replace H : Hp C wd1066 ρ (Arr (.slice (some ⟨b1033, 0, none⟩) 256 256) 1 c1029 :: hs) := H
                replace H := H.drop 0 rfl
                replace H : Hp C wd1066 ρ (hs) := H
                obtain rfl := Option.some.inj hB1023
                obtain rfl := hO1024 _ rfl
                obtain rfl := Option.some.inj (show some _ = some _ from hF)
                exact fn_ret (l := [.tmp 2]) (vs := [.bool false]) rfl rfl rfl ⟨false, rfl, rfl, H⟩
              · replace hB1023 := itF hb hB1023
                refine C_skip ?_
                refine x_then ?_
                refine CW.sub (E' := [(1, .pointer (some ⟨b601, 0, none⟩)), (3, .int .i64 (x2.length : Int)), (4, .int .i64 x939), (5, .pointer (some ⟨b1033, 0, none⟩)), (39, v1), (40, .int .i64 (x2.length : Int)), (41, .int .i64 x939)]) ⟨rfl, rfl, rfl, rfl, rfl, rfl, rfl, trivial⟩ ?_
                refine C_seq ?_
                refine R_nd ?_
                refine nq (v := .agg c1029.toArray) (Q_ldW (k := 1) H.ok rfl ty57 rfl (arr_clen hc1030.2 hc1030.1)) rfl rfl ?_
                refine nq (v := .int .i64 0) (Q_move rfl) rfl rfl ?_
                refine WL_nil ?_
                refine x_then ?_
                refine CW.sub (E' := [(1, .pointer (some ⟨b601, 0, none⟩)), (3, .int .i64 (x2.length : Int)), (4, .int .i64 x939), (39, v1), (40, .int .i64 (x2.length : Int)), (41, .int .i64 x939), (60, .agg c1029.toArray), (61, .int .i64 0)]) ⟨rfl, rfl, rfl, rfl, rfl, rfl, rfl, rfl, trivial⟩ ?_
                obtain ⟨o1086, ho1086, hB1023⟩ := bnd hB1023
                refine C_cutQ (fun a w' => .inl () = o1086 ∧ Fr 101 a [(1, .pointer (some ⟨b601, 0, none⟩)), (3, .int .i64 (x2.length : Int)), (39, v1), (40, .int .i64 (x2.length : Int)), (41, .int .i64 x939)] ∧ Hp C w' ρ (Box b601 [v1, v4, v7] :: hs)) ?_ ?_
                · refine C_block ?_
                  replace H := H.drop 1 rfl
                  replace H : Hp C wd1066 ρ (Box b601 [v1, v4, v7] :: hs) := H
                  refine C_iter (f := fun s => F_dofferref17_Right_l1 N x2 x939 x1026 s) ho1086 (fun s a w' => ∃ (x1092 : Int), x1092 = s ∧ Fr 101 a [(1, .pointer (some ⟨b601, 0, none⟩)), (3, .int .i64 (x2.length : Int)), (4, .int .i64 x939), (39, v1), (40, .int .i64 (x2.length : Int)), (41, .int .i64 x939), (60, .agg c1029.toArray), (61, .int .i64 x1092)] ∧ Hp C w' ρ (Box b601 [v1, v4, v7] :: hs)) ?_ ?_
                  · exact fun a hf => ⟨0, rfl, hf.sub ⟨rfl, rfl, rfl, rfl, rfl, rfl, rfl, rfl, trivial⟩, H⟩
                  · rintro s o1098 a wd1101 ⟨x1092, rfl, hf, H⟩ hB1099 hO1100
                    replace hB1099 : F_dofferref17_Right_l1 N x2 x939 x1026 x1092 = some o1098 := hB1099
                    unfold F_dofferref17_Right_l1 at hB1099
                    refine CW.at hf ?_
                    refine C_seq ?_
                    refine R_nd ?_
                    refine nq (v := .bool (decide (x1092 < 256))) (Q_lss rfl rfl) rfl rfl ?_
                    refine WL_nil ?_
                    refine x_then ?_
                    refine CW.sub (E' := [(1, .pointer (some ⟨b601, 0, none⟩)), (3, .int .i64 (x2.length : Int)), (4, .int .i64 x939), (39, v1), (40, .int .i64 (x2.length : Int)), (41, .int .i64 x939), (60, .agg c1029.toArray), (61, .int .i64 x1092), (62, .bool (decide (x1092 < 256)))]) ⟨rfl, rfl, rfl, rfl, rfl, rfl, rfl, rfl, rfl, trivial⟩ ?_
                    refine C_seq ?_
                    refine C_cond rfl (fun hb => ?_) (fun hb => ?_)
                    · replace hB1099 := itT hb hB1099
                      refine C_skip ?_
                      refine x_then ?_
                      refine CW.sub (E' := [(1, .pointer (some ⟨b601, 0, none⟩)), (3, .int .i64 (x2.length : Int)), (4, .int .i64 x939), (39, v1), (40, .int .i64 (x2.length : Int)), (41, .int .i64 x939), (60, .agg c1029.toArray), (61, .int .i64 x1092)]) ⟨rfl, rfl, rfl, rfl, rfl, rfl, rfl, rfl, trivial⟩ ?_
                      refine C_seq ?_
                      refine C_block ?_
                      refine C_seq ?_
                      refine R_nd ?_
                      obtain ⟨x1102, hx1102, hB1099⟩ := bnd hB1099
                      refine nq (v := .int .i64 x1102) (Q_ixI hc1030.2 hc1030.1 hx1102 Tryd.underlying57 rfl rfl ty3 rfl) rfl rfl ?_
                      refine nq (v := .int .i64 x1102) (Q_assign rfl) rfl rfl ?_
                      refine WL_nil ?_
                      refine x_then ?_
                      refine CW.sub (E' := [(1, .pointer (some ⟨b601, 0, none⟩)), (3, .int .i64 (x2.length : Int)), (4, .int .i64 x939), (7, .int .i64 x1102), (39, v1), (40, .int .i64 (x2.length : Int)), (41, .int .i64 x939), (60, .agg c1029.toArray), (61, .int .i64 x1092)]) ⟨rfl, rfl, rfl, rfl, rfl, rfl, rfl, rfl, rfl, trivial⟩ ?_
                      obtain ⟨o1104, ho1104, hB1099⟩ := bnd hB1099
                      refine C_cut (fun a w' => ∃ (x1103 : Bool), x1103 = o1104 ∧ Fr 101 a [(1, .pointer (some ⟨b601, 0, none⟩)), (3, .int .i64 (x2.length : Int)), (4, .int .i64 x939), (39, v1), (40, .int .i64 (x2.length : Int)), (41, .int .i64 x939), (60, .agg c1029.toArray), (61, .int .i64 x1092), (78, .bool x1103)] ∧ Hp C w' ρ (Box b601 [v1, v4, v7] :: hs)) ?_ ?_
                      · refine R_nd ?_
                        refine nq (v := .int .i64 x1102) (Q_move rfl) rfl rfl ?_
                        refine nq (v := .bool (decide (x1102 < 0))) (Q_lss rfl rfl) rfl rfl ?_
                        refine nq (v := .bool (decide (x1102 < 0))) (Q_move rfl) rfl rfl ?_
                        rcases Bool.eq_false_or_eq_true (decide (x1102 < 0)) with hb | hb
                        · rw [hb]
                          replace ho1104 := itT hb ho1104
                          refine gs rfl rfl rfl rfl ?_
                          refine gs rfl rfl rfl rfl ?_
                          refine gs rfl rfl rfl rfl ?_
                          refine nq (v := .bool true) (Q_pickT rfl rfl) rfl rfl ?_
                          refine nq (v := .bool true) (Q_move rfl) rfl rfl ?_
                          refine gs rfl rfl rfl rfl ?_
                          refine gs rfl rfl rfl rfl ?_
                          refine gs rfl rfl rfl rfl ?_
                          refine gsu rfl ⟨_, _, rfl, rfl, rfl⟩ rfl ?_
                          refine gsu rfl ⟨_, _, rfl, rfl, rfl⟩ rfl ?_
                          refine gs rfl rfl rfl rfl ?_
                          refine nq (v := .bool true) (Q_pickT rfl rfl) rfl rfl ?_
                          refine WL_nil ?_
                          obtain rfl := Option.some.inj ho1104
                          refine x_A fun a hf => ⟨true, rfl, hf.sub ⟨rfl, rfl, rfl, rfl, rfl, rfl, rfl, rfl, rfl, trivial⟩, H⟩
                        · rw [hb]
                          replace ho1104 := itF hb ho1104
                          refine gq (v := .int .i64 x1102) (Q_move rfl) rfl rfl rfl ?_
                          refine gq (v := .int .i64 (x2.length : Int)) (Q_move rfl) rfl rfl rfl ?_
                          refine gq (v := .bool (decide (x1102 ≥ (x2.length : Int)))) (Q_geq rfl rfl) rfl rfl rfl ?_
                          refine nq (v := .bool (decide (x1102 ≥ (x2.length : Int)))) (Q_pickF rfl rfl) rfl rfl ?_
                          refine nq (v := .bool (decide (x1102 ≥ (x2.length : Int)))) (Q_move rfl) rfl rfl ?_
                          rcases Bool.eq_false_or_eq_true (decide (x1102 ≥ (x2.length : Int))) with hb | hb
                          · rw [hb]
                            replace ho1104 := itT hb ho1104
                            refine gs rfl rfl rfl rfl ?_
                            refine gs rfl rfl rfl rfl ?_
                            refine gs rfl rfl rfl rfl ?_
                            refine gsu rfl ⟨_, _, rfl, rfl, rfl⟩ rfl ?_
                            refine gsu rfl ⟨_, _, rfl, rfl, rfl⟩ rfl ?_
                            refine gs rfl rfl rfl rfl ?_
                            refine nq (v := .bool true) (Q_pickT rfl rfl) rfl rfl ?_
                            refine WL_nil ?_
                            obtain rfl := Option.some.inj ho1104
                            refine x_A fun a hf => ⟨true, rfl, hf.sub ⟨rfl, rfl, rfl, rfl, rfl, rfl, rfl, rfl, rfl, trivial⟩, H⟩
                          · rw [hb]
                            replace ho1104 := itF hb ho1104
                            refine gq (v := .int .i64 x939) (Q_move rfl) rfl rfl rfl ?_
                            refine gq (v := .bool (x939 == 0)) (Q_eql rfl rfl) rfl rfl rfl ?_
                            refine gq (v := .bool (x939 == 0)) (Q_move rfl) rfl rfl rfl ?_
                            rcases Bool.eq_false_or_eq_true (x939 == 0) with hb | hb
                            · rw [hb]
                              replace ho1104 := itT hb ho1104
                              refine gq (v := .int .i64 x1102) (Q_move rfl) rfl rfl rfl ?_
                              refine gq (v := .bool (x1102 != 0)) (Q_neq rfl rfl) rfl rfl rfl ?_
                              refine gq (v := .bool (x1102 != 0)) (Q_pickT rfl rfl) rfl rfl rfl ?_
                              refine nq (v := .bool (x1102 != 0)) (Q_pickF rfl rfl) rfl rfl ?_
                              refine WL_nil ?_
                              obtain rfl := Option.some.inj ho1104
                              refine x_A fun a hf => ⟨x1102 != 0, rfl, hf.sub ⟨rfl, rfl, rfl, rfl, rfl, rfl, rfl, rfl, rfl, trivial⟩, H⟩
                            · rw [hb]
                              replace ho1104 := itF hb ho1104
                              refine gs rfl rfl rfl rfl ?_
                              refine gs rfl rfl rfl rfl ?_
                              refine gq (v := .bool false) (Q_pickF rfl rfl) rfl rfl rfl ?_
                              refine nq (v := .bool false) (Q_pickF rfl rfl) rfl rfl ?_
                              refine WL_nil ?_
                              obtain rfl := Option.some.inj ho1104
                              refine x_A fun a hf => ⟨false, rfl, hf.sub ⟨rfl, rfl, rfl, rfl, rfl, rfl, rfl, rfl, rfl, trivial⟩, H⟩
                      · rintro a wd1105 ⟨x1103, rfl, hf, H⟩
                        try dsimp only at hB1099
                        refine CW.at hf ?_
                        refine C_cond rfl (fun hb => ?_) (fun hb => ?_)
                        · replace hB1099 := itT hb hB1099
                          refine C_seq ?_
                          refine R_nd ?_
                          refine nq (v := .bool false) (Q_assign rfl) rfl rfl ?_
                          refine WL_nil ?_
                          refine x_then ?_
                          refine CW.sub (E' := [(2, .bool false)]) ⟨rfl, trivial⟩ ?_
                          refine C_ret ?_
                          refine x_block_ret ?_
                          refine x_then_ret ?_
                          refine x_then_ret ?_
                          refine x_block_ret ?_
                          refine x_then_ret ?_
                          refine x_block_ret ?_
                          refine x_then_ret ?_
                          refine x_then_ret ?_
                          refine x_block_ret ?_
                          refine x_then_ret ?_
                          refine x_then_ret ?_
                          replace H := H.drop 0 rfl
                          replace H : Hp C wd1105 ρ (hs) := H
                          obtain rfl := Option.some.inj hB1099
                          obtain rfl := hO1100 _ rfl
                          obtain rfl := Option.some.inj (show some _ = some _ from hB1023)
                          obtain rfl := hO1024 _ rfl
                          obtain rfl := Option.some.inj (show some _ = some _ from hF)
                          exact fn_ret (l := [.tmp 2]) (vs := [.bool false]) rfl rfl rfl ⟨false, rfl, rfl, H⟩
                        · replace hB1099 := itF hb hB1099
                          refine C_skip ?_
                          refine x_block ?_
                          refine x_then ?_
                          refine CW.sub (E' := [(1, .pointer (some ⟨b601, 0, none⟩)), (3, .int .i64 (x2.length : Int)), (4, .int .i64 x939), (39, v1), (40, .int .i64 (x2.length : Int)), (41, .int .i64 x939), (60, .agg c1029.toArray), (61, .int .i64 x1092)]) ⟨rfl, rfl, rfl, rfl, rfl, rfl, rfl, rfl, trivial⟩ ?_
                          refine R_nd ?_
                          refine nq (v := .int .i64 (w64 (x1092 + 1))) (Q_add rfl rfl) rfl rfl ?_
                          refine nq (v := .int .i64 (w64 (x1092 + 1))) (Q_move rfl) rfl rfl ?_
                          refine WL_nil ?_
                          obtain rfl := Option.some.inj hB1099
                          refine x_A fun a hf => ⟨_, rfl, w64 (x1092 + 1), rfl, hf.sub ⟨rfl, rfl, rfl, rfl, rfl, rfl, rfl, rfl, trivial⟩, H⟩
                    · replace hB1099 := itF hb hB1099
                      refine C_exit ?_
                      refine x_then_exit ?_
                      refine x_then_exit ?_
                      refine x_block_exit ?_
                      obtain rfl := Option.some.inj hB1099
                      obtain rfl := hO1100 _ rfl
                      refine x_A fun a hf => ⟨rfl, hf.sub ⟨rfl, rfl, rfl, rfl, rfl, trivial⟩, H⟩
                · rintro a wd1106 ⟨rfl, hf, H⟩
                  try dsimp only at hB1023
                  refine XX.at hf ?_
                  refine x_block ?_
                  refine x_then ?_
                  refine CW.sub (E' := [(1, .pointer (some ⟨b601, 0, none⟩)), (3, .int .i64 (x2.length : Int)), (39, v1), (40, .int .i64 (x2.length : Int)), (41, .int .i64 x939)]) ⟨rfl, rfl, rfl, rfl, rfl, trivial⟩ ?_
                  refine R_nd ?_
                  refine nq (v := .int .i64 (w64 (x939 + 1))) (Q_add rfl rfl) rfl rfl ?_
                  refine nq (v := .int .i64 (w64 (x939 + 1))) (Q_move rfl) rfl rfl ?_
                  refine WL_nil ?_
                  obtain rfl := Option.some.inj hB1023
                  refine x_A fun a hf => ⟨_, rfl, w64 (x939 + 1), rfl, hf.sub ⟨rfl, rfl, rfl, rfl, rfl, trivial⟩, H⟩
          · replace hB1023 := itF hb hB1023
            refine C_exit ?_
            refine x_then_exit ?_
            refine x_then_exit ?_
            refine x_block_exit ?_
            obtain rfl := Option.some.inj hB1023
            obtain rfl := hO1024 _ rfl
            refine x_A fun a hf => ⟨rfl, hf.sub ⟨rfl, rfl, trivial⟩, H⟩
      · rintro a wd1107 ⟨rfl, hf, H⟩
        try dsimp only at hF
        refine XX.at hf ?_
        refine x_then ?_
        refine CW.sub (E' := [(1, .pointer (some ⟨b601, 0, none⟩)), (3, .int .i64 (x2.length : Int))]) ⟨rfl, rfl, trivial⟩ ?_
        refine C_seq ?_
        refine C_seq ?_
        refine R_nd ?_
        refine nq (v := .pointer (some ⟨b601, 2, none⟩)) (Q_fld Tryd.underlying29 rfl ty23 (by decide) rfl rfl) rfl rfl ?_
        refine nq (v := v7) (Q_ldB (k := 0) (cs := [v7]) H.ok rfl ty23 rfl rfl rfl (fun _ => rfl) rfl) rfl rfl ?_
        refine nq (v := .int .i64 (x8.length : Int)) (Q_len Tryd.underlying23 rfl r9) rfl rfl ?_
        refine nq (v := .int .i64 0) (Q_move rfl) rfl rfl ?_
        refine WL_nil ?_
        refine x_then ?_
        refine CW.sub (E' := [(1, .pointer (some ⟨b601, 0, none⟩)), (3, .int .i64 (x2.length : Int)), (82, v7), (83, .int .i64 (x8.length : Int)), (84, .int .i64 0)]) ⟨rfl, rfl, rfl, rfl, rfl, trivial⟩ ?_
        obtain ⟨o1145, ho1145, hF⟩ := bnd hF
        refine C_cutQ (fun a w' => .inl () = o1145 ∧ Fr 101 a [(1, .pointer (some ⟨b601, 0, none⟩))] ∧ Hp C w' ρ (Box b601 [v1, v4, v7] :: hs)) ?_ ?_
        · refine C_block ?_
          refine C_iter (f := fun s => F_dofferref17_Right_l2 N x2 x8 s) ho1145 (fun s a w' => ∃ (x1157 : Int), x1157 = s ∧ Fr 101 a [(1, .pointer (some ⟨b601, 0, none⟩)), (3, .int .i64 (x2.length : Int)), (82, v7), (83, .int .i64 (x8.length : Int)), (84, .int .i64 x1157)] ∧ Hp C w' ρ (Box b601 [v1, v4, v7] :: hs)) ?_ ?_
          · exact fun a hf => ⟨0, rfl, hf.sub ⟨rfl, rfl, rfl, rfl, rfl, trivial⟩, H⟩
          · rintro s o1169 a wd1172 ⟨x1157, rfl, hf, H⟩ hB1170 hO1171
            replace hB1170 : F_dofferref17_Right_l2 N x2 x8 x1157 = some o1169 := hB1170
            unfold F_dofferref17_Right_l2 at hB1170
            refine CW.at hf ?_
            refine C_seq ?_
            refine R_nd ?_
            refine nq (v := .bool (decide (x1157 < (x8.length : Int)))) (Q_lss rfl rfl) rfl rfl ?_
            refine WL_nil ?_
            refine x_then ?_
            refine CW.sub (E' := [(1, .pointer (some ⟨b601, 0, none⟩)), (3, .int .i64 (x2.length : Int)), (82, v7), (83, .int .i64 (x8.length : Int)), (84, .int .i64 x1157), (85, .bool (decide (x1157 < (x8.length : Int))))]) ⟨rfl, rfl, rfl, rfl, rfl, rfl, trivial⟩ ?_
            refine C_seq ?_
            refine C_cond rfl (fun hb => ?_) (fun hb => ?_)
            · replace hB1170 := itT hb hB1170
              refine C_skip ?_
              refine x_then ?_
              refine CW.sub (E' := [(1, .pointer (some ⟨b601, 0, none⟩)), (3, .int .i64 (x2.length : Int)), (82, v7), (83, .int .i64 (x8.length : Int)), (84, .int .i64 x1157)]) ⟨rfl, rfl, rfl, rfl, rfl, trivial⟩ ?_
              refine C_seq ?_
              refine C_block ?_
              refine C_seq ?_
              refine R_nd ?_
              obtain ⟨x1173, hx1173, hB1170⟩ := bnd hB1170
              obtain ⟨b1174, o1175, c1176, hc1177, ha1178, hi1179⟩ := idxR r9 hx1173
              refine nq (v := .pointer (some ⟨b1174, o1175, none⟩)) (Q_idx hi1179 Tryd.underlying23 ty3 rfl rfl) rfl rfl ?_
              refine nq (v := .int .i64 x1173) (Q_ld (show cellsAt _ _ _ [.int .i64 x1173] from (show _ = [_] from hc1177) ▸ (ha1178.up H.ok.view)) ty3 rfl (fun _ => rfl) rfl rfl) rfl rfl ?_
              refine nq (v := .int .i64 x1173) (Q_assign rfl) rfl rfl ?_
              refine WL_nil ?_
              refine x_then ?_
              refine CW.sub (E' := [(1, .pointer (some ⟨b601, 0, none⟩)), (3, .int .i64 (x2.length : Int)), (9, .int .i64 x1173), (82, v7), (83, .int .i64 (x8.length : Int)), (84, .int .i64 x1157)]) ⟨rfl, rfl, rfl, rfl, rfl, rfl, trivial⟩ ?_
              obtain ⟨o1181, ho1181, hB1170⟩ := bnd hB1170
              refine C_cut (fun a w' => ∃ (x1180 : Bool), x1180 = o1181 ∧ Fr 101 a [(1, .pointer (some ⟨b601, 0, none⟩)), (3, .int .i64 (x2.length : Int)), (82, v7), (83, .int .i64 (x8.length : Int)), (84, .int .i64 x1157), (94, .bool x1180)] ∧ Hp C w' ρ (Box b601 [v1, v4, v7] :: hs)) ?_ ?_
              · refine R_nd ?_
                refine nq (v := .int .i64 x1173) (Q_move rfl) rfl rfl ?_
                refine nq (v := .bool (decide (x1173 < 0))) (Q_lss rfl rfl) rfl rfl ?_
                refine nq (v := .bool (decide (x1173 < 0))) (Q_move rfl) rfl rfl ?_
                rcases Bool.eq_false_or_eq_true (decide (x1173 < 0)) with hb | hb
                · rw [hb]
                  replace ho1181 := itT hb ho1181
                  refine gs rfl rfl rfl rfl ?_
                  refine gs rfl rfl rfl rfl ?_
                  refine gs rfl rfl rfl rfl ?_
                  refine nq (v := .bool true) (Q_pickT rfl rfl) rfl rfl ?_
                  refine WL_nil ?_
                  obtain rfl := Option.some.inj ho1181
                  refine x_A fun a hf => ⟨true, rfl, hf.sub ⟨rfl, rfl, rfl, rfl, rfl, rfl, trivial⟩, H⟩
                · rw [hb]
                  replace ho1181 := itF hb ho1181
                  refine gq (v := .int .i64 x1173) (Q_move rfl) rfl rfl rfl ?_
                  refine gq (v := .int .i64 (x2.length : Int)) (Q_move rfl) rfl rfl rfl ?_
                  refine gq (v := .bool (decide (x1173 ≥ (x2.length : Int)))) (Q_geq rfl rfl) rfl rfl rfl ?_
                  refine nq (v := .bool (decide (x1173 ≥ (x2.length : Int)))) (Q_pickF rfl rfl) rfl rfl ?_
                  refine WL_nil ?_
                  obtain rfl := Option.some.inj ho1181
                  refine x_A fun a hf => ⟨decide (x1173 ≥ (x2.length : Int)), rfl, hf.sub ⟨rfl, rfl, rfl, rfl, rfl, rfl, trivial⟩, H⟩
              · rintro a wd1182 ⟨x1180, rfl, hf, H⟩
                try dsimp only at hB1170
                refine CW.at hf ?_
                refine C_cond rfl (fun hb => ?_) (fun hb => ?_)
                · replace hB1170 := itT hb hB1170
                  refine C_seq ?_
                  refine R_nd ?_
                  refine nq (v := .bool false) (Q_assign rfl) rfl rfl ?_
                  refine WL_nil ?_
                  refine x_then ?_
                  refine CW.sub (E' := [(2, .bool false)]) ⟨rfl, trivial⟩ ?_
                  refine C_ret ?_
                  refine x_block_ret ?_
                  refine x_then_ret ?_
                  refine x_then_ret ?_
                  refine x_block_ret ?_
                  refine x_then_ret ?_
                  refine x_then_ret ?_
                  replace H := H.drop 0 rfl
                  replace H : Hp C wd1182 ρ (hs) := H
                  obtain rfl := Option.some.inj hB1170
                  obtain rfl := hO1171 _ rfl
                  obtain rfl := Option.some.inj (show some _ = some _ from hF)
                  exact fn_ret (l := [.tmp 2]) (vs := [.bool false]) rfl rfl rfl ⟨false, rfl, rfl, H⟩
                · replace hB1170 := itF hb hB1170
                  refine C_skip ?_
                  refine x_block ?_
                  refine x_then ?_
                  refine CW.sub (E' := [(1, .pointer (some ⟨b601, 0, none⟩)), (3, .int .i64 (x2.length : Int)), (82, v7), (83, .int .i64 (x8.length : Int)), (84, .int .i64 x1157)]) ⟨rfl, rfl, rfl, rfl, rfl, trivial⟩ ?_
                  refine R_nd ?_
                  refine nq (v := .int .i64 (w64 (x1157 + 1))) (Q_add rfl rfl) rfl rfl ?_
                  refine nq (v := .int .i64 (w64 (x1157 + 1))) (Q_move rfl) rfl rfl ?_
                  refine WL_nil ?_
                  obtain rfl := Option.some.inj hB1170
                  refine x_A fun a hf => ⟨_, rfl, w64 (x1157 + 1), rfl, hf.sub ⟨rfl, rfl, rfl, rfl, rfl, trivial⟩, H⟩
            · replace hB1170 := itF hb hB1170
              refine C_exit ?_
              refine x_then_exit ?_
              refine x_then_exit ?_
              refine x_block_exit ?_
              obtain rfl := Option.some.inj hB1170
              obtain rfl := hO1171 _ rfl
              refine x_A fun a hf => ⟨rfl, hf.sub ⟨rfl, trivial⟩, H⟩
        · rintro a wd1183 ⟨rfl, hf, H⟩
          try dsimp only at hF
          refine XX.at hf ?_
          refine x_then ?_
          refine CW.sub (E' := [(1, .pointer (some ⟨b601, 0, none⟩))]) ⟨rfl, trivial⟩ ?_
          refine C_seq ?_
          refine R_nd ?_
          refine nq (v := .pointer (some ⟨b601, 1, none⟩)) (Q_fld Tryd.underlying29 rfl ty23 (by decide) rfl rfl) rfl rfl ?_
          refine nq (v := v4) (Q_ldB (k := 0) (cs := [v4]) H.ok rfl ty23 rfl rfl rfl (fun _ => rfl) rfl) rfl rfl ?_
          obtain ⟨x1184, hx1184, hF⟩ := bnd hF
          obtain ⟨b1185, o1186, c1187, hc1188, ha1189, hi1190⟩ := idxR r6 hx1184
          refine nq (v := .pointer (some ⟨b1185, o1186, none⟩)) (Q_idx hi1190 Tryd.underlying23 ty3 rfl rfl) rfl rfl ?_
          refine nq (v := .int .i64 x1184) (Q_ld (show cellsAt _ _ _ [.int .i64 x1184] from (show _ = [_] from hc1188) ▸ (ha1189.up H.ok.view)) ty3 rfl (fun _ => rfl) rfl rfl) rfl rfl ?_
          refine nq (v := .bool (x1184 == (-1))) (Q_eql rfl rfl) rfl rfl ?_
          refine nq (v := .bool (x1184 == (-1))) (Q_assign rfl) rfl rfl ?_
          refine WL_nil ?_
          refine x_then ?_
          refine CW.sub (E' := [(2, .bool (x1184 == (-1)))]) ⟨rfl, trivial⟩ ?_
          refine C_ret ?_
          replace H := H.drop 0 rfl
          replace H : Hp C wd1183 ρ (hs) := H
          obtain rfl := Option.some.inj hF
          exact fn_ret (l := [.tmp 2]) (vs := [.bool (x1184 == (-1))]) rfl rfl rfl ⟨x1184 == (-1), rfl, rfl, H⟩
theorem c_77 {N : Nat} {C : Cx} {w : World} {ρ : View} {hs : List Hl} {b1 : Nat} {c2 : List Value} {v5 : Value} {x3 : (List Int)} {x6 : Int} (H : Hp C w ρ (Box b1 [v5, .int .i64 x6] :: Arr v5 1 c2 :: hs)) (r4 : rdL (eI .u64) ρ x3 c2) {r : Unit} (hF : F_marks_Marks_own N x3 x6 = some r) :
    Calls Tryd.prog 77 [.pointer (some ⟨b1, 0, none⟩)].toArray w (Rets (fun v w' => (() = r ∧ v5 = v ∧ Hp C w' ρ (Box b1 [v5, .int .i64 x6] :: Arr v5 1 c2 :: hs)))) := by
  unfold F_marks_Marks_own at hF
  have h0 : Tryd.f77.body = some _ := rfl
  refine fn_calls' Tryd.func77 h0 (n := 9) rfl (by simp) ?_
  refine C_seq ?_
  refine R_nd ?_
  refine nq (v := .slice none 0 0) (Q_assign rfl) rfl rfl ?_
  refine WL_nil ?_
  refine x_then ?_
  refine CW.sub (E' := [(0, .pointer (some ⟨b1, 0, none⟩))]) ⟨rfl, trivial⟩ ?_
  refine C_seq ?_
  refine C_seq ?_
  refine R_nd ?_
  refine nq (v := .pointer (some ⟨b1, 0, none⟩)) (Q_move rfl) rfl rfl ?_
  refine nq (v := .bool false) (Q_eqlP (o := (some ⟨b1, 0, none⟩)) Tryd.underlying61 rfl) rfl rfl ?_
  refine WL_nil ?_
  refine x_then ?_
  refine CW.sub (E' := [(0, .pointer (some ⟨b1, 0, none⟩)), (4, .bool false)]) ⟨rfl, rfl, trivial⟩ ?_
  refine C_cond rfl (fun h => nomatch h) (fun _ => ?_)
  refine C_skip ?_
  refine x_then ?_
  refine CW.sub (E' := [(0, .pointer (some ⟨b1, 0, none⟩))]) ⟨rfl, trivial⟩ ?_
  refine C_seq ?_
  refine R_nd ?_
  refine nq (v := .pointer (some ⟨b1, 0, none⟩)) (Q_move rfl) rfl rfl ?_
  refine nq (v := .pointer (some ⟨b1, 0, none⟩)) (Q_nilP rfl) rfl rfl ?_
  refine nq (v := .pointer (some ⟨b1, 0, none⟩)) (Q_fld Tryd.underlying94 rfl ty92 (by decide) rfl rfl) rfl rfl ?_
  refine nq (v := v5) (Q_ldB (k := 0) (cs := [v5]) H.ok rfl ty92 rfl rfl rfl (fun _ => rfl) rfl) rfl rfl ?_
  refine nq (v := v5) (Q_assign rfl) rfl rfl ?_
  refine WL_nil ?_
  refine x_then ?_
  refine CW.sub (E' := [(2, v5)]) ⟨rfl, trivial⟩ ?_
  refine C_ret ?_
  replace H := H.front 1 rfl
  replace H : Hp C w ρ (Arr v5 1 c2 :: Box b1 [v5, .int .i64 x6] :: hs) := H
  replace H := H.front 1 rfl
  replace H : Hp C w ρ (Box b1 [v5, .int .i64 x6] :: Arr v5 1 c2 :: hs) := H
  obtain rfl := Option.some.inj hF
  exact fn_ret (l := [.tmp 2]) (vs := [v5]) rfl rfl rfl ⟨rfl, rfl, H⟩
theorem c_78 {N : Nat} {C : Cx} {w : World} {ρ : View} {hs : List Hl} {x1 : Int} (H : Hp C w ρ (hs)) {r : Int} (hF : F_math_bits_OnesCount64 N x1 = some r) :
    Calls Tryd.prog 78 [.int .u64 x1].toArray w (Rets (fun v w' => (∃ (x2 : Int), x2 = r ∧ .int .i64 x2 = v ∧ Hp C w' ρ (hs)))) := by
  unfold F_math_bits_OnesCount64 at hF
  have h0 : Tryd.f78.body = some _ := rfl
  refine fn_calls' Tryd.func78 h0 (n := 35) rfl (by simp) ?_
  refine C_seq ?_
  refine R_nd ?_
  refine nq (v := .int .i64 0) (Q_assign rfl) rfl rfl ?_
  refine WL_nil ?_
  refine x_then ?_
  refine CW.sub (E' := [(0, .int .u64 x1)]) ⟨rfl, trivial⟩ ?_
  refine C_seq ?_
  refine R_nd ?_
  refine nq (v := .int .u64 x1) (Q_move rfl) rfl rfl ?_
  refine nq (v := .int .u64 (shrI .u64 x1 1)) (Q_shr rfl rfl (by decide)) rfl rfl ?_
  refine nq (v := .int .u64 (iand .u64 (shrI .u64 x1 1) 6148914691236517205)) (Q_and rfl rfl) rfl rfl ?_
  refine nq (v := .int .u64 x1) (Q_move rfl) rfl rfl ?_
  refine nq (v := .int .u64 (iand .u64 x1 6148914691236517205)) (Q_and rfl rfl) rfl rfl ?_
  refine nq (v := .int .u64 (IntKind.wrap .u64 ((iand .u64 (shrI .u64 x1 1) 6148914691236517205) + (iand .u64 x1 6148914691236517205)))) (Q_add rfl rfl) rfl rfl ?_
  refine nq (v := .int .u64 (IntKind.wrap .u64 ((iand .u64 (shrI .u64 x1 1) 6148914691236517205) + (iand .u64 x1 6148914691236517205)))) (Q_assign rfl) rfl rfl ?_
  refine WL_nil ?_
  refine x_then ?_
  refine CW.sub (E' := [(0, .int .u64 (IntKind.wrap .u64 ((iand .u64 (shrI .u64 x1 1) 6148914691236517205) + (iand .u64 x1 6148914691236517205))))]) ⟨rfl, trivial⟩ ?_
  refine C_seq ?_
  refine R_nd ?_
  refine nq (v := .int .u64 (IntKind.wrap .u64 ((iand .u64 (shrI .u64 x1 1) 6148914691236517205) + (iand .u64 x1 6148914691236517205)))) (Q_move rfl) rfl rfl ?_
  refine nq (v := .int .u64 (shrI .u64 (IntKind.wrap .u64 ((iand .u64 (shrI .u64 x1 1) 6148914691236517205) + (iand .u64 x1 6148914691236517205))) 2)) (Q_shr rfl rfl (by decide)) rfl rfl ?_
  refine nq (v := .int .u64 (iand .u64 (shrI .u64 (IntKind.wrap .u64 ((iand .u64 (shrI .u64 x1 1) 6148914691236517205) + (iand .u64 x1 6148914691236517205))) 2) 3689348814741910323)) (Q_and rfl rfl) rfl rfl ?_
  refine nq (v := .int .u64 (IntKind.wrap .u64 ((iand .u64 (shrI .u64 x1 1) 6148914691236517205) + (iand .u64 x1 6148914691236517205)))) (Q_move rfl) rfl rfl ?_
  refine nq (v := .int .u64 (iand .u64 (IntKind.wrap .u64 ((iand .u64 (shrI .u64 x1 1) 6148914691236517205) + (iand .u64 x1 6148914691236517205))) 3689348814741910323)) (Q_and rfl rfl) rfl rfl ?_
  refine nq (v := .int .u64 (IntKind.wrap .u64 ((iand .u64 (shrI .u64 (IntKind.wrap .u64 ((iand .u64 (shrI .u64 x1 1) 6148914691236517205) + (iand .u64 x1 6148914691236517205))) 2) 3689348814741910323) + (iand .u64 (IntKind.wrap .u64 ((iand .u64 (shrI .u64 x1 1) 6148914691236517205) + (iand .u64 x1 6148914691236517205))) 3689348814741910323)))) (Q_add rfl rfl) rfl rfl ?_
  refine nq (v := .int .u64 (IntKind.wrap .u64 ((iand .u64 (shrI .u64 (IntKind.wrap .u64 ((iand .u64 (shrI .u64 x1 1) 6148914691236517205) + (iand .u64 x1 6148914691236517205))) 2) 3689348814741910323) + (iand .u64 (IntKind.wrap .u64 ((iand .u64 (shrI .u64 x1 1) 6148914691236517205) + (iand .u64 x1 6148914691236517205))) 3689348814741910323)))) (Q_assign rfl) rfl rfl ?_
  refine WL_nil ?_
  refine x_then ?_
  refine CW.sub (E' := [(0, .int .u64 (IntKind.wrap .u64 ((iand .u64 (shrI .u64 (IntKind.wrap .u64 ((iand .u64 (shrI .u64 x1 1) 6148914691236517205) + (iand .u64 x1 6148914691236517205))) 2) 3689348814741910323) + (iand .u64 (IntKind.wrap .u64 ((iand .u64 (shrI .u64 x1 1) 6148914691236517205) + (iand .u64 x1 6148914691236517205))) 3689348814741910323))))]) ⟨rfl, trivial⟩ ?_
  refine C_seq ?_
  refine R_nd ?_
  refine nq (v := .int .u64 (IntKind.wrap .u64 ((iand .u64 (shrI .u64 (IntKind.wrap .u64 ((iand .u64 (shrI .u64 x1 1) 6148914691236517205) + (iand .u64 x1 6148914691236517205))) 2) 3689348814741910323) + (iand .u64 (IntKind.wrap .u64 ((iand .u64 (shrI .u64 x1 1) 6148914691236517205) + (iand .u64 x1 6148914691236517205))) 3689348814741910323)))) (Q_move rfl) rfl rfl ?_
  refine nq (v := .int .u64 (shrI .u64 (IntKind.wrap .u64 ((iand .u64 (shrI .u64 (IntKind.wrap .u64 ((iand .u64 (shrI .u64 x1 1) 6148914691236517205) + (iand .u64 x1 6148914691236517205))) 2) 3689348814741910323) + (iand .u64 (IntKind.wrap .u64 ((iand .u64 (shrI .u64 x1 1) 6148914691236517205) + (iand .u64 x1 6148914691236517205))) 3689348814741910323))) 4)) (Q_shr rfl rfl (by decide)) rfl rfl ?_
  refine nq (v := .int .u64 (IntKind.wrap .u64 ((iand .u64 (shrI .u64 (IntKind.wrap .u64 ((iand .u64 (shrI .u64 x1 1) 6148914691236517205) + (iand .u64 x1 6148914691236517205))) 2) 3689348814741910323) + (iand .u64 (IntKind.wrap .u64 ((iand .u64 (shrI .u64 x1 1) 6148914691236517205) + (iand .u64 x1 6148914691236517205))) 3689348814741910323)))) (Q_move rfl) rfl rfl ?_
  refine nq (v := .int .u64 (IntKind.wrap .u64 ((shrI .u64 (IntKind.wrap .u64 ((iand .u64 (shrI .u64 (IntKind.wrap .u64 ((iand .u64 (shrI .u64 x1 1) 6148914691236517205) + (iand .u64 x1 6148914691236517205))) 2) 3689348814741910323) + (iand .u64 (IntKind.wrap .u64 ((iand .u64 (shrI .u64 x1 1) 6148914691236517205) + (iand .u64 x1 6148914691236517205))) 3689348814741910323))) 4) + (IntKind.wrap .u64 ((iand .u64 (shrI .u64 (IntKind.wrap .u64 ((iand .u64 (shrI .u64 x1 1) 6148914691236517205) + (iand .u64 x1 6148914691236517205))) 2) 3689348814741910323) + (iand .u64 (IntKind.wrap .u64 ((iand .u64 (shrI .u64 x1 1) 6148914691236517205) + (iand .u64 x1 6148914691236517205))) 3689348814741910323)))))) (Q_add rfl rfl) rfl rfl ?_
  refine nq (v := .int .u64 (iand .u64 (IntKind.wrap .u64 ((shrI .u64 (IntKind.wrap .u64 ((iand .u64 (shrI .u64 (IntKind.wrap .u64 ((iand .u64 (shrI .u64 x1 1) 6148914691236517205) + (iand .u64 x1 6148914691236517205))) 2) 3689348814741910323) + (iand .u64 (IntKind.wrap .u64 ((iand .u64 (shrI .u64 x1 1) 6148914691236517205) + (iand .u64 x1 6148914691236517205))) 3689348814741910323))) 4) + (IntKind.wrap .u64 ((iand .u64 (shrI .u64 (IntKind.wrap .u64 ((iand .u64 (shrI .u64 x1 1) 6148914691236517205) + (iand .u64 x1 6148914691236517205))) 2) 3689348814741910323) + (iand .u64 (IntKind.wrap .u64 ((iand .u64 (shrI .u64 x1 1) 6148914691236517205) + (iand .u64 x1 6148914691236517205))) 3689348814741910323))))) 1085102592571150095)) (Q_and rfl rfl) rfl rfl ?_
  refine nq (v := .int .u64 (iand .u64 (IntKind.wrap .u64 ((shrI .u64 (IntKind.wrap .u64 ((iand .u64 (shrI .u64 (IntKind.wrap .u64 ((iand .u64 (shrI .u64 x1 1) 6148914691236517205) + (iand .u64 x1 6148914691236517205))) 2) 3689348814741910323) + (iand .u64 (IntKind.wrap .u64 ((iand .u64 (shrI .u64 x1 1) 6148914691236517205) + (iand .u64 x1 6148914691236517205))) 3689348814741910323))) 4) + (IntKind.wrap .u64 ((iand .u64 (shrI .u64 (IntKind.wrap .u64 ((iand .u64 (shrI .u64 x1 1) 6148914691236517205) + (iand .u64 x1 6148914691236517205))) 2) 3689348814741910323) + (iand .u64 (IntKind.wrap .u64 ((iand .u64 (shrI .u64 x1 1) 6148914691236517205) + (iand .u64 x1 6148914691236517205))) 3689348814741910323))))) 1085102592571150095)) (Q_assign rfl) rfl rfl ?_
  refine WL_nil ?_
  refine x_then ?_
  refine CW.sub (E' := [(0, .int .u64 (iand .u64 (IntKind.wrap .u64 ((shrI .u64 (IntKind.wrap .u64 ((iand .u64 (shrI .u64 (IntKind.wrap .u64 ((iand .u64 (shrI .u64 x1 1) 6148914691236517205) + (iand .u64 x1 6148914691236517205))) 2) 3689348814741910323) + (iand .u64 (IntKind.wrap .u64 ((iand .u64 (shrI .u64 x1 1) 6148914691236517205) + (iand .u64 x1 6148914691236517205))) 3689348814741910323))) 4) + (IntKind.wrap .u64 ((iand .u64 (shrI .u64 (IntKind.wrap .u64 ((iand .u64 (shrI .u64 x1 1) 6148914691236517205) + (iand .u64 x1 6148914691236517205))) 2) 3689348814741910323) + (iand .u64 (IntKind.wrap .u64 ((iand .u64 (shrI .u64 x1 1) 6148914691236517205) + (iand .u64 x1 6148914691236517205))) 3689348814741910323))))) 1085102592571150095))]) ⟨rfl, trivial⟩ ?_
  refine C_seq ?_
  refine R_nd ?_
  refine nq (v := .int .u64 (iand .u64 (IntKind.wrap .u64 ((shrI .u64 (IntKind.wrap .u64 ((iand .u64 (shrI .u64 (IntKind.wrap .u64 ((iand .u64 (shrI .u64 x1 1) 6148914691236517205) + (iand .u64 x1 6148914691236517205))) 2) 3689348814741910323) + (iand .u64 (IntKind.wrap .u64 ((iand .u64 (shrI .u64 x1 1) 6148914691236517205) + (iand .u64 x1 6148914691236517205))) 3689348814741910323))) 4) + (IntKind.wrap .u64 ((iand .u64 (shrI .u64 (IntKind.wrap .u64 ((iand .u64 (shrI .u64 x1 1) 6148914691236517205) + (iand .u64 x1 6148914691236517205))) 2) 3689348814741910323) + (iand .u64 (IntKind.wrap .u64 ((iand .u64 (shrI .u64 x1 1) 6148914691236517205) + (iand .u64 x1 6148914691236517205))) 3689348814741910323))))) 1085102592571150095)) (Q_move rfl) rfl rfl ?_
  refine nq (v := .int .u64 (iand .u64 (IntKind.wrap .u64 ((shrI .u64 (IntKind.wrap .u64 ((iand .u64 (shrI .u64 (IntKind.wrap .u64 ((iand .u64 (shrI .u64 x1 1) 6148914691236517205) + (iand .u64 x1 6148914691236517205))) 2) 3689348814741910323) + (iand .u64 (IntKind.wrap .u64 ((iand .u64 (shrI .u64 x1 1) 6148914691236517205) + (iand .u64 x1 6148914691236517205))) 3689348814741910323))) 4) + (IntKind.wrap .u64 ((iand .u64 (shrI .u64 (IntKind.wrap .u64 ((iand .u64 (shrI .u64 x1 1) 6148914691236517205) + (iand .u64 x1 6148914691236517205))) 2) 3689348814741910323) + (iand .u64 (IntKind.wrap .u64 ((iand .u64 (shrI .u64 x1 1) 6148914691236517205) + (iand .u64 x1 6148914691236517205))) 3689348814741910323))))) 1085102592571150095)) (Q_move rfl) rfl rfl ?_
  refine nq (v := .int .u64 (shrI .u64 (iand .u64 (IntKind.wrap .u64 ((shrI .u64 (IntKind.wrap .u64 ((iand .u64 (shrI .u64 (IntKind.wrap .u64 ((iand .u64 (shrI .u64 x1 1) 6148914691236517205) + (iand .u64 x1 6148914691236517205))) 2) 3689348814741910323) + (iand .u64 (IntKind.wrap .u64 ((iand .u64 (shrI .u64 x1 1) 6148914691236517205) + (iand .u64 x1 6148914691236517205))) 3689348814741910323))) 4) + (IntKind.wrap .u64 ((iand .u64 (shrI .u64 (IntKind.wrap .u64 ((iand .u64 (shrI .u64 x1 1) 6148914691236517205) + (iand .u64 x1 6148914691236517205))) 2) 3689348814741910323) + (iand .u64 (IntKind.wrap .u64 ((iand .u64 (shrI .u64 x1 1) 6148914691236517205) + (iand .u64 x1 6148914691236517205))) 3689348814741910323))))) 1085102592571150095) 8)) (Q_shr rfl rfl (by decide)) rfl rfl ?_
  refine nq (v := .int .u64 (IntKind.wrap .u64 ((iand .u64 (IntKind.wrap .u64 ((shrI .u64 (IntKind.wrap .u64 ((iand .u64 (shrI .u64 (IntKind.wrap .u64 ((iand .u64 (shrI .u64 x1 1) 6148914691236517205) + (iand .u64 x1 6148914691236517205))) 2) 3689348814741910323) + (iand .u64 (IntKind.wrap .u64 ((iand .u64 (shrI .u64 x1 1) 6148914691236517205) + (iand .u64 x1 6148914691236517205))) 3689348814741910323))) 4) + (IntKind.wrap .u64 ((iand .u64 (shrI .u64 (IntKind.wrap .u64 ((iand .u64 (shrI .u64 x1 1) 6148914691236517205) + (iand .u64 x1 6148914691236517205))) 2) 3689348814741910323) + (iand .u64 (IntKind.wrap .u64 ((iand .u64 (shrI .u64 x1 1) 6148914691236517205) + (iand .u64 x1 6148914691236517205))) 3689348814741910323))))) 1085102592571150095) + (shrI .u64 (iand .u64 (IntKind.wrap .u64 ((shrI .u64 (IntKind.wrap .u64 ((iand .u64 (shrI .u64 (IntKind.wrap .u64 ((iand .u64 (shrI .u64 x1 1) 6148914691236517205) + (iand .u64 x1 6148914691236517205))) 2) 3689348814741910323) + (iand .u64 (IntKind.wrap .u64 ((iand .u64 (shrI .u64 x1 1) 6148914691236517205) + (iand .u64 x1 6148914691236517205))) 3689348814741910323))) 4) + (IntKind.wrap .u64 ((iand .u64 (shrI .u64 (IntKind.wrap .u64 ((iand .u64 (shrI .u64 x1 1) 6148914691236517205) + (iand .u64 x1 6148914691236517205))) 2) 3689348814741910323) + (iand .u64 (IntKind.wrap .u64 ((iand .u64 (shrI .u64 x1 1) 6148914691236517205) + (iand .u64 x1 6148914691236517205))) 3689348814741910323))))) 1085102592571150095) 8)))) (Q_add rfl rfl) rfl rfl ?_
  refine nq (v := .int .u64 (IntKind.wrap .u64 ((iand .u64 (IntKind.wrap .u64 ((shrI .u64 (IntKind.wrap .u64 ((iand .u64 (shrI .u64 (IntKind.wrap .u64 ((iand .u64 (shrI .u64 x1 1) 6148914691236517205) + (iand .u64 x1 6148914691236517205))) 2) 3689348814741910323) + (iand .u64 (IntKind.wrap .u64 ((iand .u64 (shrI .u64 x1 1) 6148914691236517205) + (iand .u64 x1 6148914691236517205))) 3689348814741910323))) 4) + (IntKind.wrap .u64 ((iand .u64 (shrI .u64 (IntKind.wrap .u64 ((iand .u64 (shrI .u64 x1 1) 6148914691236517205) + (iand .u64 x1 6148914691236517205))) 2) 3689348814741910323) + (iand .u64 (IntKind.wrap .u64 ((iand .u64 (shrI .u64 x1 1) 6148914691236517205) + (iand .u64 x1 6148914691236517205))) 3689348814741910323))))) 1085102592571150095) + (shrI .u64 (iand .u64 (IntKind.wrap .u64 ((shrI .u64 (IntKind.wrap .u64 ((iand .u64 (shrI .u64 (IntKind.wrap .u64 ((iand .u64 (shrI .u64 x1 1) 6148914691236517205) + (iand .u64 x1 6148914691236517205))) 2) 3689348814741910323) + (iand .u64 (IntKind.wrap .u64 ((iand .u64 (shrI .u64 x1 1) 6148914691236517205) + (iand .u64 x1 6148914691236517205))) 3689348814741910323))) 4) + (IntKind.wrap .u64 ((iand .u64 (shrI .u64 (IntKind.wrap .u64 ((iand .u64 (shrI .u64 x1 1) 6148914691236517205) + (iand .u64 x1 6148914691236517205))) 2) 3689348814741910323) + (iand .u64 (IntKind.wrap .u64 ((iand .u64 (shrI .u64 x1 1) 6148914691236517205) + (iand .u64 x1 6148914691236517205))) 3689348814741910323))))) 1085102592571150095) 8)))) (Q_assign rfl) rfl rfl ?_
  refine WL_nil ?_
  refine x_then ?_
  refine CW.sub (E' := [(0, .int .u64 (IntKind.wrap .u64 ((iand .u64 (IntKind.wrap .u64 ((shrI .u64 (IntKind.wrap .u64 ((iand .u64 (shrI .u64 (IntKind.wrap .u64 ((iand .u64 (shrI .u64 x1 1) 6148914691236517205) + (iand .u64 x1 6148914691236517205))) 2) 3689348814741910323) + (iand .u64 (IntKind.wrap .u64 ((iand .u64 (shrI .u64 x1 1) 6148914691236517205) + (iand .u64 x1 6148914691236517205))) 3689348814741910323))) 4) + (IntKind.wrap .u64 ((iand .u64 (shrI .u64 (IntKind.wrap .u64 ((iand .u64 (shrI .u64 x1 1) 6148914691236517205) + (iand .u64 x1 6148914691236517205))) 2) 3689348814741910323) + (iand .u64 (IntKind.wrap .u64 ((iand .u64 (shrI .u64 x1 1) 6148914691236517205) + (iand .u64 x1 6148914691236517205))) 3689348814741910323))))) 1085102592571150095) + (shrI .u64 (iand .u64 (IntKind.wrap .u64 ((shrI .u64 (IntKind.wrap .u64 ((iand .u64 (shrI .u64 (IntKind.wrap .u64 ((iand .u64 (shrI .u64 x1 1) 6148914691236517205) + (iand .u64 x1 6148914691236517205))) 2) 3689348814741910323) + (iand .u64 (IntKind.wrap .u64 ((iand .u64 (shrI .u64 x1 1) 6148914691236517205) + (iand .u64 x1 6148914691236517205))) 3689348814741910323))) 4) + (IntKind.wrap .u64 ((iand .u64 (shrI .u64 (IntKind.wrap .u64 ((iand .u64 (shrI .u64 x1 1) 6148914691236517205) + (iand .u64 x1 6148914691236517205))) 2) 3689348814741910323) + (iand .u64 (IntKind.wrap .u64 ((iand .u64 (shrI .u64 x1 1) 6148914691236517205) + (iand .u64 x1 6148914691236517205))) 3689348814741910323))))) 1085102592571150095) 8))))]) ⟨rfl, trivial⟩ ?_
  refine C_seq ?_
  refine R_nd ?_
  refine nq (v := .int .u64 (IntKind.wrap .u64 ((iand .u64 (IntKind.wrap .u64 ((shrI .u64 (IntKind.wrap .u64 ((iand .u64 (shrI .u64 (IntKind.wrap .u64 ((iand .u64 (shrI .u64 x1 1) 6148914691236517205) + (iand .u64 x1 6148914691236517205))) 2) 3689348814741910323) + (iand .u64 (IntKind.wrap .u64 ((iand .u64 (shrI .u64 x1 1) 6148914691236517205) + (iand .u64 x1 6148914691236517205))) 3689348814741910323))) 4) + (IntKind.wrap .u64 ((iand .u64 (shrI .u64 (IntKind.wrap .u64 ((iand .u64 (shrI .u64 x1 1) 6148914691236517205) + (iand .u64 x1 6148914691236517205))) 2) 3689348814741910323) + (iand .u64 (IntKind.wrap .u64 ((iand .u64 (shrI .u64 x1 1) 6148914691236517205) + (iand .u64 x1 6148914691236517205))) 3689348814741910323))))) 1085102592571150095) + (shrI .u64 (iand .u64 (IntKind.wrap .u64 ((shrI .u64 (IntKind.wrap .u64 ((iand .u64 (shrI .u64 (IntKind.wrap .u64 ((iand .u64 (shrI .u64 x1 1) 6148914691236517205) + (iand .u64 x1 6148914691236517205))) 2) 3689348814741910323) + (iand .u64 (IntKind.wrap .u64 ((iand .u64 (shrI .u64 x1 1) 6148914691236517205) + (iand .u64 x1 6148914691236517205))) 3689348814741910323))) 4) + (IntKind.wrap .u64 ((iand .u64 (shrI .u64 (IntKind.wrap .u64 ((iand .u64 (shrI .u64 x1 1) 6148914691236517205) + (iand .u64 x1 6148914691236517205))) 2) 3689348814741910323) + (iand .u64 (IntKind.wrap .u64 ((iand .u64 (shrI .u64 x1 1) 6148914691236517205) + (iand .u64 x1 6148914691236517205))) 3689348814741910323))))) 1085102592571150095) 8)))) (Q_move rfl) rfl rfl ?_
  refine nq (v := .int .u64 (IntKind.wrap .u64 ((iand .u64 (IntKind.wrap .u64 ((shrI .u64 (IntKind.wrap .u64 ((iand .u64 (shrI .u64 (IntKind.wrap .u64 ((iand .u64 (shrI .u64 x1 1) 6148914691236517205) + (iand .u64 x1 6148914691236517205))) 2) 3689348814741910323) + (iand .u64 (IntKind.wrap .u64 ((iand .u64 (shrI .u64 x1 1) 6148914691236517205) + (iand .u64 x1 6148914691236517205))) 3689348814741910323))) 4) + (IntKind.wrap .u64 ((iand .u64 (shrI .u64 (IntKind.wrap .u64 ((iand .u64 (shrI .u64 x1 1) 6148914691236517205) + (iand .u64 x1 6148914691236517205))) 2) 3689348814741910323) + (iand .u64 (IntKind.wrap .u64 ((iand .u64 (shrI .u64 x1 1) 6148914691236517205) + (iand .u64 x1 6148914691236517205))) 3689348814741910323))))) 1085102592571150095) + (shrI .u64 (iand .u64 (IntKind.wrap .u64 ((shrI .u64 (IntKind.wrap .u64 ((iand .u64 (shrI .u64 (IntKind.wrap .u64 ((iand .u64 (shrI .u64 x1 1) 6148914691236517205) + (iand .u64 x1 6148914691236517205))) 2) 3689348814741910323) + (iand .u64 (IntKind.wrap .u64 ((iand .u64 (shrI .u64 x1 1) 6148914691236517205) + (iand .u64 x1 6148914691236517205))) 3689348814741910323))) 4) + (IntKind.wrap .u64 ((iand .u64 (shrI .u64 (IntKind.wrap .u64 ((iand .u64 (shrI .u64 x1 1) 6148914691236517205) + (iand .u64 x1 6148914691236517205))) 2) 3689348814741910323) + (iand .u64 (IntKind.wrap .u64 ((iand .u64 (shrI .u64 x1 1) 6148914691236517205) + (iand .u64 x1 6148914691236517205))) 3689348814741910323))))) 1085102592571150095) 8)))) (Q_move rfl) rfl rfl ?_
  refine nq (v := .int .u64 (shrI .u64 (IntKind.wrap .u64 ((iand .u64 (IntKind.wrap .u64 ((shrI .u64 (IntKind.wrap .u64 ((iand .u64 (shrI .u64 (IntKind.wrap .u64 ((iand .u64 (shrI .u64 x1 1) 6148914691236517205) + (iand .u64 x1 6148914691236517205))) 2) 3689348814741910323) + (iand .u64 (IntKind.wrap .u64 ((iand .u64 (shrI .u64 x1 1) 6148914691236517205) + (iand .u64 x1 6148914691236517205))) 3689348814741910323))) 4) + (IntKind.wrap .u64 ((iand .u64 (shrI .u64 (IntKind.wrap .u64 ((iand .u64 (shrI .u64 x1 1) 6148914691236517205) + (iand .u64 x1 6148914691236517205))) 2) 3689348814741910323) + (iand .u64 (IntKind.wrap .u64 ((iand .u64 (shrI .u64 x1 1) 6148914691236517205) + (iand .u64 x1 6148914691236517205))) 3689348814741910323))))) 1085102592571150095) + (shrI .u64 (iand .u64 (IntKind.wrap .u64 ((shrI .u64 (IntKind.wrap .u64 ((iand .u64 (shrI .u64 (IntKind.wrap .u64 ((iand .u64 (shrI .u64 x1 1) 6148914691236517205) + (iand .u64 x1 6148914691236517205))) 2) 3689348814741910323) + (iand .u64 (IntKind.wrap .u64 ((iand .u64 (shrI .u64 x1 1) 6148914691236517205) + (iand .u64 x1 6148914691236517205))) 3689348814741910323))) 4) + (IntKind.wrap .u64 ((iand .u64 (shrI .u64 (IntKind.wrap .u64 ((iand .u64 (shrI .u64 x1 1) 6148914691236517205) + (iand .u64 x1 6148914691236517205))) 2) 3689348814741910323) + (iand .u64 (IntKind.wrap .u64 ((iand .u64 (shrI .u64 x1 1) 6148914691236517205) + (iand .u64 x1 6148914691236517205))) 3689348814741910323))))) 1085102592571150095) 8))) 16)) (Q_shr rfl rfl (by decide)) rfl rfl ?_
  refine nq (v := .int .u64 (IntKind.wrap .u64 ((IntKind.wrap .u64 ((iand .u64 (IntKind.wrap .u64 ((shrI .u64 (IntKind.wrap .u64 ((iand .u64 (shrI .u64 (IntKind.wrap .u64 ((iand .u64 (shrI .u64 x1 1) 6148914691236517205) + (iand .u64 x1 6148914691236517205))) 2) 3689348814741910323) + (iand .u64 (IntKind.wrap .u64 ((iand .u64 (shrI .u64 x1 1) 6148914691236517205) + (iand .u64 x1 6148914691236517205))) 3689348814741910323))) 4) + (IntKind.wrap .u64 ((iand .u64 (shrI .u64 (IntKind.wrap .u64 ((iand .u64 (shrI .u64 x1 1) 6148914691236517205) + (iand .u64 x1 6148914691236517205))) 2) 3689348814741910323) + (iand .u64 (IntKind.wrap .u64 ((iand .u64 (shrI .u64 x1 1) 6148914691236517205) + (iand .u64 x1 6148914691236517205))) 3689348814741910323))))) 1085102592571150095) + (shrI .u64 (iand .u64 (IntKind.wrap .u64 ((shrI .u64 (IntKind.wrap .u64 ((iand .u64 (shrI .u64 (IntKind.wrap .u64 ((iand .u64 (shrI .u64 x1 1) 6148914691236517205) + (iand .u64 x1 6148914691236517205))) 2) 3689348814741910323) + (iand .u64 (IntKind.wrap .u64 ((iand .u64 (shrI .u64 x1 1) 6148914691236517205) + (iand .u64 x1 6148914691236517205))) 3689348814741910323))) 4) + (IntKind.wrap .u64 ((iand .u64 (shrI .u64 (IntKind.wrap .u64 ((iand .u64 (shrI .u64 x1 1) 6148914691236517205) + (iand .u64 x1 6148914691236517205))) 2) 3689348814741910323) + (iand .u64 (IntKind.wrap .u64 ((iand .u64 (shrI .u64 x1 1) 6148914691236517205) + (iand .u64 x1 6148914691236517205))) 3689348814741910323))))) 1085102592571150095) 8))) + (shrI .u64 (IntKind.wrap .u64 ((iand .u64 (IntKind.wrap .u64 ((shrI .u64 (IntKind.wrap .u64 ((iand .u64 (shrI .u64 (IntKind.wrap .u64 ((iand .u64 (shrI .u64 x1 1) 6148914691236517205) + (iand .u64 x1 6148914691236517205))) 2) 3689348814741910323) + (iand .u64 (IntKind.wrap .u64 ((iand .u64 (shrI .u64 x1 1) 6148914691236517205) + (iand .u64 x1 6148914691236517205))) 3689348814741910323))) 4) + (IntKind.wrap .u64 ((iand .u64 (shrI .u64 (IntKind.wrap .u64 ((iand .u64 (shrI .u64 x1 1) 6148914691236517205) + (iand .u64 x1 6148914691236517205))) 2) 3689348814741910323) + (iand .u64 (IntKind.wrap .u64 ((iand .u64 (shrI .u64 x1 1) 6148914691236517205) + (iand .u64 x1 6148914691236517205))) 3689348814741910323))))) 1085102592571150095) + (shrI .u64 (iand .u64 (IntKind.wrap .u64 ((shrI .u64 (IntKind.wrap .u64 ((iand .u64 (shrI .u64 (IntKind.wrap .u64 ((iand .u64 (shrI .u64 x1 1) 6148914691236517205) + (iand .u64 x1 6148914691236517205))) 2) 3689348814741910323) + (iand .u64 (IntKind.wrap .u64 ((iand .u64 (shrI .u64 x1 1) 6148914691236517205) + (iand .u64 x1 6148914691236517205))) 3689348814741910323))) 4) + (IntKind.wrap .u64 ((iand .u64 (shrI .u64 (IntKind.wrap .u64 ((iand .u64 (shrI .u64 x1 1) 6148914691236517205) + (iand .u64 x1 6148914691236517205))) 2) 3689348814741910323) + (iand .u64 (IntKind.wrap .u64 ((iand .u64 (shrI .u64 x1 1) 6148914691236517205) + (iand .u64 x1 6148914691236517205))) 3689348814741910323))))) 1085102592571150095) 8))) 16)))) (Q_add rfl rfl) rfl rfl ?_
  refine nq (v := .int .u64 (IntKind.wrap .u64 ((IntKind.wrap .u64 ((iand .u64 (IntKind.wrap .u64 ((shrI .u64 (IntKind.wrap .u64 ((iand .u64 (shrI .u64 (IntKind.wrap .u64 ((iand .u64 (shrI .u64 x1 1) 6148914691236517205) + (iand .u64 x1 6148914691236517205))) 2) 3689348814741910323) + (iand .u64 (IntKind.wrap .u64 ((iand .u64 (shrI .u64 x1 1) 6148914691236517205) + (iand .u64 x1 6148914691236517205))) 3689348814741910323))) 4) + (IntKind.wrap .u64 ((iand .u64 (shrI .u64 (IntKind.wrap .u64 ((iand .u64 (shrI .u64 x1 1) 6148914691236517205) + (iand .u64 x1 6148914691236517205))) 2) 3689348814741910323) + (iand .u64 (IntKind.wrap .u64 ((iand .u64 (shrI .u64 x1 1) 6148914691236517205) + (iand .u64 x1 6148914691236517205))) 3689348814741910323))))) 1085102592571150095) + (shrI .u64 (iand .u64 (IntKind.wrap .u64 ((shrI .u64 (IntKind.wrap .u64 ((iand .u64 (shrI .u64 (IntKind.wrap .u64 ((iand .u64 (shrI .u64 x1 1) 6148914691236517205) + (iand .u64 x1 6148914691236517205))) 2) 3689348814741910323) + (iand .u64 (IntKind.wrap .u64 ((iand .u64 (shrI .u64 x1 1) 6148914691236517205) + (iand .u64 x1 6148914691236517205))) 3689348814741910323))) 4) + (IntKind.wrap .u64 ((iand .u64 (shrI .u64 (IntKind.wrap .u64 ((iand .u64 (shrI .u64 x1 1) 6148914691236517205) + (iand .u64 x1 6148914691236517205))) 2) 3689348814741910323) + (iand .u64 (IntKind.wrap .u64 ((iand .u64 (shrI .u64 x1 1) 6148914691236517205) + (iand .u64 x1 6148914691236517205))) 3689348814741910323))))) 1085102592571150095) 8))) + (shrI .u64 (IntKind.wrap .u64 ((iand .u64 (IntKind.wrap .u64 ((shrI .u64 (IntKind.wrap .u64 ((iand .u64 (shrI .u64 (IntKind.wrap .u64 ((iand .u64 (shrI .u64 x1 1) 6148914691236517205) + (iand .u64 x1 6148914691236517205))) 2) 3689348814741910323) + (iand .u64 (IntKind.wrap .u64 ((iand .u64 (shrI .u64 x1 1) 6148914691236517205) + (iand .u64 x1 6148914691236517205))) 3689348814741910323))) 4) + (IntKind.wrap .u64 ((iand .u64 (shrI .u64 (IntKind.wrap .u64 ((iand .u64 (shrI .u64 x1 1) 6148914691236517205) + (iand .u64 x1 6148914691236517205))) 2) 3689348814741910323) + (iand .u64 (IntKind.wrap .u64 ((iand .u64 (shrI .u64 x1 1) 6148914691236517205) + (iand .u64 x1 6148914691236517205))) 3689348814741910323))))) 1085102592571150095) + (shrI .u64 (iand .u64 (IntKind.wrap .u64 ((shrI .u64 (IntKind.wrap .u64 ((iand .u64 (shrI .u64 (IntKind.wrap .u64 ((iand .u64 (shrI .u64 x1 1) 6148914691236517205) + (iand .u64 x1 6148914691236517205))) 2) 3689348814741910323) + (iand .u64 (IntKind.wrap .u64 ((iand .u64 (shrI .u64 x1 1) 6148914691236517205) + (iand .u64 x1 6148914691236517205))) 3689348814741910323))) 4) + (IntKind.wrap .u64 ((iand .u64 (shrI .u64 (IntKind.wrap .u64 ((iand .u64 (shrI .u64 x1 1) 6148914691236517205) + (iand .u64 x1 6148914691236517205))) 2) 3689348814741910323) + (iand .u64 (IntKind.wrap .u64 ((iand .u64 (shrI .u64 x1 1) 6148914691236517205) + (iand .u64 x1 6148914691236517205))) 3689348814741910323))))) 1085102592571150095) 8))) 16)))) (Q_assign rfl) rfl rfl ?_
  refine WL_nil ?_
  refine x_then ?_
  refine CW.sub (E' := [(0, .int .u64 (IntKind.wrap .u64 ((IntKind.wrap .u64 ((iand .u64 (IntKind.wrap .u64 ((shrI .u64 (IntKind.wrap .u64 ((iand .u64 (shrI .u64 (IntKind.wrap .u64 ((iand .u64 (shrI .u64 x1 1) 6148914691236517205) + (iand .u64 x1 6148914691236517205))) 2) 3689348814741910323) + (iand .u64 (IntKind.wrap .u64 ((iand .u64 (shrI .u64 x1 1) 6148914691236517205) + (iand .u64 x1 6148914691236517205))) 3689348814741910323))) 4) + (IntKind.wrap .u64 ((iand .u64 (shrI .u64 (IntKind.wrap .u64 ((iand .u64 (shrI .u64 x1 1) 6148914691236517205) + (iand .u64 x1 6148914691236517205))) 2) 3689348814741910323) + (iand .u64 (IntKind.wrap .u64 ((iand .u64 (shrI .u64 x1 1) 6148914691236517205) + (iand .u64 x1 6148914691236517205))) 3689348814741910323))))) 1085102592571150095) + (shrI .u64 (iand .u64 (IntKind.wrap .u64 ((shrI .u64 (IntKind.wrap .u64 ((iand .u64 (shrI .u64 (IntKind.wrap .u64 ((iand .u64 (shrI .u64 x1 1) 6148914691236517205) + (iand .u64 x1 6148914691236517205))) 2) 3689348814741910323) + (iand .u64 (IntKind.wrap .u64 ((iand .u64 (shrI .u64 x1 1) 6148914691236517205) + (iand .u64 x1 6148914691236517205))) 3689348814741910323))) 4) + (IntKind.wrap .u64 ((iand .u64 (shrI .u64 (IntKind.wrap .u64 ((iand .u64 (shrI .u64 x1 1) 6148914691236517205) + (iand .u64 x1 6148914691236517205))) 2) 3689348814741910323) + (iand .u64 (IntKind.wrap .u64 ((iand .u64 (shrI .u64 x1 1) 6148914691236517205) + (iand .u64 x1 6148914691236517205))) 3689348814741910323))))) 1085102592571150095) 8))) + (shrI .u64 (IntKind.wrap .u64 ((iand .u64 (IntKind.wrap .u64 ((shrI .u64 (IntKind.wrap .u64 ((iand .u64 (shrI .u64 (IntKind.wrap .u64 ((iand .u64 (shrI .u64 x1 1) 6148914691236517205) + (iand .u64 x1 6148914691236517205))) 2) 3689348814741910323) + (iand .u64 (IntKind.wrap .u64 ((iand .u64 (shrI .u64 x1 1) 6148914691236517205) + (iand .u64 x1 6148914691236517205))) 3689348814741910323))) 4) + (IntKind.wrap .u64 ((iand .u64 (shrI .u64 (IntKind.wrap .u64 ((iand .u64 (shrI .u64 x1 1) 6148914691236517205) + (iand .u64 x1 6148914691236517205))) 2) 3689348814741910323) + (iand .u64 (IntKind.wrap .u64 ((iand .u64 (shrI .u64 x1 1) 6148914691236517205) + (iand .u64 x1 6148914691236517205))) 3689348814741910323))))) 1085102592571150095) + (shrI .u64 (iand .u64 (IntKind.wrap .u64 ((shrI .u64 (IntKind.wrap .u64 ((iand .u64 (shrI .u64 (IntKind.wrap .u64 ((iand .u64 (shrI .u64 x1 1) 6148914691236517205) + (iand .u64 x1 6148914691236517205))) 2) 3689348814741910323) + (iand .u64 (IntKind.wrap .u64 ((iand .u64 (shrI .u64 x1 1) 6148914691236517205) + (iand .u64 x1 6148914691236517205))) 3689348814741910323))) 4) + (IntKind.wrap .u64 ((iand .u64 (shrI .u64 (IntKind.wrap .u64 ((iand .u64 (shrI .u64 x1 1) 6148914691236517205) + (iand .u64 x1 6148914691236517205))) 2) 3689348814741910323) + (iand .u64 (IntKind.wrap .u64 ((iand .u64 (shrI .u64 x1 1) 6148914691236517205) + (iand .u64 x1 6148914691236517205))) 3689348814741910323))))) 1085102592571150095) 8))) 16))))]) ⟨rfl, trivial⟩ ?_
  refine C_seq ?_
  refine R_nd ?_
  refine nq (v := .int .u64 (IntKind.wrap .u64 ((IntKind.wrap .u64 ((iand .u64 (IntKind.wrap .u64 ((shrI .u64 (IntKind.wrap .u64 ((iand .u64 (shrI .u64 (IntKind.wrap .u64 ((iand .u64 (shrI .u64 x1 1) 6148914691236517205) + (iand .u64 x1 6148914691236517205))) 2) 3689348814741910323) + (iand .u64 (IntKind.wrap .u64 ((iand .u64 (shrI .u64 x1 1) 6148914691236517205) + (iand .u64 x1 6148914691236517205))) 3689348814741910323))) 4) + (IntKind.wrap .u64 ((iand .u64 (shrI .u64 (IntKind.wrap .u64 ((iand .u64 (shrI .u64 x1 1) 6148914691236517205) + (iand .u64 x1 6148914691236517205))) 2) 3689348814741910323) + (iand .u64 (IntKind.wrap .u64 ((iand .u64 (shrI .u64 x1 1) 6148914691236517205) + (iand .u64 x1 6148914691236517205))) 3689348814741910323))))) 1085102592571150095) + (shrI .u64 (iand .u64 (IntKind.wrap .u64 ((shrI .u64 (IntKind.wrap .u64 ((iand .u64 (shrI .u64 (IntKind.wrap .u64 ((iand .u64 (shrI .u64 x1 1) 6148914691236517205) + (iand .u64 x1 6148914691236517205))) 2) 3689348814741910323) + (iand .u64 (IntKind.wrap .u64 ((iand .u64 (shrI .u64 x1 1) 6148914691236517205) + (iand .u64 x1 6148914691236517205))) 3689348814741910323))) 4) + (IntKind.wrap .u64 ((iand .u64 (shrI .u64 (IntKind.wrap .u64 ((iand .u64 (shrI .u64 x1 1) 6148914691236517205) + (iand .u64 x1 6148914691236517205))) 2) 3689348814741910323) + (iand .u64 (IntKind.wrap .u64 ((iand .u64 (shrI .u64 x1 1) 6148914691236517205) + (iand .u64 x1 6148914691236517205))) 3689348814741910323))))) 1085102592571150095) 8))) + (shrI .u64 (IntKind.wrap .u64 ((iand .u64 (IntKind.wrap .u64 ((shrI .u64 (IntKind.wrap .u64 ((iand .u64 (shrI .u64 (IntKind.wrap .u64 ((iand .u64 (shrI .u64 x1 1) 6148914691236517205) + (iand .u64 x1 6148914691236517205))) 2) 3689348814741910323) + (iand .u64 (IntKind.wrap .u64 ((iand .u64 (shrI .u64 x1 1) 6148914691236517205) + (iand .u64 x1 6148914691236517205))) 3689348814741910323))) 4) + (IntKind.wrap .u64 ((iand .u64 (shrI .u64 (IntKind.wrap .u64 ((iand .u64 (shrI .u64 x1 1) 6148914691236517205) + (iand .u64 x1 6148914691236517205))) 2) 3689348814741910323) + (iand .u64 (IntKind.wrap .u64 ((iand .u64 (shrI .u64 x1 1) 6148914691236517205) + (iand .u64 x1 6148914691236517205))) 3689348814741910323))))) 1085102592571150095) + (shrI .u64 (iand .u64 (IntKind.wrap .u64 ((shrI .u64 (IntKind.wrap .u64 ((iand .u64 (shrI .u64 (IntKind.wrap .u64 ((iand .u64 (shrI .u64 x1 1) 6148914691236517205) + (iand .u64 x1 6148914691236517205))) 2) 3689348814741910323) + (iand .u64 (IntKind.wrap .u64 ((iand .u64 (shrI .u64 x1 1) 6148914691236517205) + (iand .u64 x1 6148914691236517205))) 3689348814741910323))) 4) + (IntKind.wrap .u64 ((iand .u64 (shrI .u64 (IntKind.wrap .u64 ((iand .u64 (shrI .u64 x1 1) 6148914691236517205) + (iand .u64 x1 6148914691236517205))) 2) 3689348814741910323) + (iand .u64 (IntKind.wrap .u64 ((iand .u64 (shrI .u64 x1 1) 6148914691236517205) + (iand .u64 x1 6148914691236517205))) 3689348814741910323))))) 1085102592571150095) 8))) 16)))) (Q_move rfl) rfl rfl ?_
  refine nq (v := .int .u64 (IntKind.wrap .u64 ((IntKind.wrap .u64 ((iand .u64 (IntKind.wrap .u64 ((shrI .u64 (IntKind.wrap .u64 ((iand .u64 (shrI .u64 (IntKind.wrap .u64 ((iand .u64 (shrI .u64 x1 1) 6148914691236517205) + (iand .u64 x1 6148914691236517205))) 2) 3689348814741910323) + (iand .u64 (IntKind.wrap .u64 ((iand .u64 (shrI .u64 x1 1) 6148914691236517205) + (iand .u64 x1 6148914691236517205))) 3689348814741910323))) 4) + (IntKind.wrap .u64 ((iand .u64 (shrI .u64 (IntKind.wrap .u64 ((iand .u64 (shrI .u64 x1 1) 6148914691236517205) + (iand .u64 x1 6148914691236517205))) 2) 3689348814741910323) + (iand .u64 (IntKind.wrap .u64 ((iand .u64 (shrI .u64 x1 1) 6148914691236517205) + (iand .u64 x1 6148914691236517205))) 3689348814741910323))))) 1085102592571150095) + (shrI .u64 (iand .u64 (IntKind.wrap .u64 ((shrI .u64 (IntKind.wrap .u64 ((iand .u64 (shrI .u64 (IntKind.wrap .u64 ((iand .u64 (shrI .u64 x1 1) 6148914691236517205) + (iand .u64 x1 6148914691236517205))) 2) 3689348814741910323) + (iand .u64 (IntKind.wrap .u64 ((iand .u64 (shrI .u64 x1 1) 6148914691236517205) + (iand .u64 x1 6148914691236517205))) 3689348814741910323))) 4) + (IntKind.wrap .u64 ((iand .u64 (shrI .u64 (IntKind.wrap .u64 ((iand .u64 (shrI .u64 x1 1) 6148914691236517205) + (iand .u64 x1 6148914691236517205))) 2) 3689348814741910323) + (iand .u64 (IntKind.wrap .u64 ((iand .u64 (shrI .u64 x1 1) 6148914691236517205) + (iand .u64 x1 6148914691236517205))) 3689348814741910323))))) 1085102592571150095) 8))) + (shrI .u64 (IntKind.wrap .u64 ((iand .u64 (IntKind.wrap .u64 ((shrI .u64 (IntKind.wrap .u64 ((iand .u64 (shrI .u64 (IntKind.wrap .u64 ((iand .u64 (shrI .u64 x1 1) 6148914691236517205) + (iand .u64 x1 6148914691236517205))) 2) 3689348814741910323) + (iand .u64 (IntKind.wrap .u64 ((iand .u64 (shrI .u64 x1 1) 6148914691236517205) + (iand .u64 x1 6148914691236517205))) 3689348814741910323))) 4) + (IntKind.wrap .u64 ((iand .u64 (shrI .u64 (IntKind.wrap .u64 ((iand .u64 (shrI .u64 x1 1) 6148914691236517205) + (iand .u64 x1 6148914691236517205))) 2) 3689348814741910323) + (iand .u64 (IntKind.wrap .u64 ((iand .u64 (shrI .u64 x1 1) 6148914691236517205) + (iand .u64 x1 6148914691236517205))) 3689348814741910323))))) 1085102592571150095) + (shrI .u64 (iand .u64 (IntKind.wrap .u64 ((shrI .u64 (IntKind.wrap .u64 ((iand .u64 (shrI .u64 (IntKind.wrap .u64 ((iand .u64 (shrI .u64 x1 1) 6148914691236517205) + (iand .u64 x1 6148914691236517205))) 2) 3689348814741910323) + (iand .u64 (IntKind.wrap .u64 ((iand .u64 (shrI .u64 x1 1) 6148914691236517205) + (iand .u64 x1 6148914691236517205))) 3689348814741910323))) 4) + (IntKind.wrap .u64 ((iand .u64 (shrI .u64 (IntKind.wrap .u64 ((iand .u64 (shrI .u64 x1 1) 6148914691236517205) + (iand .u64 x1 6148914691236517205))) 2) 3689348814741910323) + (iand .u64 (IntKind.wrap .u64 ((iand .u64 (shrI .u64 x1 1) 6148914691236517205) + (iand .u64 x1 6148914691236517205))) 3689348814741910323))))) 1085102592571150095) 8))) 16)))) (Q_move rfl) rfl rfl ?_
  refine nq (v := .int .u64 (shrI .u64 (IntKind.wrap .u64 ((IntKind.wrap .u64 ((iand .u64 (IntKind.wrap .u64 ((shrI .u64 (IntKind.wrap .u64 ((iand .u64 (shrI .u64 (IntKind.wrap .u64 ((iand .u64 (shrI .u64 x1 1) 6148914691236517205) + (iand .u64 x1 6148914691236517205))) 2) 3689348814741910323) + (iand .u64 (IntKind.wrap .u64 ((iand .u64 (shrI .u64 x1 1) 6148914691236517205) + (iand .u64 x1 6148914691236517205))) 3689348814741910323))) 4) + (IntKind.wrap .u64 ((iand .u64 (shrI .u64 (IntKind.wrap .u64 ((iand .u64 (shrI .u64 x1 1) 6148914691236517205) + (iand .u64 x1 6148914691236517205))) 2) 3689348814741910323) + (iand .u64 (IntKind.wrap .u64 ((iand .u64 (shrI .u64 x1 1) 6148914691236517205) + (iand .u64 x1 6148914691236517205))) 3689348814741910323))))) 1085102592571150095) + (shrI .u64 (iand .u64 (IntKind.wrap .u64 ((shrI .u64 (IntKind.wrap .u64 ((iand .u64 (shrI .u64 (IntKind.wrap .u64 ((iand .u64 (shrI .u64 x1 1) 6148914691236517205) + (iand .u64 x1 6148914691236517205))) 2) 3689348814741910323) + (iand .u64 (IntKind.wrap .u64 ((iand .u64 (shrI .u64 x1 1) 6148914691236517205) + (iand .u64 x1 6148914691236517205))) 3689348814741910323))) 4) + (IntKind.wrap .u64 ((iand .u64 (shrI .u64 (IntKind.wrap .u64 ((iand .u64 (shrI .u64 x1 1) 6148914691236517205) + (iand .u64 x1 6148914691236517205))) 2) 3689348814741910323) + (iand .u64 (IntKind.wrap .u64 ((iand .u64 (shrI .u64 x1 1) 6148914691236517205) + (iand .u64 x1 6148914691236517205))) 3689348814741910323))))) 1085102592571150095) 8))) + (shrI .u64 (IntKind.wrap .u64 ((iand .u64 (IntKind.wrap .u64 ((shrI .u64 (IntKind.wrap .u64 ((iand .u64 (shrI .u64 (IntKind.wrap .u64 ((iand .u64 (shrI .u64 x1 1) 6148914691236517205) + (iand .u64 x1 6148914691236517205))) 2) 3689348814741910323) + (iand .u64 (IntKind.wrap .u64 ((iand .u64 (shrI .u64 x1 1) 6148914691236517205) + (iand .u64 x1 6148914691236517205))) 3689348814741910323))) 4) + (IntKind.wrap .u64 ((iand .u64 (shrI .u64 (IntKind.wrap .u64 ((iand .u64 (shrI .u64 x1 1) 6148914691236517205) + (iand .u64 x1 6148914691236517205))) 2) 3689348814741910323) + (iand .u64 (IntKind.wrap .u64 ((iand .u64 (shrI .u64 x1 1) 6148914691236517205) + (iand .u64 x1 6148914691236517205))) 3689348814741910323))))) 1085102592571150095) + (shrI .u64 (iand .u64 (IntKind.wrap .u64 ((shrI .u64 (IntKind.wrap .u64 ((iand .u64 (shrI .u64 (IntKind.wrap .u64 ((iand .u64 (shrI .u64 x1 1) 6148914691236517205) + (iand .u64 x1 6148914691236517205))) 2) 3689348814741910323) + (iand .u64 (IntKind.wrap .u64 ((iand .u64 (shrI .u64 x1 1) 6148914691236517205) + (iand .u64 x1 6148914691236517205))) 3689348814741910323))) 4) + (IntKind.wrap .u64 ((iand .u64 (shrI .u64 (IntKind.wrap .u64 ((iand .u64 (shrI .u64 x1 1) 6148914691236517205) + (iand .u64 x1 6148914691236517205))) 2) 3689348814741910323) + (iand .u64 (IntKind.wrap .u64 ((iand .u64 (shrI .u64 x1 1) 6148914691236517205) + (iand .u64 x1 6148914691236517205))) 3689348814741910323))))) 1085102592571150095) 8))) 16))) 32)) (Q_shr rfl rfl (by decide)) rfl rfl ?_
  refine nq (v := .int .u64 (IntKind.wrap .u64 ((IntKind.wrap .u64 ((IntKind.wrap .u64 ((iand .u64 (IntKind.wrap .u64 ((shrI .u64 (IntKind.wrap .u64 ((iand .u64 (shrI .u64 (IntKind.wrap .u64 ((iand .u64 (shrI .u64 x1 1) 6148914691236517205) + (iand .u64 x1 6148914691236517205))) 2) 3689348814741910323) + (iand .u64 (IntKind.wrap .u64 ((iand .u64 (shrI .u64 x1 1) 6148914691236517205) + (iand .u64 x1 6148914691236517205))) 3689348814741910323))) 4) + (IntKind.wrap .u64 ((iand .u64 (shrI .u64 (IntKind.wrap .u64 ((iand .u64 (shrI .u64 x1 1) 6148914691236517205) + (iand .u64 x1 6148914691236517205))) 2) 3689348814741910323) + (iand .u64 (IntKind.wrap .u64 ((iand .u64 (shrI .u64 x1 1) 6148914691236517205) + (iand .u64 x1 6148914691236517205))) 3689348814741910323))))) 1085102592571150095) + (shrI .u64 (iand .u64 (IntKind.wrap .u64 ((shrI .u64 (IntKind.wrap .u64 ((iand .u64 (shrI .u64 (IntKind.wrap .u64 ((iand .u64 (shrI .u64 x1 1) 6148914691236517205) + (iand .u64 x1 6148914691236517205))) 2) 3689348814741910323) + (iand .u64 (IntKind.wrap .u64 ((iand .u64 (shrI .u64 x1 1) 6148914691236517205) + (iand .u64 x1 6148914691236517205))) 3689348814741910323))) 4) + (IntKind.wrap .u64 ((iand .u64 (shrI .u64 (IntKind.wrap .u64 ((iand .u64 (shrI .u64 x1 1) 6148914691236517205) + (iand .u64 x1 6148914691236517205))) 2) 3689348814741910323) + (iand .u64 (IntKind.wrap .u64 ((iand .u64 (shrI .u64 x1 1) 6148914691236517205) + (iand .u64 x1 6148914691236517205))) 3689348814741910323))))) 1085102592571150095) 8))) + (shrI .u64 (IntKind.wrap .u64 ((iand .u64 (IntKind.wrap .u64 ((shrI .u64 (IntKind.wrap .u64 ((iand .u64 (shrI .u64 (IntKind.wrap .u64 ((iand .u64 (shrI .u64 x1 1) 6148914691236517205) + (iand .u64 x1 6148914691236517205))) 2) 3689348814741910323) + (iand .u64 (IntKind.wrap .u64 ((iand .u64 (shrI .u64 x1 1) 6148914691236517205) + (iand .u64 x1 6148914691236517205))) 3689348814741910323))) 4) + (IntKind.wrap .u64 ((iand .u64 (shrI .u64 (IntKind.wrap .u64 ((iand .u64 (shrI .u64 x1 1) 6148914691236517205) + (iand .u64 x1 6148914691236517205))) 2) 3689348814741910323) + (iand .u64 (IntKind.wrap .u64 ((iand .u64 (shrI .u64 x1 1) 6148914691236517205) + (iand .u64 x1 6148914691236517205))) 3689348814741910323))))) 1085102592571150095) + (shrI .u64 (iand .u64 (IntKind.wrap .u64 ((shrI .u64 (IntKind.wrap .u64 ((iand .u64 (shrI .u64 (IntKind.wrap .u64 ((iand .u64 (shrI .u64 x1 1) 6148914691236517205) + (iand .u64 x1 6148914691236517205))) 2) 3689348814741910323) + (iand .u64 (IntKind.wrap .u64 ((iand .u64 (shrI .u64 x1 1) 6148914691236517205) + (iand .u64 x1 6148914691236517205))) 3689348814741910323))) 4) + (IntKind.wrap .u64 ((iand .u64 (shrI .u64 (IntKind.wrap .u64 ((iand .u64 (shrI .u64 x1 1) 6148914691236517205) + (iand .u64 x1 6148914691236517205))) 2) 3689348814741910323) + (iand .u64 (IntKind.wrap .u64 ((iand .u64 (shrI .u64 x1 1) 6148914691236517205) + (iand .u64 x1 6148914691236517205))) 3689348814741910323))))) 1085102592571150095) 8))) 16))) + (shrI .u64 (IntKind.wrap .u64 ((IntKind.wrap .u64 ((iand .u64 (IntKind.wrap .u64 ((shrI .u64 (IntKind.wrap .u64 ((iand .u64 (shrI .u64 (IntKind.wrap .u64 ((iand .u64 (shrI .u64 x1 1) 6148914691236517205) + (iand .u64 x1 6148914691236517205))) 2) 3689348814741910323) + (iand .u64 (IntKind.wrap .u64 ((iand .u64 (shrI .u64 x1 1) 6148914691236517205) + (iand .u64 x1 6148914691236517205))) 3689348814741910323))) 4) + (IntKind.wrap .u64 ((iand .u64 (shrI .u64 (IntKind.wrap .u64 ((iand .u64 (shrI .u64 x1 1) 6148914691236517205) + (iand .u64 x1 6148914691236517205))) 2) 3689348814741910323) + (iand .u64 (IntKind.wrap .u64 ((iand .u64 (shrI .u64 x1 1) 6148914691236517205) + (iand .u64 x1 6148914691236517205))) 3689348814741910323))))) 1085102592571150095) + (shrI .u64 (iand .u64 (IntKind.wrap .u64 ((shrI .u64 (IntKind.wrap .u64 ((iand .u64 (shrI .u64 (IntKind.wrap .u64 ((iand .u64 (shrI .u64 x1 1) 6148914691236517205) + (iand .u64 x1 6148914691236517205))) 2) 3689348814741910323) + (iand .u64 (IntKind.wrap .u64 ((iand .u64 (shrI .u64 x1 1) 6148914691236517205) + (iand .u64 x1 6148914691236517205))) 3689348814741910323))) 4) + (IntKind.wrap .u64 ((iand .u64 (shrI .u64 (IntKind.wrap .u64 ((iand .u64 (shrI .u64 x1 1) 6148914691236517205) + (iand .u64 x1 6148914691236517205))) 2) 3689348814741910323) + (iand .u64 (IntKind.wrap .u64 ((iand .u64 (shrI .u64 x1 1) 6148914691236517205) + (iand .u64 x1 6148914691236517205))) 3689348814741910323))))) 1085102592571150095) 8))) + (shrI .u64 (IntKind.wrap .u64 ((iand .u64 (IntKind.wrap .u64 ((shrI .u64 (IntKind.wrap .u64 ((iand .u64 (shrI .u64 (IntKind.wrap .u64 ((iand .u64 (shrI .u64 x1 1) 6148914691236517205) + (iand .u64 x1 6148914691236517205))) 2) 3689348814741910323) + (iand .u64 (IntKind.wrap .u64 ((iand .u64 (shrI .u64 x1 1) 6148914691236517205) + (iand .u64 x1 6148914691236517205))) 3689348814741910323))) 4) + (IntKind.wrap .u64 ((iand .u64 (shrI .u64 (IntKind.wrap .u64 ((iand .u64 (shrI .u64 x1 1) 6148914691236517205) + (iand .u64 x1 6148914691236517205))) 2) 3689348814741910323) + (iand .u64 (IntKind.wrap .u64 ((iand .u64 (shrI .u64 x1 1) 6148914691236517205) + (iand .u64 x1 6148914691236517205))) 3689348814741910323))))) 1085102592571150095) + (shrI .u64 (iand .u64 (IntKind.wrap .u64 ((shrI .u64 (IntKind.wrap .u64 ((iand .u64 (shrI .u64 (IntKind.wrap .u64 ((iand .u64 (shrI .u64 x1 1) 6148914691236517205) + (iand .u64 x1 6148914691236517205))) 2) 3689348814741910323) + (iand .u64 (IntKind.wrap .u64 ((iand .u64 (shrI .u64 x1 1) 6148914691236517205) + (iand .u64 x1 6148914691236517205))) 3689348814741910323))) 4) + (IntKind.wrap .u64 ((iand .u64 (shrI .u64 (IntKind.wrap .u64 ((iand .u64 (shrI .u64 x1 1) 6148914691236517205) + (iand .u64 x1 6148914691236517205))) 2) 3689348814741910323) + (iand .u64 (IntKind.wrap .u64 ((iand .u64 (shrI .u64 x1 1) 6148914691236517205) + (iand .u64 x1 6148914691236517205))) 3689348814741910323))))) 1085102592571150095) 8))) 16))) 32)))) (Q_add rfl rfl) rfl rfl ?_
  refine nq (v := .int .u64 (IntKind.wrap .u64 ((IntKind.wrap .u64 ((IntKind.wrap .u64 ((iand .u64 (IntKind.wrap .u64 ((shrI .u64 (IntKind.wrap .u64 ((iand .u64 (shrI .u64 (IntKind.wrap .u64 ((iand .u64 (shrI .u64 x1 1) 6148914691236517205) + (iand .u64 x1 6148914691236517205))) 2) 3689348814741910323) + (iand .u64 (IntKind.wrap .u64 ((iand .u64 (shrI .u64 x1 1) 6148914691236517205) + (iand .u64 x1 6148914691236517205))) 3689348814741910323))) 4) + (IntKind.wrap .u64 ((iand .u64 (shrI .u64 (IntKind.wrap .u64 ((iand .u64 (shrI .u64 x1 1) 6148914691236517205) + (iand .u64 x1 6148914691236517205))) 2) 3689348814741910323) + (iand .u64 (IntKind.wrap .u64 ((iand .u64 (shrI .u64 x1 1) 6148914691236517205) + (iand .u64 x1 6148914691236517205))) 3689348814741910323))))) 1085102592571150095) + (shrI .u64 (iand .u64 (IntKind.wrap .u64 ((shrI .u64 (IntKind.wrap .u64 ((iand .u64 (shrI .u64 (IntKind.wrap .u64 ((iand .u64 (shrI .u64 x1 1) 6148914691236517205) + (iand .u64 x1 6148914691236517205))) 2) 3689348814741910323) + (iand .u64 (IntKind.wrap .u64 ((iand .u64 (shrI .u64 x1 1) 6148914691236517205) + (iand .u64 x1 6148914691236517205))) 3689348814741910323))) 4) + (IntKind.wrap .u64 ((iand .u64 (shrI .u64 (IntKind.wrap .u64 ((iand .u64 (shrI .u64 x1 1) 6148914691236517205) + (iand .u64 x1 6148914691236517205))) 2) 3689348814741910323) + (iand .u64 (IntKind.wrap .u64 ((iand .u64 (shrI .u64 x1 1) 6148914691236517205) + (iand .u64 x1 6148914691236517205))) 3689348814741910323))))) 1085102592571150095) 8))) + (shrI .u64 (IntKind.wrap .u64 ((iand .u64 (IntKind.wrap .u64 ((shrI .u64 (IntKind.wrap .u64 ((iand .u64 (shrI .u64 (IntKind.wrap .u64 ((iand .u64 (shrI .u64 x1 1) 6148914691236517205) + (iand .u64 x1 6148914691236517205))) 2) 3689348814741910323) + (iand .u64 (IntKind.wrap .u64 ((iand .u64 (shrI .u64 x1 1) 6148914691236517205) + (iand .u64 x1 6148914691236517205))) 3689348814741910323))) 4) + (IntKind.wrap .u64 ((iand .u64 (shrI .u64 (IntKind.wrap .u64 ((iand .u64 (shrI .u64 x1 1) 6148914691236517205) + (iand .u64 x1 6148914691236517205))) 2) 3689348814741910323) + (iand .u64 (IntKind.wrap .u64 ((iand .u64 (shrI .u64 x1 1) 6148914691236517205) + (iand .u64 x1 6148914691236517205))) 3689348814741910323))))) 1085102592571150095) + (shrI .u64 (iand .u64 (IntKind.wrap .u64 ((shrI .u64 (IntKind.wrap .u64 ((iand .u64 (shrI .u64 (IntKind.wrap .u64 ((iand .u64 (shrI .u64 x1 1) 6148914691236517205) + (iand .u64 x1 6148914691236517205))) 2) 3689348814741910323) + (iand .u64 (IntKind.wrap .u64 ((iand .u64 (shrI .u64 x1 1) 6148914691236517205) + (iand .u64 x1 6148914691236517205))) 3689348814741910323))) 4) + (IntKind.wrap .u64 ((iand .u64 (shrI .u64 (IntKind.wrap .u64 ((iand .u64 (shrI .u64 x1 1) 6148914691236517205) + (iand .u64 x1 6148914691236517205))) 2) 3689348814741910323) + (iand .u64 (IntKind.wrap .u64 ((iand .u64 (shrI .u64 x1 1) 6148914691236517205) + (iand .u64 x1 6148914691236517205))) 3689348814741910323))))) 1085102592571150095) 8))) 16))) + (shrI .u64 (IntKind.wrap .u64 ((IntKind.wrap .u64 ((iand .u64 (IntKind.wrap .u64 ((shrI .u64 (IntKind.wrap .u64 ((iand .u64 (shrI .u64 (IntKind.wrap .u64 ((iand .u64 (shrI .u64 x1 1) 6148914691236517205) + (iand .u64 x1 6148914691236517205))) 2) 3689348814741910323) + (iand .u64 (IntKind.wrap .u64 ((iand .u64 (shrI .u64 x1 1) 6148914691236517205) + (iand .u64 x1 6148914691236517205))) 3689348814741910323))) 4) + (IntKind.wrap .u64 ((iand .u64 (shrI .u64 (IntKind.wrap .u64 ((iand .u64 (shrI .u64 x1 1) 6148914691236517205) + (iand .u64 x1 6148914691236517205))) 2) 3689348814741910323) + (iand .u64 (IntKind.wrap .u64 ((iand .u64 (shrI .u64 x1 1) 6148914691236517205) + (iand .u64 x1 6148914691236517205))) 3689348814741910323))))) 1085102592571150095) + (shrI .u64 (iand .u64 (IntKind.wrap .u64 ((shrI .u64 (IntKind.wrap .u64 ((iand .u64 (shrI .u64 (IntKind.wrap .u64 ((iand .u64 (shrI .u64 x1 1) 6148914691236517205) + (iand .u64 x1 6148914691236517205))) 2) 3689348814741910323) + (iand .u64 (IntKind.wrap .u64 ((iand .u64 (shrI .u64 x1 1) 6148914691236517205) + (iand .u64 x1 6148914691236517205))) 3689348814741910323))) 4) + (IntKind.wrap .u64 ((iand .u64 (shrI .u64 (IntKind.wrap .u64 ((iand .u64 (shrI .u64 x1 1) 6148914691236517205) + (iand .u64 x1 6148914691236517205))) 2) 3689348814741910323) + (iand .u64 (IntKind.wrap .u64 ((iand .u64 (shrI .u64 x1 1) 6148914691236517205) + (iand .u64 x1 6148914691236517205))) 3689348814741910323))))) 1085102592571150095) 8))) + (shrI .u64 (IntKind.wrap .u64 ((iand .u64 (IntKind.wrap .u64 ((shrI .u64 (IntKind.wrap .u64 ((iand .u64 (shrI .u64 (IntKind.wrap .u64 ((iand .u64 (shrI .u64 x1 1) 6148914691236517205) + (iand .u64 x1 6148914691236517205))) 2) 3689348814741910323) + (iand .u64 (IntKind.wrap .u64 ((iand .u64 (shrI .u64 x1 1) 6148914691236517205) + (iand .u64 x1 6148914691236517205))) 3689348814741910323))) 4) + (IntKind.wrap .u64 ((iand .u64 (shrI .u64 (IntKind.wrap .u64 ((iand .u64 (shrI .u64 x1 1) 6148914691236517205) + (iand .u64 x1 6148914691236517205))) 2) 3689348814741910323) + (iand .u64 (IntKind.wrap .u64 ((iand .u64 (shrI .u64 x1 1) 6148914691236517205) + (iand .u64 x1 6148914691236517205))) 3689348814741910323))))) 1085102592571150095) + (shrI .u64 (iand .u64 (IntKind.wrap .u64 ((shrI .u64 (IntKind.wrap .u64 ((iand .u64 (shrI .u64 (IntKind.wrap .u64 ((iand .u64 (shrI .u64 x1 1) 6148914691236517205) + (iand .u64 x1 6148914691236517205))) 2) 3689348814741910323) + (iand .u64 (IntKind.wrap .u64 ((iand .u64 (shrI .u64 x1 1) 6148914691236517205) + (iand .u64 x1 6148914691236517205))) 3689348814741910323))) 4) + (IntKind.wrap .u64 ((iand .u64 (shrI .u64 (IntKind.wrap .u64 ((iand .u64 (shrI .u64 x1 1) 6148914691236517205) + (iand .u64 x1 6148914691236517205))) 2) 3689348814741910323) + (iand .u64 (IntKind.wrap .u64 ((iand .u64 (shrI .u64 x1 1) 6148914691236517205) + (iand .u64 x1 6148914691236517205))) 3689348814741910323))))) 1085102592571150095) 8))) 16))) 32)))) (Q_assign rfl) rfl rfl ?_
  refine WL_nil ?_
  refine x_then ?_
  refine CW.sub (E' := [(0, .int .u64 (IntKind.wrap .u64 ((IntKind.wrap .u64 ((IntKind.wrap .u64 ((iand .u64 (IntKind.wrap .u64 ((shrI .u64 (IntKind.wrap .u64 ((iand .u64 (shrI .u64 (IntKind.wrap .u64 ((iand .u64 (shrI .u64 x1 1) 6148914691236517205) + (iand .u64 x1 6148914691236517205))) 2) 3689348814741910323) + (iand .u64 (IntKind.wrap .u64 ((iand .u64 (shrI .u64 x1 1) 6148914691236517205) + (iand .u64 x1 6148914691236517205))) 3689348814741910323))) 4) + (IntKind.wrap .u64 ((iand .u64 (shrI .u64 (IntKind.wrap .u64 ((iand .u64 (shrI .u64 x1 1) 6148914691236517205) + (iand .u64 x1 6148914691236517205))) 2) 3689348814741910323) + (iand .u64 (IntKind.wrap .u64 ((iand .u64 (shrI .u64 x1 1) 6148914691236517205) + (iand .u64 x1 6148914691236517205))) 3689348814741910323))))) 1085102592571150095) + (shrI .u64 (iand .u64 (IntKind.wrap .u64 ((shrI .u64 (IntKind.wrap .u64 ((iand .u64 (shrI .u64 (IntKind.wrap .u64 ((iand .u64 (shrI .u64 x1 1) 6148914691236517205) + (iand .u64 x1 6148914691236517205))) 2) 3689348814741910323) + (iand .u64 (IntKind.wrap .u64 ((iand .u64 (shrI .u64 x1 1) 6148914691236517205) + (iand .u64 x1 6148914691236517205))) 3689348814741910323))) 4) + (IntKind.wrap .u64 ((iand .u64 (shrI .u64 (IntKind.wrap .u64 ((iand .u64 (shrI .u64 x1 1) 6148914691236517205) + (iand .u64 x1 6148914691236517205))) 2) 3689348814741910323) + (iand .u64 (IntKind.wrap .u64 ((iand .u64 (shrI .u64 x1 1) 6148914691236517205) + (iand .u64 x1 6148914691236517205))) 3689348814741910323))))) 1085102592571150095) 8))) + (shrI .u64 (IntKind.wrap .u64 ((iand .u64 (IntKind.wrap .u64 ((shrI .u64 (IntKind.wrap .u64 ((iand .u64 (shrI .u64 (IntKind.wrap .u64 ((iand .u64 (shrI .u64 x1 1) 6148914691236517205) + (iand .u64 x1 6148914691236517205))) 2) 3689348814741910323) + (iand .u64 (IntKind.wrap .u64 ((iand .u64 (shrI .u64 x1 1) 6148914691236517205) + (iand .u64 x1 6148914691236517205))) 3689348814741910323))) 4) + (IntKind.wrap .u64 ((iand .u64 (shrI .u64 (IntKind.wrap .u64 ((iand .u64 (shrI .u64 x1 1) 6148914691236517205) + (iand .u64 x1 6148914691236517205))) 2) 3689348814741910323) + (iand .u64 (IntKind.wrap .u64 ((iand .u64 (shrI .u64 x1 1) 6148914691236517205) + (iand .u64 x1 6148914691236517205))) 3689348814741910323))))) 1085102592571150095) + (shrI .u64 (iand .u64 (IntKind.wrap .u64 ((shrI .u64 (IntKind.wrap .u64 ((iand .u64 (shrI .u64 (IntKind.wrap .u64 ((iand .u64 (shrI .u64 x1 1) 6148914691236517205) + (iand .u64 x1 6148914691236517205))) 2) 3689348814741910323) + (iand .u64 (IntKind.wrap .u64 ((iand .u64 (shrI .u64 x1 1) 6148914691236517205) + (iand .u64 x1 6148914691236517205))) 3689348814741910323))) 4) + (IntKind.wrap .u64 ((iand .u64 (shrI .u64 (IntKind.wrap .u64 ((iand .u64 (shrI .u64 x1 1) 6148914691236517205) + (iand .u64 x1 6148914691236517205))) 2) 3689348814741910323) + (iand .u64 (IntKind.wrap .u64 ((iand .u64 (shrI .u64 x1 1) 6148914691236517205) + (iand .u64 x1 6148914691236517205))) 3689348814741910323))))) 1085102592571150095) 8))) 16))) + (shrI .u64 (IntKind.wrap .u64 ((IntKind.wrap .u64 ((iand .u64 (IntKind.wrap .u64 ((shrI .u64 (IntKind.wrap .u64 ((iand .u64 (shrI .u64 (IntKind.wrap .u64 ((iand .u64 (shrI .u64 x1 1) 6148914691236517205) + (iand .u64 x1 6148914691236517205))) 2) 3689348814741910323) + (iand .u64 (IntKind.wrap .u64 ((iand .u64 (shrI .u64 x1 1) 6148914691236517205) + (iand .u64 x1 6148914691236517205))) 3689348814741910323))) 4) + (IntKind.wrap .u64 ((iand .u64 (shrI .u64 (IntKind.wrap .u64 ((iand .u64 (shrI .u64 x1 1) 6148914691236517205) + (iand .u64 x1 6148914691236517205))) 2) 3689348814741910323) + (iand .u64 (IntKind.wrap .u64 ((iand .u64 (shrI .u64 x1 1) 6148914691236517205) + (iand .u64 x1 6148914691236517205))) 3689348814741910323))))) 1085102592571150095) + (shrI .u64 (iand .u64 (IntKind.wrap .u64 ((shrI .u64 (IntKind.wrap .u64 ((iand .u64 (shrI .u64 (IntKind.wrap .u64 ((iand .u64 (shrI .u64 x1 1) 6148914691236517205) + (iand .u64 x1 6148914691236517205))) 2) 3689348814741910323) + (iand .u64 (IntKind.wrap .u64 ((iand .u64 (shrI .u64 x1 1) 6148914691236517205) + (iand .u64 x1 6148914691236517205))) 3689348814741910323))) 4) + (IntKind.wrap .u64 ((iand .u64 (shrI .u64 (IntKind.wrap .u64 ((iand .u64 (shrI .u64 x1 1) 6148914691236517205) + (iand .u64 x1 6148914691236517205))) 2) 3689348814741910323) + (iand .u64 (IntKind.wrap .u64 ((iand .u64 (shrI .u64 x1 1) 6148914691236517205) + (iand .u64 x1 6148914691236517205))) 3689348814741910323))))) 1085102592571150095) 8))) + (shrI .u64 (IntKind.wrap .u64 ((iand .u64 (IntKind.wrap .u64 ((shrI .u64 (IntKind.wrap .u64 ((iand .u64 (shrI .u64 (IntKind.wrap .u64 ((iand .u64 (shrI .u64 x1 1) 6148914691236517205) + (iand .u64 x1 6148914691236517205))) 2) 3689348814741910323) + (iand .u64 (IntKind.wrap .u64 ((iand .u64 (shrI .u64 x1 1) 6148914691236517205) + (iand .u64 x1 6148914691236517205))) 3689348814741910323))) 4) + (IntKind.wrap .u64 ((iand .u64 (shrI .u64 (IntKind.wrap .u64 ((iand .u64 (shrI .u64 x1 1) 6148914691236517205) + (iand .u64 x1 6148914691236517205))) 2) 3689348814741910323) + (iand .u64 (IntKind.wrap .u64 ((iand .u64 (shrI .u64 x1 1) 6148914691236517205) + (iand .u64 x1 6148914691236517205))) 3689348814741910323))))) 1085102592571150095) + (shrI .u64 (iand .u64 (IntKind.wrap .u64 ((shrI .u64 (IntKind.wrap .u64 ((iand .u64 (shrI .u64 (IntKind.wrap .u64 ((iand .u64 (shrI .u64 x1 1) 6148914691236517205) + (iand .u64 x1 6148914691236517205))) 2) 3689348814741910323) + (iand .u64 (IntKind.wrap .u64 ((iand .u64 (shrI .u64 x1 1) 6148914691236517205) + (iand .u64 x1 6148914691236517205))) 3689348814741910323))) 4) + (IntKind.wrap .u64 ((iand .u64 (shrI .u64 (IntKind.wrap .u64 ((iand .u64 (shrI .u64 x1 1) 6148914691236517205) + (iand .u64 x1 6148914691236517205))) 2) 3689348814741910323) + (iand .u64 (IntKind.wrap .u64 ((iand .u64 (shrI .u64 x1 1) 6148914691236517205) + (iand .u64 x1 6148914691236517205))) 3689348814741910323))))) 1085102592571150095) 8))) 16))) 32))))]) ⟨rfl, trivial⟩ ?_
  refine C_seq ?_
  refine R_nd ?_
  refine nq (v := .int .u64 (IntKind.wrap .u64 ((IntKind.wrap .u64 ((IntKind.wrap .u64 ((iand .u64 (IntKind.wrap .u64 ((shrI .u64 (IntKind.wrap .u64 ((iand .u64 (shrI .u64 (IntKind.wrap .u64 ((iand .u64 (shrI .u64 x1 1) 6148914691236517205) + (iand .u64 x1 6148914691236517205))) 2) 3689348814741910323) + (iand .u64 (IntKind.wrap .u64 ((iand .u64 (shrI .u64 x1 1) 6148914691236517205) + (iand .u64 x1 6148914691236517205))) 3689348814741910323))) 4) + (IntKind.wrap .u64 ((iand .u64 (shrI .u64 (IntKind.wrap .u64 ((iand .u64 (shrI .u64 x1 1) 6148914691236517205) + (iand .u64 x1 6148914691236517205))) 2) 3689348814741910323) + (iand .u64 (IntKind.wrap .u64 ((iand .u64 (shrI .u64 x1 1) 6148914691236517205) + (iand .u64 x1 6148914691236517205))) 3689348814741910323))))) 1085102592571150095) + (shrI .u64 (iand .u64 (IntKind.wrap .u64 ((shrI .u64 (IntKind.wrap .u64 ((iand .u64 (shrI .u64 (IntKind.wrap .u64 ((iand .u64 (shrI .u64 x1 1) 6148914691236517205) + (iand .u64 x1 6148914691236517205))) 2) 3689348814741910323) + (iand .u64 (IntKind.wrap .u64 ((iand .u64 (shrI .u64 x1 1) 6148914691236517205) + (iand .u64 x1 6148914691236517205))) 3689348814741910323))) 4) + (IntKind.wrap .u64 ((iand .u64 (shrI .u64 (IntKind.wrap .u64 ((iand .u64 (shrI .u64 x1 1) 6148914691236517205) + (iand .u64 x1 6148914691236517205))) 2) 3689348814741910323) + (iand .u64 (IntKind.wrap .u64 ((iand .u64 (shrI .u64 x1 1) 6148914691236517205) + (iand .u64 x1 6148914691236517205))) 3689348814741910323))))) 1085102592571150095) 8))) + (shrI .u64 (IntKind.wrap .u64 ((iand .u64 (IntKind.wrap .u64 ((shrI .u64 (IntKind.wrap .u64 ((iand .u64 (shrI .u64 (IntKind.wrap .u64 ((iand .u64 (shrI .u64 x1 1) 6148914691236517205) + (iand .u64 x1 6148914691236517205))) 2) 3689348814741910323) + (iand .u64 (IntKind.wrap .u64 ((iand .u64 (shrI .u64 x1 1) 6148914691236517205) + (iand .u64 x1 6148914691236517205))) 3689348814741910323))) 4) + (IntKind.wrap .u64 ((iand .u64 (shrI .u64 (IntKind.wrap .u64 ((iand .u64 (shrI .u64 x1 1) 6148914691236517205) + (iand .u64 x1 6148914691236517205))) 2) 3689348814741910323) + (iand .u64 (IntKind.wrap .u64 ((iand .u64 (shrI .u64 x1 1) 6148914691236517205) + (iand .u64 x1 6148914691236517205))) 3689348814741910323))))) 1085102592571150095) + (shrI .u64 (iand .u64 (IntKind.wrap .u64 ((shrI .u64 (IntKind.wrap .u64 ((iand .u64 (shrI .u64 (IntKind.wrap .u64 ((iand .u64 (shrI .u64 x1 1) 6148914691236517205) + (iand .u64 x1 6148914691236517205))) 2) 3689348814741910323) + (iand .u64 (IntKind.wrap .u64 ((iand .u64 (shrI .u64 x1 1) 6148914691236517205) + (iand .u64 x1 6148914691236517205))) 3689348814741910323))) 4) + (IntKind.wrap .u64 ((iand .u64 (shrI .u64 (IntKind.wrap .u64 ((iand .u64 (shrI .u64 x1 1) 6148914691236517205) + (iand .u64 x1 6148914691236517205))) 2) 3689348814741910323) + (iand .u64 (IntKind.wrap .u64 ((iand .u64 (shrI .u64 x1 1) 6148914691236517205) + (iand .u64 x1 6148914691236517205))) 3689348814741910323))))) 1085102592571150095) 8))) 16))) + (shrI .u64 (IntKind.wrap .u64 ((IntKind.wrap .u64 ((iand .u64 (IntKind.wrap .u64 ((shrI .u64 (IntKind.wrap .u64 ((iand .u64 (shrI .u64 (IntKind.wrap .u64 ((iand .u64 (shrI .u64 x1 1) 6148914691236517205) + (iand .u64 x1 6148914691236517205))) 2) 3689348814741910323) + (iand .u64 (IntKind.wrap .u64 ((iand .u64 (shrI .u64 x1 1) 6148914691236517205) + (iand .u64 x1 6148914691236517205))) 3689348814741910323))) 4) + (IntKind.wrap .u64 ((iand .u64 (shrI .u64 (IntKind.wrap .u64 ((iand .u64 (shrI .u64 x1 1) 6148914691236517205) + (iand .u64 x1 6148914691236517205))) 2) 3689348814741910323) + (iand .u64 (IntKind.wrap .u64 ((iand .u64 (shrI .u64 x1 1) 6148914691236517205) + (iand .u64 x1 6148914691236517205))) 3689348814741910323))))) 1085102592571150095) + (shrI .u64 (iand .u64 (IntKind.wrap .u64 ((shrI .u64 (IntKind.wrap .u64 ((iand .u64 (shrI .u64 (IntKind.wrap .u64 ((iand .u64 (shrI .u64 x1 1) 6148914691236517205) + (iand .u64 x1 6148914691236517205))) 2) 3689348814741910323) + (iand .u64 (IntKind.wrap .u64 ((iand .u64 (shrI .u64 x1 1) 6148914691236517205) + (iand .u64 x1 6148914691236517205))) 3689348814741910323))) 4) + (IntKind.wrap .u64 ((iand .u64 (shrI .u64 (IntKind.wrap .u64 ((iand .u64 (shrI .u64 x1 1) 6148914691236517205) + (iand .u64 x1 6148914691236517205))) 2) 3689348814741910323) + (iand .u64 (IntKind.wrap .u64 ((iand .u64 (shrI .u64 x1 1) 6148914691236517205) + (iand .u64 x1 6148914691236517205))) 3689348814741910323))))) 1085102592571150095) 8))) + (shrI .u64 (IntKind.wrap .u64 ((iand .u64 (IntKind.wrap .u64 ((shrI .u64 (IntKind.wrap .u64 ((iand .u64 (shrI .u64 (IntKind.wrap .u64 ((iand .u64 (shrI .u64 x1 1) 6148914691236517205) + (iand .u64 x1 6148914691236517205))) 2) 3689348814741910323) + (iand .u64 (IntKind.wrap .u64 ((iand .u64 (shrI .u64 x1 1) 6148914691236517205) + (iand .u64 x1 6148914691236517205))) 3689348814741910323))) 4) + (IntKind.wrap .u64 ((iand .u64 (shrI .u64 (IntKind.wrap .u64 ((iand .u64 (shrI .u64 x1 1) 6148914691236517205) + (iand .u64 x1 6148914691236517205))) 2) 3689348814741910323) + (iand .u64 (IntKind.wrap .u64 ((iand .u64 (shrI .u64 x1 1) 6148914691236517205) + (iand .u64 x1 6148914691236517205))) 3689348814741910323))))) 1085102592571150095) + (shrI .u64 (iand .u64 (IntKind.wrap .u64 ((shrI .u64 (IntKind.wrap .u64 ((iand .u64 (shrI .u64 (IntKind.wrap .u64 ((iand .u64 (shrI .u64 x1 1) 6148914691236517205) + (iand .u64 x1 6148914691236517205))) 2) 3689348814741910323) + (iand .u64 (IntKind.wrap .u64 ((iand .u64 (shrI .u64 x1 1) 6148914691236517205) + (iand .u64 x1 6148914691236517205))) 3689348814741910323))) 4) + (IntKind.wrap .u64 ((iand .u64 (shrI .u64 (IntKind.wrap .u64 ((iand .u64 (shrI .u64 x1 1) 6148914691236517205) + (iand .u64 x1 6148914691236517205))) 2) 3689348814741910323) + (iand .u64 (IntKind.wrap .u64 ((iand .u64 (shrI .u64 x1 1) 6148914691236517205) + (iand .u64 x1 6148914691236517205))) 3689348814741910323))))) 1085102592571150095) 8))) 16))) 32)))) (Q_move rfl) rfl rfl ?_
  refine nq (v := .int .i64 (IntKind.wrap .i64 (IntKind.wrap .u64 ((IntKind.wrap .u64 ((IntKind.wrap .u64 ((iand .u64 (IntKind.wrap .u64 ((shrI .u64 (IntKind.wrap .u64 ((iand .u64 (shrI .u64 (IntKind.wrap .u64 ((iand .u64 (shrI .u64 x1 1) 6148914691236517205) + (iand .u64 x1 6148914691236517205))) 2) 3689348814741910323) + (iand .u64 (IntKind.wrap .u64 ((iand .u64 (shrI .u64 x1 1) 6148914691236517205) + (iand .u64 x1 6148914691236517205))) 3689348814741910323))) 4) + (IntKind.wrap .u64 ((iand .u64 (shrI .u64 (IntKind.wrap .u64 ((iand .u64 (shrI .u64 x1 1) 6148914691236517205) + (iand .u64 x1 6148914691236517205))) 2) 3689348814741910323) + (iand .u64 (IntKind.wrap .u64 ((iand .u64 (shrI .u64 x1 1) 6148914691236517205) + (iand .u64 x1 6148914691236517205))) 3689348814741910323))))) 1085102592571150095) + (shrI .u64 (iand .u64 (IntKind.wrap .u64 ((shrI .u64 (IntKind.wrap .u64 ((iand .u64 (shrI .u64 (IntKind.wrap .u64 ((iand .u64 (shrI .u64 x1 1) 6148914691236517205) + (iand .u64 x1 6148914691236517205))) 2) 3689348814741910323) + (iand .u64 (IntKind.wrap .u64 ((iand .u64 (shrI .u64 x1 1) 6148914691236517205) + (iand .u64 x1 6148914691236517205))) 3689348814741910323))) 4) + (IntKind.wrap .u64 ((iand .u64 (shrI .u64 (IntKind.wrap .u64 ((iand .u64 (shrI .u64 x1 1) 6148914691236517205) + (iand .u64 x1 6148914691236517205))) 2) 3689348814741910323) + (iand .u64 (IntKind.wrap .u64 ((iand .u64 (shrI .u64 x1 1) 6148914691236517205) + (iand .u64 x1 6148914691236517205))) 3689348814741910323))))) 1085102592571150095) 8))) + (shrI .u64 (IntKind.wrap .u64 ((iand .u64 (IntKind.wrap .u64 ((shrI .u64 (IntKind.wrap .u64 ((iand .u64 (shrI .u64 (IntKind.wrap .u64 ((iand .u64 (shrI .u64 x1 1) 6148914691236517205) + (iand .u64 x1 6148914691236517205))) 2) 3689348814741910323) + (iand .u64 (IntKind.wrap .u64 ((iand .u64 (shrI .u64 x1 1) 6148914691236517205) + (iand .u64 x1 6148914691236517205))) 3689348814741910323))) 4) + (IntKind.wrap .u64 ((iand .u64 (shrI .u64 (IntKind.wrap .u64 ((iand .u64 (shrI .u64 x1 1) 6148914691236517205) + (iand .u64 x1 6148914691236517205))) 2) 3689348814741910323) + (iand .u64 (IntKind.wrap .u64 ((iand .u64 (shrI .u64 x1 1) 6148914691236517205) + (iand .u64 x1 6148914691236517205))) 3689348814741910323))))) 1085102592571150095) + (shrI .u64 (iand .u64 (IntKind.wrap .u64 ((shrI .u64 (IntKind.wrap .u64 ((iand .u64 (shrI .u64 (IntKind.wrap .u64 ((iand .u64 (shrI .u64 x1 1) 6148914691236517205) + (iand .u64 x1 6148914691236517205))) 2) 3689348814741910323) + (iand .u64 (IntKind.wrap .u64 ((iand .u64 (shrI .u64 x1 1) 6148914691236517205) + (iand .u64 x1 6148914691236517205))) 3689348814741910323))) 4) + (IntKind.wrap .u64 ((iand .u64 (shrI .u64 (IntKind.wrap .u64 ((iand .u64 (shrI .u64 x1 1) 6148914691236517205) + (iand .u64 x1 6148914691236517205))) 2) 3689348814741910323) + (iand .u64 (IntKind.wrap .u64 ((iand .u64 (shrI .u64 x1 1) 6148914691236517205) + (iand .u64 x1 6148914691236517205))) 3689348814741910323))))) 1085102592571150095) 8))) 16))) + (shrI .u64 (IntKind.wrap .u64 ((IntKind.wrap .u64 ((iand .u64 (IntKind.wrap .u64 ((shrI .u64 (IntKind.wrap .u64 ((iand .u64 (shrI .u64 (IntKind.wrap .u64 ((iand .u64 (shrI .u64 x1 1) 6148914691236517205) + (iand .u64 x1 6148914691236517205))) 2) 3689348814741910323) + (iand .u64 (IntKind.wrap .u64 ((iand .u64 (shrI .u64 x1 1) 6148914691236517205) + (iand .u64 x1 6148914691236517205))) 3689348814741910323))) 4) + (IntKind.wrap .u64 ((iand .u64 (shrI .u64 (IntKind.wrap .u64 ((iand .u64 (shrI .u64 x1 1) 6148914691236517205) + (iand .u64 x1 6148914691236517205))) 2) 3689348814741910323) + (iand .u64 (IntKind.wrap .u64 ((iand .u64 (shrI .u64 x1 1) 6148914691236517205) + (iand .u64 x1 6148914691236517205))) 3689348814741910323))))) 1085102592571150095) + (shrI .u64 (iand .u64 (IntKind.wrap .u64 ((shrI .u64 (IntKind.wrap .u64 ((iand .u64 (shrI .u64 (IntKind.wrap .u64 ((iand .u64 (shrI .u64 x1 1) 6148914691236517205) + (iand .u64 x1 6148914691236517205))) 2) 3689348814741910323) + (iand .u64 (IntKind.wrap .u64 ((iand .u64 (shrI .u64 x1 1) 6148914691236517205) + (iand .u64 x1 6148914691236517205))) 3689348814741910323))) 4) + (IntKind.wrap .u64 ((iand .u64 (shrI .u64 (IntKind.wrap .u64 ((iand .u64 (shrI .u64 x1 1) 6148914691236517205) + (iand .u64 x1 6148914691236517205))) 2) 3689348814741910323) + (iand .u64 (IntKind.wrap .u64 ((iand .u64 (shrI .u64 x1 1) 6148914691236517205) + (iand .u64 x1 6148914691236517205))) 3689348814741910323))))) 1085102592571150095) 8))) + (shrI .u64 (IntKind.wrap .u64 ((iand .u64 (IntKind.wrap .u64 ((shrI .u64 (IntKind.wrap .u64 ((iand .u64 (shrI .u64 (IntKind.wrap .u64 ((iand .u64 (shrI .u64 x1 1) 6148914691236517205) + (iand .u64 x1 6148914691236517205))) 2) 3689348814741910323) + (iand .u64 (IntKind.wrap .u64 ((iand .u64 (shrI .u64 x1 1) 6148914691236517205) + (iand .u64 x1 6148914691236517205))) 3689348814741910323))) 4) + (IntKind.wrap .u64 ((iand .u64 (shrI .u64 (IntKind.wrap .u64 ((iand .u64 (shrI .u64 x1 1) 6148914691236517205) + (iand .u64 x1 6148914691236517205))) 2) 3689348814741910323) + (iand .u64 (IntKind.wrap .u64 ((iand .u64 (shrI .u64 x1 1) 6148914691236517205) + (iand .u64 x1 6148914691236517205))) 3689348814741910323))))) 1085102592571150095) + (shrI .u64 (iand .u64 (IntKind.wrap .u64 ((shrI .u64 (IntKind.wrap .u64 ((iand .u64 (shrI .u64 (IntKind.wrap .u64 ((iand .u64 (shrI .u64 x1 1) 6148914691236517205) + (iand .u64 x1 6148914691236517205))) 2) 3689348814741910323) + (iand .u64 (IntKind.wrap .u64 ((iand .u64 (shrI .u64 x1 1) 6148914691236517205) + (iand .u64 x1 6148914691236517205))) 3689348814741910323))) 4) + (IntKind.wrap .u64 ((iand .u64 (shrI .u64 (IntKind.wrap .u64 ((iand .u64 (shrI .u64 x1 1) 6148914691236517205) + (iand .u64 x1 6148914691236517205))) 2) 3689348814741910323) + (iand .u64 (IntKind.wrap .u64 ((iand .u64 (shrI .u64 x1 1) 6148914691236517205) + (iand .u64 x1 6148914691236517205))) 3689348814741910323))))) 1085102592571150095) 8))) 16))) 32))))) (Q_cvI ⟨_, Tryd.underlying95⟩ Tryd.underlying3 rfl) rfl rfl ?_
  refine nq (v := .int .i64 (iand .i64 (IntKind.wrap .i64 (IntKind.wrap .u64 ((IntKind.wrap .u64 ((IntKind.wrap .u64 ((iand .u64 (IntKind.wrap .u64 ((shrI .u64 (IntKind.wrap .u64 ((iand .u64 (shrI .u64 (IntKind.wrap .u64 ((iand .u64 (shrI .u64 x1 1) 6148914691236517205) + (iand .u64 x1 6148914691236517205))) 2) 3689348814741910323) + (iand .u64 (IntKind.wrap .u64 ((iand .u64 (shrI .u64 x1 1) 6148914691236517205) + (iand .u64 x1 6148914691236517205))) 3689348814741910323))) 4) + (IntKind.wrap .u64 ((iand .u64 (shrI .u64 (IntKind.wrap .u64 ((iand .u64 (shrI .u64 x1 1) 6148914691236517205) + (iand .u64 x1 6148914691236517205))) 2) 3689348814741910323) + (iand .u64 (IntKind.wrap .u64 ((iand .u64 (shrI .u64 x1 1) 6148914691236517205) + (iand .u64 x1 6148914691236517205))) 3689348814741910323))))) 1085102592571150095) + (shrI .u64 (iand .u64 (IntKind.wrap .u64 ((shrI .u64 (IntKind.wrap .u64 ((iand .u64 (shrI .u64 (IntKind.wrap .u64 ((iand .u64 (shrI .u64 x1 1) 6148914691236517205) + (iand .u64 x1 6148914691236517205))) 2) 3689348814741910323) + (iand .u64 (IntKind.wrap .u64 ((iand .u64 (shrI .u64 x1 1) 6148914691236517205) + (iand .u64 x1 6148914691236517205))) 3689348814741910323))) 4) + (IntKind.wrap .u64 ((iand .u64 (shrI .u64 (IntKind.wrap .u64 ((iand .u64 (shrI .u64 x1 1) 6148914691236517205) + (iand .u64 x1 6148914691236517205))) 2) 3689348814741910323) + (iand .u64 (IntKind.wrap .u64 ((iand .u64 (shrI .u64 x1 1) 6148914691236517205) + (iand .u64 x1 6148914691236517205))) 3689348814741910323))))) 1085102592571150095) 8))) + (shrI .u64 (IntKind.wrap .u64 ((iand .u64 (IntKind.wrap .u64 ((shrI .u64 (IntKind.wrap .u64 ((iand .u64 (shrI .u64 (IntKind.wrap .u64 ((iand .u64 (shrI .u64 x1 1) 6148914691236517205) + (iand .u64 x1 6148914691236517205))) 2) 3689348814741910323) + (iand .u64 (IntKind.wrap .u64 ((iand .u64 (shrI .u64 x1 1) 6148914691236517205) + (iand .u64 x1 6148914691236517205))) 3689348814741910323))) 4) + (IntKind.wrap .u64 ((iand .u64 (shrI .u64 (IntKind.wrap .u64 ((iand .u64 (shrI .u64 x1 1) 6148914691236517205) + (iand .u64 x1 6148914691236517205))) 2) 3689348814741910323) + (iand .u64 (IntKind.wrap .u64 ((iand .u64 (shrI .u64 x1 1) 6148914691236517205) + (iand .u64 x1 6148914691236517205))) 3689348814741910323))))) 1085102592571150095) + (shrI .u64 (iand .u64 (IntKind.wrap .u64 ((shrI .u64 (IntKind.wrap .u64 ((iand .u64 (shrI .u64 (IntKind.wrap .u64 ((iand .u64 (shrI .u64 x1 1) 6148914691236517205) + (iand .u64 x1 6148914691236517205))) 2) 3689348814741910323) + (iand .u64 (IntKind.wrap .u64 ((iand .u64 (shrI .u64 x1 1) 6148914691236517205) + (iand .u64 x1 6148914691236517205))) 3689348814741910323))) 4) + (IntKind.wrap .u64 ((iand .u64 (shrI .u64 (IntKind.wrap .u64 ((iand .u64 (shrI .u64 x1 1) 6148914691236517205) + (iand .u64 x1 6148914691236517205))) 2) 3689348814741910323) + (iand .u64 (IntKind.wrap .u64 ((iand .u64 (shrI .u64 x1 1) 6148914691236517205) + (iand .u64 x1 6148914691236517205))) 3689348814741910323))))) 1085102592571150095) 8))) 16))) + (shrI .u64 (IntKind.wrap .u64 ((IntKind.wrap .u64 ((iand .u64 (IntKind.wrap .u64 ((shrI .u64 (IntKind.wrap .u64 ((iand .u64 (shrI .u64 (IntKind.wrap .u64 ((iand .u64 (shrI .u64 x1 1) 6148914691236517205) + (iand .u64 x1 6148914691236517205))) 2) 3689348814741910323) + (iand .u64 (IntKind.wrap .u64 ((iand .u64 (shrI .u64 x1 1) 6148914691236517205) + (iand .u64 x1 6148914691236517205))) 3689348814741910323))) 4) + (IntKind.wrap .u64 ((iand .u64 (shrI .u64 (IntKind.wrap .u64 ((iand .u64 (shrI .u64 x1 1) 6148914691236517205) + (iand .u64 x1 6148914691236517205))) 2) 3689348814741910323) + (iand .u64 (IntKind.wrap .u64 ((iand .u64 (shrI .u64 x1 1) 6148914691236517205) + (iand .u64 x1 6148914691236517205))) 3689348814741910323))))) 1085102592571150095) + (shrI .u64 (iand .u64 (IntKind.wrap .u64 ((shrI .u64 (IntKind.wrap .u64 ((iand .u64 (shrI .u64 (IntKind.wrap .u64 ((iand .u64 (shrI .u64 x1 1) 6148914691236517205) + (iand .u64 x1 6148914691236517205))) 2) 3689348814741910323) + (iand .u64 (IntKind.wrap .u64 ((iand .u64 (shrI .u64 x1 1) 6148914691236517205) + (iand .u64 x1 6148914691236517205))) 3689348814741910323))) 4) + (IntKind.wrap .u64 ((iand .u64 (shrI .u64 (IntKind.wrap .u64 ((iand .u64 (shrI .u64 x1 1) 6148914691236517205) + (iand .u64 x1 6148914691236517205))) 2) 3689348814741910323) + (iand .u64 (IntKind.wrap .u64 ((iand .u64 (shrI .u64 x1 1) 6148914691236517205) + (iand .u64 x1 6148914691236517205))) 3689348814741910323))))) 1085102592571150095) 8))) + (shrI .u64 (IntKind.wrap .u64 ((iand .u64 (IntKind.wrap .u64 ((shrI .u64 (IntKind.wrap .u64 ((iand .u64 (shrI .u64 (IntKind.wrap .u64 ((iand .u64 (shrI .u64 x1 1) 6148914691236517205) + (iand .u64 x1 6148914691236517205))) 2) 3689348814741910323) + (iand .u64 (IntKind.wrap .u64 ((iand .u64 (shrI .u64 x1 1) 6148914691236517205) + (iand .u64 x1 6148914691236517205))) 3689348814741910323))) 4) + (IntKind.wrap .u64 ((iand .u64 (shrI .u64 (IntKind.wrap .u64 ((iand .u64 (shrI .u64 x1 1) 6148914691236517205) + (iand .u64 x1 6148914691236517205))) 2) 3689348814741910323) + (iand .u64 (IntKind.wrap .u64 ((iand .u64 (shrI .u64 x1 1) 6148914691236517205) + (iand .u64 x1 6148914691236517205))) 3689348814741910323))))) 1085102592571150095) + (shrI .u64 (iand .u64 (IntKind.wrap .u64 ((shrI .u64 (IntKind.wrap .u64 ((iand .u64 (shrI .u64 (IntKind.wrap .u64 ((iand .u64 (shrI .u64 x1 1) 6148914691236517205) + (iand .u64 x1 6148914691236517205))) 2) 3689348814741910323) + (iand .u64 (IntKind.wrap .u64 ((iand .u64 (shrI .u64 x1 1) 6148914691236517205) + (iand .u64 x1 6148914691236517205))) 3689348814741910323))) 4) + (IntKind.wrap .u64 ((iand .u64 (shrI .u64 (IntKind.wrap .u64 ((iand .u64 (shrI .u64 x1 1) 6148914691236517205) + (iand .u64 x1 6148914691236517205))) 2) 3689348814741910323) + (iand .u64 (IntKind.wrap .u64 ((iand .u64 (shrI .u64 x1 1) 6148914691236517205) + (iand .u64 x1 6148914691236517205))) 3689348814741910323))))) 1085102592571150095) 8))) 16))) 32)))) 127)) (Q_and rfl rfl) rfl rfl ?_
  refine nq (v := .int .i64 (iand .i64 (IntKind.wrap .i64 (IntKind.wrap .u64 ((IntKind.wrap .u64 ((IntKind.wrap .u64 ((iand .u64 (IntKind.wrap .u64 ((shrI .u64 (IntKind.wrap .u64 ((iand .u64 (shrI .u64 (IntKind.wrap .u64 ((iand .u64 (shrI .u64 x1 1) 6148914691236517205) + (iand .u64 x1 6148914691236517205))) 2) 3689348814741910323) + (iand .u64 (IntKind.wrap .u64 ((iand .u64 (shrI .u64 x1 1) 6148914691236517205) + (iand .u64 x1 6148914691236517205))) 3689348814741910323))) 4) + (IntKind.wrap .u64 ((iand .u64 (shrI .u64 (IntKind.wrap .u64 ((iand .u64 (shrI .u64 x1 1) 6148914691236517205) + (iand .u64 x1 6148914691236517205))) 2) 3689348814741910323) + (iand .u64 (IntKind.wrap .u64 ((iand .u64 (shrI .u64 x1 1) 6148914691236517205) + (iand .u64 x1 6148914691236517205))) 3689348814741910323))))) 1085102592571150095) + (shrI .u64 (iand .u64 (IntKind.wrap .u64 ((shrI .u64 (IntKind.wrap .u64 ((iand .u64 (shrI .u64 (IntKind.wrap .u64 ((iand .u64 (shrI .u64 x1 1) 6148914691236517205) + (iand .u64 x1 6148914691236517205))) 2) 3689348814741910323) + (iand .u64 (IntKind.wrap .u64 ((iand .u64 (shrI .u64 x1 1) 6148914691236517205) + (iand .u64 x1 6148914691236517205))) 3689348814741910323))) 4) + (IntKind.wrap .u64 ((iand .u64 (shrI .u64 (IntKind.wrap .u64 ((iand .u64 (shrI .u64 x1 1) 6148914691236517205) + (iand .u64 x1 6148914691236517205))) 2) 3689348814741910323) + (iand .u64 (IntKind.wrap .u64 ((iand .u64 (shrI .u64 x1 1) 6148914691236517205) + (iand .u64 x1 6148914691236517205))) 3689348814741910323))))) 1085102592571150095) 8))) + (shrI .u64 (IntKind.wrap .u64 ((iand .u64 (IntKind.wrap .u64 ((shrI .u64 (IntKind.wrap .u64 ((iand .u64 (shrI .u64 (IntKind.wrap .u64 ((iand .u64 (shrI .u64 x1 1) 6148914691236517205) + (iand .u64 x1 6148914691236517205))) 2) 3689348814741910323) + (iand .u64 (IntKind.wrap .u64 ((iand .u64 (shrI .u64 x1 1) 6148914691236517205) + (iand .u64 x1 6148914691236517205))) 3689348814741910323))) 4) + (IntKind.wrap .u64 ((iand .u64 (shrI .u64 (IntKind.wrap .u64 ((iand .u64 (shrI .u64 x1 1) 6148914691236517205) + (iand .u64 x1 6148914691236517205))) 2) 3689348814741910323) + (iand .u64 (IntKind.wrap .u64 ((iand .u64 (shrI .u64 x1 1) 6148914691236517205) + (iand .u64 x1 6148914691236517205))) 3689348814741910323))))) 1085102592571150095) + (shrI .u64 (iand .u64 (IntKind.wrap .u64 ((shrI .u64 (IntKind.wrap .u64 ((iand .u64 (shrI .u64 (IntKind.wrap .u64 ((iand .u64 (shrI .u64 x1 1) 6148914691236517205) + (iand .u64 x1 6148914691236517205))) 2) 3689348814741910323) + (iand .u64 (IntKind.wrap .u64 ((iand .u64 (shrI .u64 x1 1) 6148914691236517205) + (iand .u64 x1 6148914691236517205))) 3689348814741910323))) 4) + (IntKind.wrap .u64 ((iand .u64 (shrI .u64 (IntKind.wrap .u64 ((iand .u64 (shrI .u64 x1 1) 6148914691236517205) + (iand .u64 x1 6148914691236517205))) 2) 3689348814741910323) + (iand .u64 (IntKind.wrap .u64 ((iand .u64 (shrI .u64 x1 1) 6148914691236517205) + (iand .u64 x1 6148914691236517205))) 3689348814741910323))))) 1085102592571150095) 8))) 16))) + (shrI .u64 (IntKind.wrap .u64 ((IntKind.wrap .u64 ((iand .u64 (IntKind.wrap .u64 ((shrI .u64 (IntKind.wrap .u64 ((iand .u64 (shrI .u64 (IntKind.wrap .u64 ((iand .u64 (shrI .u64 x1 1) 6148914691236517205) + (iand .u64 x1 6148914691236517205))) 2) 3689348814741910323) + (iand .u64 (IntKind.wrap .u64 ((iand .u64 (shrI .u64 x1 1) 6148914691236517205) + (iand .u64 x1 6148914691236517205))) 3689348814741910323))) 4) + (IntKind.wrap .u64 ((iand .u64 (shrI .u64 (IntKind.wrap .u64 ((iand .u64 (shrI .u64 x1 1) 6148914691236517205) + (iand .u64 x1 6148914691236517205))) 2) 3689348814741910323) + (iand .u64 (IntKind.wrap .u64 ((iand .u64 (shrI .u64 x1 1) 6148914691236517205) + (iand .u64 x1 6148914691236517205))) 3689348814741910323))))) 1085102592571150095) + (shrI .u64 (iand .u64 (IntKind.wrap .u64 ((shrI .u64 (IntKind.wrap .u64 ((iand .u64 (shrI .u64 (IntKind.wrap .u64 ((iand .u64 (shrI .u64 x1 1) 6148914691236517205) + (iand .u64 x1 6148914691236517205))) 2) 3689348814741910323) + (iand .u64 (IntKind.wrap .u64 ((iand .u64 (shrI .u64 x1 1) 6148914691236517205) + (iand .u64 x1 6148914691236517205))) 3689348814741910323))) 4) + (IntKind.wrap .u64 ((iand .u64 (shrI .u64 (IntKind.wrap .u64 ((iand .u64 (shrI .u64 x1 1) 6148914691236517205) + (iand .u64 x1 6148914691236517205))) 2) 3689348814741910323) + (iand .u64 (IntKind.wrap .u64 ((iand .u64 (shrI .u64 x1 1) 6148914691236517205) + (iand .u64 x1 6148914691236517205))) 3689348814741910323))))) 1085102592571150095) 8))) + (shrI .u64 (IntKind.wrap .u64 ((iand .u64 (IntKind.wrap .u64 ((shrI .u64 (IntKind.wrap .u64 ((iand .u64 (shrI .u64 (IntKind.wrap .u64 ((iand .u64 (shrI .u64 x1 1) 6148914691236517205) + (iand .u64 x1 6148914691236517205))) 2) 3689348814741910323) + (iand .u64 (IntKind.wrap .u64 ((iand .u64 (shrI .u64 x1 1) 6148914691236517205) + (iand .u64 x1 6148914691236517205))) 3689348814741910323))) 4) + (IntKind.wrap .u64 ((iand .u64 (shrI .u64 (IntKind.wrap .u64 ((iand .u64 (shrI .u64 x1 1) 6148914691236517205) + (iand .u64 x1 6148914691236517205))) 2) 3689348814741910323) + (iand .u64 (IntKind.wrap .u64 ((iand .u64 (shrI .u64 x1 1) 6148914691236517205) + (iand .u64 x1 6148914691236517205))) 3689348814741910323))))) 1085102592571150095) + (shrI .u64 (iand .u64 (IntKind.wrap .u64 ((shrI .u64 (IntKind.wrap .u64 ((iand .u64 (shrI .u64 (IntKind.wrap .u64 ((iand .u64 (shrI .u64 x1 1) 6148914691236517205) + (iand .u64 x1 6148914691236517205))) 2) 3689348814741910323) + (iand .u64 (IntKind.wrap .u64 ((iand .u64 (shrI .u64 x1 1) 6148914691236517205) + (iand .u64 x1 6148914691236517205))) 3689348814741910323))) 4) + (IntKind.wrap .u64 ((iand .u64 (shrI .u64 (IntKind.wrap .u64 ((iand .u64 (shrI .u64 x1 1) 6148914691236517205) + (iand .u64 x1 6148914691236517205))) 2) 3689348814741910323) + (iand .u64 (IntKind.wrap .u64 ((iand .u64 (shrI .u64 x1 1) 6148914691236517205) + (iand .u64 x1 6148914691236517205))) 3689348814741910323))))) 1085102592571150095) 8))) 16))) 32)))) 127)) (Q_assign rfl) rfl rfl ?_
  refine WL_nil ?_
  refine x_then ?_
  refine CW.sub (E' := [(2, .int .i64 (iand .i64 (IntKind.wrap .i64 (IntKind.wrap .u64 ((IntKind.wrap .u64 ((IntKind.wrap .u64 ((iand .u64 (IntKind.wrap .u64 ((shrI .u64 (IntKind.wrap .u64 ((iand .u64 (shrI .u64 (IntKind.wrap .u64 ((iand .u64 (shrI .u64 x1 1) 6148914691236517205) + (iand .u64 x1 6148914691236517205))) 2) 3689348814741910323) + (iand .u64 (IntKind.wrap .u64 ((iand .u64 (shrI .u64 x1 1) 6148914691236517205) + (iand .u64 x1 6148914691236517205))) 3689348814741910323))) 4) + (IntKind.wrap .u64 ((iand .u64 (shrI .u64 (IntKind.wrap .u64 ((iand .u64 (shrI .u64 x1 1) 6148914691236517205) + (iand .u64 x1 6148914691236517205))) 2) 3689348814741910323) + (iand .u64 (IntKind.wrap .u64 ((iand .u64 (shrI .u64 x1 1) 6148914691236517205) + (iand .u64 x1 6148914691236517205))) 3689348814741910323))))) 1085102592571150095) + (shrI .u64 (iand .u64 (IntKind.wrap .u64 ((shrI .u64 (IntKind.wrap .u64 ((iand .u64 (shrI .u64 (IntKind.wrap .u64 ((iand .u64 (shrI .u64 x1 1) 6148914691236517205) + (iand .u64 x1 6148914691236517205))) 2) 3689348814741910323) + (iand .u64 (IntKind.wrap .u64 ((iand .u64 (shrI .u64 x1 1) 6148914691236517205) + (iand .u64 x1 6148914691236517205))) 3689348814741910323))) 4) + (IntKind.wrap .u64 ((iand .u64 (shrI .u64 (IntKind.wrap .u64 ((iand .u64 (shrI .u64 x1 1) 6148914691236517205) + (iand .u64 x1 6148914691236517205))) 2) 3689348814741910323) + (iand .u64 (IntKind.wrap .u64 ((iand .u64 (shrI .u64 x1 1) 6148914691236517205) + (iand .u64 x1 6148914691236517205))) 3689348814741910323))))) 1085102592571150095) 8))) + (shrI .u64 (IntKind.wrap .u64 ((iand .u64 (IntKind.wrap .u64 ((shrI .u64 (IntKind.wrap .u64 ((iand .u64 (shrI .u64 (IntKind.wrap .u64 ((iand .u64 (shrI .u64 x1 1) 6148914691236517205) + (iand .u64 x1 6148914691236517205))) 2) 3689348814741910323) + (iand .u64 (IntKind.wrap .u64 ((iand .u64 (shrI .u64 x1 1) 6148914691236517205) + (iand .u64 x1 6148914691236517205))) 3689348814741910323))) 4) + (IntKind.wrap .u64 ((iand .u64 (shrI .u64 (IntKind.wrap .u64 ((iand .u64 (shrI .u64 x1 1) 6148914691236517205) + (iand .u64 x1 6148914691236517205))) 2) 3689348814741910323) + (iand .u64 (IntKind.wrap .u64 ((iand .u64 (shrI .u64 x1 1) 6148914691236517205) + (iand .u64 x1 6148914691236517205))) 3689348814741910323))))) 1085102592571150095) + (shrI .u64 (iand .u64 (IntKind.wrap .u64 ((shrI .u64 (IntKind.wrap .u64 ((iand .u64 (shrI .u64 (IntKind.wrap .u64 ((iand .u64 (shrI .u64 x1 1) 6148914691236517205) + (iand .u64 x1 6148914691236517205))) 2) 3689348814741910323) + (iand .u64 (IntKind.wrap .u64 ((iand .u64 (shrI .u64 x1 1) 6148914691236517205) + (iand .u64 x1 6148914691236517205))) 3689348814741910323))) 4) + (IntKind.wrap .u64 ((iand .u64 (shrI .u64 (IntKind.wrap .u64 ((iand .u64 (shrI .u64 x1 1) 6148914691236517205) + (iand .u64 x1 6148914691236517205))) 2) 3689348814741910323) + (iand .u64 (IntKind.wrap .u64 ((iand .u64 (shrI .u64 x1 1) 6148914691236517205) + (iand .u64 x1 6148914691236517205))) 3689348814741910323))))) 1085102592571150095) 8))) 16))) + (shrI .u64 (IntKind.wrap .u64 ((IntKind.wrap .u64 ((iand .u64 (IntKind.wrap .u64 ((shrI .u64 (IntKind.wrap .u64 ((iand .u64 (shrI .u64 (IntKind.wrap .u64 ((iand .u64 (shrI .u64 x1 1) 6148914691236517205) + (iand .u64 x1 6148914691236517205))) 2) 3689348814741910323) + (iand .u64 (IntKind.wrap .u64 ((iand .u64 (shrI .u64 x1 1) 6148914691236517205) + (iand .u64 x1 6148914691236517205))) 3689348814741910323))) 4) + (IntKind.wrap .u64 ((iand .u64 (shrI .u64 (IntKind.wrap .u64 ((iand .u64 (shrI .u64 x1 1) 6148914691236517205) + (iand .u64 x1 6148914691236517205))) 2) 3689348814741910323) + (iand .u64 (IntKind.wrap .u64 ((iand .u64 (shrI .u64 x1 1) 6148914691236517205) + (iand .u64 x1 6148914691236517205))) 3689348814741910323))))) 1085102592571150095) + (shrI .u64 (iand .u64 (IntKind.wrap .u64 ((shrI .u64 (IntKind.wrap .u64 ((iand .u64 (shrI .u64 (IntKind.wrap .u64 ((iand .u64 (shrI .u64 x1 1) 6148914691236517205) + (iand .u64 x1 6148914691236517205))) 2) 3689348814741910323) + (iand .u64 (IntKind.wrap .u64 ((iand .u64 (shrI .u64 x1 1) 6148914691236517205) + (iand .u64 x1 6148914691236517205))) 3689348814741910323))) 4) + (IntKind.wrap .u64 ((iand .u64 (shrI .u64 (IntKind.wrap .u64 ((iand .u64 (shrI .u64 x1 1) 6148914691236517205) + (iand .u64 x1 6148914691236517205))) 2) 3689348814741910323) + (iand .u64 (IntKind.wrap .u64 ((iand .u64 (shrI .u64 x1 1) 6148914691236517205) + (iand .u64 x1 6148914691236517205))) 3689348814741910323))))) 1085102592571150095) 8))) + (shrI .u64 (IntKind.wrap .u64 ((iand .u64 (IntKind.wrap .u64 ((shrI .u64 (IntKind.wrap .u64 ((iand .u64 (shrI .u64 (IntKind.wrap .u64 ((iand .u64 (shrI .u64 x1 1) 6148914691236517205) + (iand .u64 x1 6148914691236517205))) 2) 3689348814741910323) + (iand .u64 (IntKind.wrap .u64 ((iand .u64 (shrI .u64 x1 1) 6148914691236517205) + (iand .u64 x1 6148914691236517205))) 3689348814741910323))) 4) + (IntKind.wrap .u64 ((iand .u64 (shrI .u64 (IntKind.wrap .u64 ((iand .u64 (shrI .u64 x1 1) 6148914691236517205) + (iand .u64 x1 6148914691236517205))) 2) 3689348814741910323) + (iand .u64 (IntKind.wrap .u64 ((iand .u64 (shrI .u64 x1 1) 6148914691236517205) + (iand .u64 x1 6148914691236517205))) 3689348814741910323))))) 1085102592571150095) + (shrI .u64 (iand .u64 (IntKind.wrap .u64 ((shrI .u64 (IntKind.wrap .u64 ((iand .u64 (shrI .u64 (IntKind.wrap .u64 ((iand .u64 (shrI .u64 x1 1) 6148914691236517205) + (iand .u64 x1 6148914691236517205))) 2) 3689348814741910323) + (iand .u64 (IntKind.wrap .u64 ((iand .u64 (shrI .u64 x1 1) 6148914691236517205) + (iand .u64 x1 6148914691236517205))) 3689348814741910323))) 4) + (IntKind.wrap .u64 ((iand .u64 (shrI .u64 (IntKind.wrap .u64 ((iand .u64 (shrI .u64 x1 1) 6148914691236517205) + (iand .u64 x1 6148914691236517205))) 2) 3689348814741910323) + (iand .u64 (IntKind.wrap .u64 ((iand .u64 (shrI .u64 x1 1) 6148914691236517205) + (iand .u64 x1 6148914691236517205))) 3689348814741910323))))) 1085102592571150095) 8))) 16))) 32)))) 127))]) ⟨rfl, trivial⟩ ?_
  refine C_ret ?_
  obtain rfl := Option.some.inj hF
  exact fn_ret (l := [.tmp 2]) (vs := [.int .i64 (iand .i64 (IntKind.wrap .i64 (IntKind.wrap .u64 ((IntKind.wrap .u64 ((IntKind.wrap .u64 ((iand .u64 (IntKind.wrap .u64 ((shrI .u64 (IntKind.wrap .u64 ((iand .u64 (shrI .u64 (IntKind.wrap .u64 ((iand .u64 (shrI .u64 x1 1) 6148914691236517205) + (iand .u64 x1 6148914691236517205))) 2) 3689348814741910323) + (iand .u64 (IntKind.wrap .u64 ((iand .u64 (shrI .u64 x1 1) 6148914691236517205) + (iand .u64 x1 6148914691236517205))) 3689348814741910323))) 4) + (IntKind.wrap .u64 ((iand .u64 (shrI .u64 (IntKind.wrap .u64 ((iand .u64 (shrI .u64 x1 1) 6148914691236517205) + (iand .u64 x1 6148914691236517205))) 2) 3689348814741910323) + (iand .u64 (IntKind.wrap .u64 ((iand .u64 (shrI .u64 x1 1) 6148914691236517205) + (iand .u64 x1 6148914691236517205))) 3689348814741910323))))) 1085102592571150095) + (shrI .u64 (iand .u64 (IntKind.wrap .u64 ((shrI .u64 (IntKind.wrap .u64 ((iand .u64 (shrI .u64 (IntKind.wrap .u64 ((iand .u64 (shrI .u64 x1 1) 6148914691236517205) + (iand .u64 x1 6148914691236517205))) 2) 3689348814741910323) + (iand .u64 (IntKind.wrap .u64 ((iand .u64 (shrI .u64 x1 1) 6148914691236517205) + (iand .u64 x1 6148914691236517205))) 3689348814741910323))) 4) + (IntKind.wrap .u64 ((iand .u64 (shrI .u64 (IntKind.wrap .u64 ((iand .u64 (shrI .u64 x1 1) 6148914691236517205) + (iand .u64 x1 6148914691236517205))) 2) 3689348814741910323) + (iand .u64 (IntKind.wrap .u64 ((iand .u64 (shrI .u64 x1 1) 6148914691236517205) + (iand .u64 x1 6148914691236517205))) 3689348814741910323))))) 1085102592571150095) 8))) + (shrI .u64 (IntKind.wrap .u64 ((iand .u64 (IntKind.wrap .u64 ((shrI .u64 (IntKind.wrap .u64 ((iand .u64 (shrI .u64 (IntKind.wrap .u64 ((iand .u64 (shrI .u64 x1 1) 6148914691236517205) + (iand .u64 x1 6148914691236517205))) 2) 3689348814741910323) + (iand .u64 (IntKind.wrap .u64 ((iand .u64 (shrI .u64 x1 1) 6148914691236517205) + (iand .u64 x1 6148914691236517205))) 3689348814741910323))) 4) + (IntKind.wrap .u64 ((iand .u64 (shrI .u64 (IntKind.wrap .u64 ((iand .u64 (shrI .u64 x1 1) 6148914691236517205) + (iand .u64 x1 6148914691236517205))) 2) 3689348814741910323) + (iand .u64 (IntKind.wrap .u64 ((iand .u64 (shrI .u64 x1 1) 6148914691236517205) + (iand .u64 x1 6148914691236517205))) 3689348814741910323))))) 1085102592571150095) + (shrI .u64 (iand .u64 (IntKind.wrap .u64 ((shrI .u64 (IntKind.wrap .u64 ((iand .u64 (shrI .u64 (IntKind.wrap .u64 ((iand .u64 (shrI .u64 x1 1) 6148914691236517205) + (iand .u64 x1 6148914691236517205))) 2) 3689348814741910323) + (iand .u64 (IntKind.wrap .u64 ((iand .u64 (shrI .u64 x1 1) 6148914691236517205) + (iand .u64 x1 6148914691236517205))) 3689348814741910323))) 4) + (IntKind.wrap .u64 ((iand .u64 (shrI .u64 (IntKind.wrap .u64 ((iand .u64 (shrI .u64 x1 1) 6148914691236517205) + (iand .u64 x1 6148914691236517205))) 2) 3689348814741910323) + (iand .u64 (IntKind.wrap .u64 ((iand .u64 (shrI .u64 x1 1) 6148914691236517205) + (iand .u64 x1 6148914691236517205))) 3689348814741910323))))) 1085102592571150095) 8))) 16))) + (shrI .u64 (IntKind.wrap .u64 ((IntKind.wrap .u64 ((iand .u64 (IntKind.wrap .u64 ((shrI .u64 (IntKind.wrap .u64 ((iand .u64 (shrI .u64 (IntKind.wrap .u64 ((iand .u64 (shrI .u64 x1 1) 6148914691236517205) + (iand .u64 x1 6148914691236517205))) 2) 3689348814741910323) + (iand .u64 (IntKind.wrap .u64 ((iand .u64 (shrI .u64 x1 1) 6148914691236517205) + (iand .u64 x1 6148914691236517205))) 3689348814741910323))) 4) + (IntKind.wrap .u64 ((iand .u64 (shrI .u64 (IntKind.wrap .u64 ((iand .u64 (shrI .u64 x1 1) 6148914691236517205) + (iand .u64 x1 6148914691236517205))) 2) 3689348814741910323) + (iand .u64 (IntKind.wrap .u64 ((iand .u64 (shrI .u64 x1 1) 6148914691236517205) + (iand .u64 x1 6148914691236517205))) 3689348814741910323))))) 1085102592571150095) + (shrI .u64 (iand .u64 (IntKind.wrap .u64 ((shrI .u64 (IntKind.wrap .u64 ((iand .u64 (shrI .u64 (IntKind.wrap .u64 ((iand .u64 (shrI .u64 x1 1) 6148914691236517205) + (iand .u64 x1 6148914691236517205))) 2) 3689348814741910323) + (iand .u64 (IntKind.wrap .u64 ((iand .u64 (shrI .u64 x1 1) 6148914691236517205) + (iand .u64 x1 6148914691236517205))) 3689348814741910323))) 4) + (IntKind.wrap .u64 ((iand .u64 (shrI .u64 (IntKind.wrap .u64 ((iand .u64 (shrI .u64 x1 1) 6148914691236517205) + (iand .u64 x1 6148914691236517205))) 2) 3689348814741910323) + (iand .u64 (IntKind.wrap .u64 ((iand .u64 (shrI .u64 x1 1) 6148914691236517205) + (iand .u64 x1 6148914691236517205))) 3689348814741910323))))) 1085102592571150095) 8))) + (shrI .u64 (IntKind.wrap .u64 ((iand .u64 (IntKind.wrap .u64 ((shrI .u64 (IntKind.wrap .u64 ((iand .u64 (shrI .u64 (IntKind.wrap .u64 ((iand .u64 (shrI .u64 x1 1) 6148914691236517205) + (iand .u64 x1 6148914691236517205))) 2) 3689348814741910323) + (iand .u64 (IntKind.wrap .u64 ((iand .u64 (shrI .u64 x1 1) 6148914691236517205) + (iand .u64 x1 6148914691236517205))) 3689348814741910323))) 4) + (IntKind.wrap .u64 ((iand .u64 (shrI .u64 (IntKind.wrap .u64 ((iand .u64 (shrI .u64 x1 1) 6148914691236517205) + (iand .u64 x1 6148914691236517205))) 2) 3689348814741910323) + (iand .u64 (IntKind.wrap .u64 ((iand .u64 (shrI .u64 x1 1) 6148914691236517205) + (iand .u64 x1 6148914691236517205))) 3689348814741910323))))) 1085102592571150095) + (shrI .u64 (iand .u64 (IntKind.wrap .u64 ((shrI .u64 (IntKind.wrap .u64 ((iand .u64 (shrI .u64 (IntKind.wrap .u64 ((iand .u64 (shrI .u64 x1 1) 6148914691236517205) + (iand .u64 x1 6148914691236517205))) 2) 3689348814741910323) + (iand .u64 (IntKind.wrap .u64 ((iand .u64 (shrI .u64 x1 1) 6148914691236517205) + (iand .u64 x1 6148914691236517205))) 3689348814741910323))) 4) + (IntKind.wrap .u64 ((iand .u64 (shrI .u64 (IntKind.wrap .u64 ((iand .u64 (shrI .u64 x1 1) 6148914691236517205) + (iand .u64 x1 6148914691236517205))) 2) 3689348814741910323) + (iand .u64 (IntKind.wrap .u64 ((iand .u64 (shrI .u64 x1 1) 6148914691236517205) + (iand .u64 x1 6148914691236517205))) 3689348814741910323))))) 1085102592571150095) 8))) 16))) 32)))) 127)]) rfl rfl rfl ⟨iand .i64 (IntKind.wrap .i64 (IntKind.wrap .u64 ((IntKind.wrap .u64 ((IntKind.wrap .u64 ((iand .u64 (IntKind.wrap .u64 ((shrI .u64 (IntKind.wrap .u64 ((iand .u64 (shrI .u64 (IntKind.wrap .u64 ((iand .u64 (shrI .u64 x1 1) 6148914691236517205) + (iand .u64 x1 6148914691236517205))) 2) 3689348814741910323) + (iand .u64 (IntKind.wrap .u64 ((iand .u64 (shrI .u64 x1 1) 6148914691236517205) + (iand .u64 x1 6148914691236517205))) 3689348814741910323))) 4) + (IntKind.wrap .u64 ((iand .u64 (shrI .u64 (IntKind.wrap .u64 ((iand .u64 (shrI .u64 x1 1) 6148914691236517205) + (iand .u64 x1 6148914691236517205))) 2) 3689348814741910323) + (iand .u64 (IntKind.wrap .u64 ((iand .u64 (shrI .u64 x1 1) 6148914691236517205) + (iand .u64 x1 6148914691236517205))) 3689348814741910323))))) 1085102592571150095) + (shrI .u64 (iand .u64 (IntKind.wrap .u64 ((shrI .u64 (IntKind.wrap .u64 ((iand .u64 (shrI .u64 (IntKind.wrap .u64 ((iand .u64 (shrI .u64 x1 1) 6148914691236517205) + (iand .u64 x1 6148914691236517205))) 2) 3689348814741910323) + (iand .u64 (IntKind.wrap .u64 ((iand .u64 (shrI .u64 x1 1) 6148914691236517205) + (iand .u64 x1 6148914691236517205))) 3689348814741910323))) 4) + (IntKind.wrap .u64 ((iand .u64 (shrI .u64 (IntKind.wrap .u64 ((iand .u64 (shrI .u64 x1 1) 6148914691236517205) + (iand .u64 x1 6148914691236517205))) 2) 3689348814741910323) + (iand .u64 (IntKind.wrap .u64 ((iand .u64 (shrI .u64 x1 1) 6148914691236517205) + (iand .u64 x1 6148914691236517205))) 3689348814741910323))))) 1085102592571150095) 8))) + (shrI .u64 (IntKind.wrap .u64 ((iand .u64 (IntKind.wrap .u64 ((shrI .u64 (IntKind.wrap .u64 ((iand .u64 (shrI .u64 (IntKind.wrap .u64 ((iand .u64 (shrI .u64 x1 1) 6148914691236517205) + (iand .u64 x1 6148914691236517205))) 2) 3689348814741910323) + (iand .u64 (IntKind.wrap .u64 ((iand .u64 (shrI .u64 x1 1) 6148914691236517205) + (iand .u64 x1 6148914691236517205))) 3689348814741910323))) 4) + (IntKind.wrap .u64 ((iand .u64 (shrI .u64 (IntKind.wrap .u64 ((iand .u64 (shrI .u64 x1 1) 6148914691236517205) + (iand .u64 x1 6148914691236517205))) 2) 3689348814741910323) + (iand .u64 (IntKind.wrap .u64 ((iand .u64 (shrI .u64 x1 1) 6148914691236517205) + (iand .u64 x1 6148914691236517205))) 3689348814741910323))))) 1085102592571150095) + (shrI .u64 (iand .u64 (IntKind.wrap .u64 ((shrI .u64 (IntKind.wrap .u64 ((iand .u64 (shrI .u64 (IntKind.wrap .u64 ((iand .u64 (shrI .u64 x1 1) 6148914691236517205) + (iand .u64 x1 6148914691236517205))) 2) 3689348814741910323) + (iand .u64 (IntKind.wrap .u64 ((iand .u64 (shrI .u64 x1 1) 6148914691236517205) + (iand .u64 x1 6148914691236517205))) 3689348814741910323))) 4) + (IntKind.wrap .u64 ((iand .u64 (shrI .u64 (IntKind.wrap .u64 ((iand .u64 (shrI .u64 x1 1) 6148914691236517205) + (iand .u64 x1 6148914691236517205))) 2) 3689348814741910323) + (iand .u64 (IntKind.wrap .u64 ((iand .u64 (shrI .u64 x1 1) 6148914691236517205) + (iand .u64 x1 6148914691236517205))) 3689348814741910323))))) 1085102592571150095) 8))) 16))) + (shrI .u64 (IntKind.wrap .u64 ((IntKind.wrap .u64 ((iand .u64 (IntKind.wrap .u64 ((shrI .u64 (IntKind.wrap .u64 ((iand .u64 (shrI .u64 (IntKind.wrap .u64 ((iand .u64 (shrI .u64 x1 1) 6148914691236517205) + (iand .u64 x1 6148914691236517205))) 2) 3689348814741910323) + (iand .u64 (IntKind.wrap .u64 ((iand .u64 (shrI .u64 x1 1) 6148914691236517205) + (iand .u64 x1 6148914691236517205))) 3689348814741910323))) 4) + (IntKind.wrap .u64 ((iand .u64 (shrI .u64 (IntKind.wrap .u64 ((iand .u64 (shrI .u64 x1 1) 6148914691236517205) + (iand .u64 x1 6148914691236517205))) 2) 3689348814741910323) + (iand .u64 (IntKind.wrap .u64 ((iand .u64 (shrI .u64 x1 1) 6148914691236517205) + (iand .u64 x1 6148914691236517205))) 3689348814741910323))))) 1085102592571150095) + (shrI .u64 (iand .u64 (IntKind.wrap .u64 ((shrI .u64 (IntKind.wrap .u64 ((iand .u64 (shrI .u64 (IntKind.wrap .u64 ((iand .u64 (shrI .u64 x1 1) 6148914691236517205) + (iand .u64 x1 6148914691236517205))) 2) 3689348814741910323) + (iand .u64 (IntKind.wrap .u64 ((iand .u64 (shrI .u64 x1 1) 6148914691236517205) + (iand .u64 x1 6148914691236517205))) 3689348814741910323))) 4) + (IntKind.wrap .u64 ((iand .u64 (shrI .u64 (IntKind.wrap .u64 ((iand .u64 (shrI .u64 x1 1) 6148914691236517205) + (iand .u64 x1 6148914691236517205))) 2) 3689348814741910323) + (iand .u64 (IntKind.wrap .u64 ((iand .u64 (shrI .u64 x1 1) 6148914691236517205) + (iand .u64 x1 6148914691236517205))) 3689348814741910323))))) 1085102592571150095) 8))) + (shrI .u64 (IntKind.wrap .u64 ((iand .u64 (IntKind.wrap .u64 ((shrI .u64 (IntKind.wrap .u64 ((iand .u64 (shrI .u64 (IntKind.wrap .u64 ((iand .u64 (shrI .u64 x1 1) 6148914691236517205) + (iand .u64 x1 6148914691236517205))) 2) 3689348814741910323) + (iand .u64 (IntKind.wrap .u64 ((iand .u64 (shrI .u64 x1 1) 6148914691236517205) + (iand .u64 x1 6148914691236517205))) 3689348814741910323))) 4) + (IntKind.wrap .u64 ((iand .u64 (shrI .u64 (IntKind.wrap .u64 ((iand .u64 (shrI .u64 x1 1) 6148914691236517205) + (iand .u64 x1 6148914691236517205))) 2) 3689348814741910323) + (iand .u64 (IntKind.wrap .u64 ((iand .u64 (shrI .u64 x1 1) 6148914691236517205) + (iand .u64 x1 6148914691236517205))) 3689348814741910323))))) 1085102592571150095) + (shrI .u64 (iand .u64 (IntKind.wrap .u64 ((shrI .u64 (IntKind.wrap .u64 ((iand .u64 (shrI .u64 (IntKind.wrap .u64 ((iand .u64 (shrI .u64 x1 1) 6148914691236517205) + (iand .u64 x1 6148914691236517205))) 2) 3689348814741910323) + (iand .u64 (IntKind.wrap .u64 ((iand .u64 (shrI .u64 x1 1) 6148914691236517205) + (iand .u64 x1 6148914691236517205))) 3689348814741910323))) 4) + (IntKind.wrap .u64 ((iand .u64 (shrI .u64 (IntKind.wrap .u64 ((iand .u64 (shrI .u64 x1 1) 6148914691236517205) + (iand .u64 x1 6148914691236517205))) 2) 3689348814741910323) + (iand .u64 (IntKind.wrap .u64 ((iand .u64 (shrI .u64 x1 1) 6148914691236517205) + (iand .u64 x1 6148914691236517205))) 3689348814741910323))))) 1085102592571150095) 8))) 16))) 32)))) 127, rfl, rfl, H⟩
theorem c_53 {N : Nat} {C : Cx} {w : World} {ρ : View} {hs : List Hl} {b1 : Nat} {c2 : List Value} {v5 : Value} {x3 : (List Int)} {x6 : Int} (H : Hp C w ρ (Box b1 [v5, .int .i64 x6] :: Arr v5 1 c2 :: hs)) (r4 : rdL (eI .u64) ρ x3 c2) {r : Int} (hF : F_marks_Marks_Len N x3 x6 = some r) :
    Calls Tryd.prog 53 [.pointer (some ⟨b1, 0, none⟩)].toArray w (Rets (fun v w' => (∃ (x99 : Int), x99 = r ∧ .int .i64 x99 = v ∧ Hp C w' ρ (Box b1 [v5, .int .i64 x6] :: Arr v5 1 c2 :: hs)))) := by
  unfold F_marks_Marks_Len at hF
  have h0 : Tryd.f53.body = some _ := rfl
  refine fn_calls' Tryd.func53 h0 (n := 19) rfl (by simp) ?_
  refine C_seq ?_
  refine R_nd ?_
  refine nq (v := .int .i64 0) (Q_assign rfl) rfl rfl ?_
  refine WL_nil ?_
  refine x_then ?_
  refine CW.sub (E' := [(0, .pointer (some ⟨b1, 0, none⟩))]) ⟨rfl, trivial⟩ ?_
  refine C_seq ?_
  refine R_nd ?_
  refine nq (v := .int .i64 0) (Q_assign rfl) rfl rfl ?_
  refine WL_nil ?_
  refine x_then ?_
  refine CW.sub (E' := [(0, .pointer (some ⟨b1, 0, none⟩)), (3, .int .i64 0)]) ⟨rfl, rfl, trivial⟩ ?_
  refine C_seq ?_
  refine C_seq ?_
  refine R_nd ?_
  refine nq (v := .pointer (some ⟨b1, 0, none⟩)) (Q_move rfl) rfl rfl ?_
  replace H := H.front 1 rfl
  replace H : Hp C w ρ (Arr v5 1 c2 :: Box b1 [v5, .int .i64 x6] :: hs) := H
  replace H := H.front 1 rfl
  replace H : Hp C w ρ (Box b1 [v5, .int .i64 x6] :: Arr v5 1 c2 :: hs) := H
  obtain ⟨q100, hq100, hF⟩ := bnd hF
  refine ne (E_call fn77 rfl (c_77 H  r4 hq100)) rfl rfl ?_
  rintro _ wd102 ⟨rfl, rfl, H⟩
  try dsimp only at hF
  replace H : Hp C wd102 ρ (Box b1 [v5, .int .i64 x6] :: Arr v5 1 c2 :: hs) := H
  refine nq (v := .int .i64 (x3.length : Int)) (Q_lenA (k := 1) H.ok rfl r4 (by decide) Tryd.underlying92 rfl) rfl rfl ?_
  refine nq (v := .int .i64 0) (Q_move rfl) rfl rfl ?_
  refine WL_nil ?_
  refine x_then ?_
  refine CW.sub (E' := [(3, .int .i64 0), (7, v5), (8, .int .i64 (x3.length : Int)), (9, .int .i64 0)]) ⟨rfl, rfl, rfl, rfl, trivial⟩ ?_
  obtain ⟨o147, ho147, hF⟩ := bnd hF
  refine C_cutQ (fun a w' => ∃ (x146 : Int), x146 = o147 ∧ Fr 19 a [(3, .int .i64 x146)] ∧ Hp C w' ρ (Box b1 [v5, .int .i64 x6] :: Arr v5 1 c2 :: hs)) ?_ ?_
  · refine C_block ?_
    replace H := H.front 1 rfl
    replace H : Hp C wd102 ρ (Arr v5 1 c2 :: Box b1 [v5, .int .i64 x6] :: hs) := H
    replace H := H.front 1 rfl
    replace H : Hp C wd102 ρ (Box b1 [v5, .int .i64 x6] :: Arr v5 1 c2 :: hs) := H
    refine C_iter (f := fun s => F_marks_Marks_Len_l0 N x3 s.1 s.2) ho147 (fun s a w' => ∃ (x161 : Int) (x162 : Int), (x161, x162) = s ∧ Fr 19 a [(3, .int .i64 x161), (7, v5), (8, .int .i64 (x3.length : Int)), (9, .int .i64 x162)] ∧ Hp C w' ρ (Box b1 [v5, .int .i64 x6] :: Arr v5 1 c2 :: hs)) ?_ ?_
    · exact fun a hf => ⟨0, 0, rfl, hf.sub ⟨rfl, rfl, rfl, rfl, trivial⟩, H⟩
    · rintro s o176 a wd179 ⟨x161, x162, rfl, hf, H⟩ hB177 hO178
      replace hB177 : F_marks_Marks_Len_l0 N x3 x161 x162 = some o176 := hB177
      unfold F_marks_Marks_Len_l0 at hB177
      refine CW.at hf ?_
      refine C_seq ?_
      refine R_nd ?_
      refine nq (v := .bool (decide (x162 < (x3.length : Int)))) (Q_lss rfl rfl) rfl rfl ?_
      refine WL_nil ?_
      refine x_then ?_
      refine CW.sub (E' := [(3, .int .i64 x161), (7, v5), (8, .int .i64 (x3.length : Int)), (9, .int .i64 x162), (10, .bool (decide (x162 < (x3.length : Int))))]) ⟨rfl, rfl, rfl, rfl, rfl, trivial⟩ ?_
      refine C_seq ?_
      refine C_cond rfl (fun hb => ?_) (fun hb => ?_)
      · replace hB177 := itT hb hB177
        refine C_skip ?_
        refine x_then ?_
        refine CW.sub (E' := [(3, .int .i64 x161), (7, v5), (8, .int .i64 (x3.length : Int)), (9, .int .i64 x162)]) ⟨rfl, rfl, rfl, rfl, trivial⟩ ?_
        refine C_seq ?_
        refine C_block ?_
        refine C_seq ?_
        refine R_nd ?_
        obtain ⟨x180, hx180, hB177⟩ := bnd hB177
        obtain ⟨b181, o182, hi186, hc184, ha185⟩ := arr_at (hs := [Arr v5 1 c2]) (k := 0) (by decide) (H.okS (by simp)) rfl r4 hx180
        refine nq (v := .pointer (some ⟨b181, o182, none⟩)) (Q_idx hi186 Tryd.underlying92 ty95 rfl rfl) rfl rfl ?_
        refine nq (v := .int .u64 x180) (Q_ld (show cellsAt _ _ _ [.int .u64 x180] from (show _ = [_] from hc184) ▸ (ha185 _ (Ok.subS (by simp) H.ok))) ty95 rfl (fun _ => rfl) rfl rfl) rfl rfl ?_
        refine nq (v := .int .u64 x180) (Q_assign rfl) rfl rfl ?_
        refine WL_nil ?_
        refine x_then ?_
        refine CW.sub (E' := [(3, .int .i64 x161), (5, .int .u64 x180), (7, v5), (8, .int .i64 (x3.length : Int)), (9, .int .i64 x162)]) ⟨rfl, rfl, rfl, rfl, rfl, trivial⟩ ?_
        refine R_nd ?_
        refine nq (v := .int .i64 x161) (Q_move rfl) rfl rfl ?_
        refine nq (v := .int .u64 x180) (Q_move rfl) rfl rfl ?_
        obtain ⟨q187, hq187, hB177⟩ := bnd hB177
        refine ne (E_call fn78 rfl (c_78 H   hq187)) rfl rfl ?_
        rintro _ wd190 ⟨x189, rfl, rfl, H⟩
        try dsimp only at hB177
        replace H : Hp C wd190 ρ (Box b1 [v5, .int .i64 x6] :: Arr v5 1 c2 :: hs) := H
        refine nq (v := .int .i64 (w64 (x161 + x189))) (Q_add rfl rfl) rfl rfl ?_
        refine nq (v := .int .i64 (w64 (x161 + x189))) (Q_assign rfl) rfl rfl ?_
        refine WL_nil ?_
        refine x_block ?_
        refine x_then ?_
        refine CW.sub (E' := [(3, .int .i64 (w64 (x161 + x189))), (7, v5), (8, .int .i64 (x3.length : Int)), (9, .int .i64 x162)]) ⟨rfl, rfl, rfl, rfl, trivial⟩ ?_
        refine R_nd ?_
        refine nq (v := .int .i64 (w64 (x162 + 1))) (Q_add rfl rfl) rfl rfl ?_
        refine nq (v := .int .i64 (w64 (x162 + 1))) (Q_move rfl) rfl rfl ?_
        refine WL_nil ?_
        replace H := H.front 1 rfl
        replace H : Hp C wd190 ρ (Arr v5 1 c2 :: Box b1 [v5, .int .i64 x6] :: hs) := H
        replace H := H.front 1 rfl
        replace H : Hp C wd190 ρ (Box b1 [v5, .int .i64 x6] :: Arr v5 1 c2 :: hs) := H
        obtain rfl := Option.some.inj hB177
        refine x_A fun a hf => ⟨_, rfl, w64 (x161 + x189), w64 (x162 + 1), rfl, hf.sub ⟨rfl, rfl, rfl, rfl, trivial⟩, H⟩
      · replace hB177 := itF hb hB177
        refine C_exit ?_
        refine x_then_exit ?_
        refine x_then_exit ?_
        refine x_block_exit ?_
        replace H := H.front 1 rfl
        replace H : Hp C wd179 ρ (Arr v5 1 c2 :: Box b1 [v5, .int .i64 x6] :: hs) := H
        replace H := H.front 1 rfl
        replace H : Hp C wd179 ρ (Box b1 [v5, .int .i64 x6] :: Arr v5 1 c2 :: hs) := H
        obtain rfl := Option.some.inj hB177
        obtain rfl := hO178 _ rfl
        refine x_A fun a hf => ⟨x161, rfl, hf.sub ⟨rfl, trivial⟩, H⟩
  · rintro a wd191 ⟨x146, rfl, hf, H⟩
    try dsimp only at hF
    refine XX.at hf ?_
    refine x_then ?_
    refine CW.sub (E' := [(3, .int .i64 x146)]) ⟨rfl, trivial⟩ ?_
    refine C_seq ?_
    refine R_nd ?_
    refine nq (v := .int .i64 x146) (Q_move rfl) rfl rfl ?_
    refine nq (v := .int .i64 x146) (Q_assign rfl) rfl rfl ?_
    refine WL_nil ?_
    refine x_then ?_
    refine CW.sub (E' := [(2, .int .i64 x146)]) ⟨rfl, trivial⟩ ?_
    refine C_ret ?_
    replace H := H.front 1 rfl
    replace H : Hp C wd191 ρ (Arr v5 1 c2 :: Box b1 [v5, .int .i64 x6] :: hs) := H
    replace H := H.front 1 rfl
    replace H : Hp C wd191 ρ (Box b1 [v5, .int .i64 x6] :: Arr v5 1 c2 :: hs) := H
    obtain rfl := Option.some.inj hF
    exact fn_ret (l := [.tmp 2]) (vs := [.int .i64 x146]) rfl rfl rfl ⟨x146, rfl, rfl, H⟩
end Go.Proofs.YteiaphkejkgfkaaDoor
