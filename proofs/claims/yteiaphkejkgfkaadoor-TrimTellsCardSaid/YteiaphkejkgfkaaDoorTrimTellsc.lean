/-
  The walks of the law TrimTells, printed by my program, part 3: each function of the code computes its pure function.
-/
import Derived.Test.YteiaphkejkgfkaaDoorTrimTellsb
namespace Go.Proofs.YteiaphkejkgfkaaDoor
open Go Go.Eng
set_option maxRecDepth 100000
theorem c_5 {N : Nat} {C : Cx} {w : World} {ρ : View} {hs : List Hl} {v1 : Value} {v4 : Value} {v7 : Value} {x2 : (List (List Int))} {x5 : (List Int)} {x8 : (List Int)} (H : Hp C w ρ (hs)) {ge0 : Value} (gl0 : GErr ρ 0 ge0) (gl1 : GTab ρ 1 .u8 tab_math_bits_deBruijn64tab) (r3 : RdSl ρ (eA 256 (eI .i64)) v1 x2) (r6 : RdSl ρ (eI .i64) v4 x5) (r9 : RdSl ρ (eI .i64) v7 x8) {r : Bool} (hF : F_dofferlaw18_TrimTells N x2 x5 x8 = some r) :
    Calls Tryd.prog 5 [.agg #[v1, v4, v7]].toArray w (Rets (fun v w' => (∃ (x296 : Bool), x296 = r ∧ .bool x296 = v ∧ Hp C w' ρ (hs)))) := by
  unfold F_dofferlaw18_TrimTells at hF
  have h0 : Tryd.f5.body = some _ := rfl
  refine fn_calls' Tryd.func5 h0 (n := 96) rfl (by simp) <| C_seq <| R_nd <| ne (E_box H (vs := [v1, v4, v7]) rfl rfl) rfl rfl ?_
  rintro _ wd298 ⟨b297, rfl, H⟩
  refine nq (Q_assign rfl) rfl rfl <| WL_nil <| x_then <| C_seq <| C_seq <| R_nd ?_
  obtain ⟨q299, hq299, hF⟩ := bnd hF
  refine ne (E_call fn28 rfl (c_28 H gl0 gl1  hq299)) rfl rfl ?_
  rintro _ wd302 ⟨x301, rfl, rfl, H⟩
  try dsimp only at hF
  refine nq (Q_not rfl) rfl rfl <| WL_nil <| x_then ?_
  refine C_cond rfl (fun hb => ?_) (fun hb => ?_)
  · replace hF := itT hb hF
    refine C_seq <| R_nd <| nq (Q_assign rfl) rfl rfl <| WL_nil <| x_then <| C_ret <| x_then_ret ?_
    replace H := H.drop 0 rfl
    dsimp only [List.eraseIdx] at H
    obtain rfl := Option.some.inj hF
    exact fn_ret (l := [.tmp 2]) (vs := [.bool false]) rfl rfl rfl ⟨false, rfl, rfl, H⟩
  · replace hF := itF hb hF
    refine C_skip <| x_then <| C_seq <| R_nd <| nq (v := .agg #[v1, v4, v7]) (Q_ldB (k := 0) (cs := [v1, v4, v7]) H.ok rfl ty25 rfl rfl rfl (fun h => nomatch h) rfl) rfl rfl ?_
    obtain ⟨q303, hq303, hF⟩ := bnd hF
    refine ne (E_call fn15 rfl (c_15 H  r3 r6 r9 hq303)) rfl rfl ?_
    rintro _ wd310 ⟨v305, c306, x307, x308, rfl, rfl, r309, H⟩
    try dsimp only at hF
    refine nq (Q_move rfl) rfl rfl <| nq (Q_extract rfl rfl) rfl rfl <| nq (Q_extract rfl rfl) rfl rfl <| ne (E_alloc H ty29 (zs := [.slice none 0 0, .slice none 0 0, .slice none 0 0]) rfl) rfl rfl ?_
    rintro _ wd312 ⟨b311, rfl, H⟩
    refine ne (E_stB (k := 0) (cs := [v305, v4, v7]) (vs' := [v305, v4, v7]) H rfl ty29 rfl rfl rfl rfl (one_cons (arr_cells (H.ok.get (k := 1) rfl)).2 (one_cons (RdSl.one r6) (one_cons (RdSl.one r9) one_nil))) (by simp) rfl) rfl rfl ?_
    rintro _ wd313 H
    dsimp only [List.set] at H
    refine nq (Q_assign rfl) rfl rfl <| WL_nil <| x_then <| C_seq <| C_seq <| R_nd <| nq (Q_move rfl) rfl rfl <| nq (Q_not rfl) rfl rfl <| WL_nil <| x_then ?_
    refine C_cond rfl (fun hb => ?_) (fun hb => ?_)
    · replace hF := itT hb hF
      refine C_seq <| R_nd <| nq (Q_assign rfl) rfl rfl <| WL_nil <| x_then <| C_ret <| x_then_ret ?_
      replace H := H.drop 0 rfl
      dsimp only [List.eraseIdx] at H
      replace H := H.drop 0 rfl
      dsimp only [List.eraseIdx] at H
      replace H := H.drop 0 rfl
      dsimp only [List.eraseIdx] at H
      obtain rfl := Option.some.inj hF
      exact fn_ret (l := [.tmp 2]) (vs := [.bool true]) rfl rfl rfl ⟨true, rfl, rfl, H⟩
    · replace hF := itF hb hF
      refine C_skip <| x_then <| C_seq <| R_nd <| nq (v := .agg #[v1, v4, v7]) (Q_ldB (k := 2) (cs := [v1, v4, v7]) H.ok rfl ty25 rfl rfl rfl (fun h => nomatch h) rfl) rfl rfl ?_
      obtain ⟨q314, hq314, hF⟩ := bnd hF
      refine ne (E_call fn29 rfl (c_29 H gl0 gl1 r3 r6 r9 hq314)) rfl rfl ?_
      rintro _ wd328 ⟨v316, c317, v318, c319, v320, c321, x322, x323, x324, rfl, rfl, r325, r326, r327, H⟩
      try dsimp only at hF
      refine ne (E_alloc H ty25 (zs := [.slice none 0 0, .slice none 0 0, .slice none 0 0]) rfl) rfl rfl ?_
      rintro _ wd330 ⟨b329, rfl, H⟩
      refine ne (E_stB (k := 0) (cs := [v316, v318, v320]) (vs' := [v316, v318, v320]) H rfl ty25 rfl rfl rfl rfl (one_cons (arr_cells (H.ok.get (k := 1) rfl)).2 (one_cons (arr_cells (H.ok.get (k := 2) rfl)).2 (one_cons (arr_cells (H.ok.get (k := 3) rfl)).2 one_nil))) (by simp) rfl) rfl rfl ?_
      rintro _ wd331 H
      dsimp only [List.set] at H
      refine WL_nil <| x_then <| C_seq <| C_seq <| R_nd <| nq (v := .agg #[v305, v4, v7]) (Q_ldB (k := 4) (cs := [v305, v4, v7]) H.ok rfl ty29 rfl rfl rfl (fun h => nomatch h) rfl) rfl rfl ?_
      replace H := H.front 5 rfl
      dsimp only [List.eraseIdx] at H
      obtain ⟨q332, hq332, hF⟩ := bnd hF
      obtain ⟨C', ρ', hl333, HA, hL, hback⟩ := Hp.lend (A := []) (L := [Arr v305 256 c306]) (F := Box b329 [v316, v318, v320] :: Arr v316 256 c317 :: Arr v318 1 c319 :: Arr v320 1 c321 :: Box b311 [v305, v4, v7] :: Box b297 [v1, v4, v7] :: hs) H
      refine ne (E_call fn17 rfl (c_17 HA  (arr_rd (by decide) hl333 (hL (Arr v305 256 c306) (by simp)) r309) (r6.up hl333) (r9.up hl333) hq332)) rfl rfl ?_
      rintro _ wd335 ⟨x334, rfl, rfl, H⟩
      try dsimp only at hF
      replace H := hback H
      dsimp only [List.cons_append, List.nil_append] at H
      refine nq (Q_not rfl) rfl rfl <| WL_nil <| x_then ?_
      refine C_cond rfl (fun hb => ?_) (fun hb => ?_)
      · replace hF := itT hb hF
        obtain ⟨o370, ho370, hF⟩ := bnd hF
        refine C_cut (fun a w' => ∃ (x369 : Bool), x369 = o370 ∧ Fr 96 a [(2, .bool x369)] ∧ Hp C w' ρ (hs)) ?_ ?_
        · refine R_dr (.take 0 (.take 3 (.take 7 (.take 8 (.take 9 (.one 1 (.two 2 4 (.one 4 (.one 5 (.take 6 (.take 10 (.take 11 (.take 12 (.take 13 (.one 14 (.take 15 (.take 16 (.take 17 .done))))))))))) (.two 2 5 (.one 5 (.take 6 (.take 10 (.take 11 (.take 12 (.take 13 (.one 14 (.take 15 (.take 16 (.take 17 .done)))))))))) (.one 2 (.take 6 (.take 10 (.take 11 (.take 12 (.take 13 (.one 14 (.take 15 (.take 16 (.take 17 .done)))))))))))))))))) (fun w' => Ok w' ρ [Arr v305 256 c306, Box b329 [v316, v318, v320], Arr v316 256 c317, Arr v318 1 c319, Arr v320 1 c321, Box b311 [v305, v4, v7], Box b297 [v1, v4, v7]]) (by kernel_rfl) (by kernel_rfl) (by kernel_rfl) (H.drew.okS (by simp)) ?_
          replace H := H.drew
          refine dq (v := .agg #[v1, v4, v7]) rfl (fun _ hw => Q_ldB (k := 6) (cs := [v1, v4, v7]) hw rfl ty25 rfl rfl rfl (fun h => nomatch h) rfl) rfl rfl <| dq (v := .agg #[v1, v4, v7]) rfl (fun _ hw => Q_ldB (k := 6) (cs := [v1, v4, v7]) hw rfl ty25 rfl rfl rfl (fun h => nomatch h) rfl) rfl rfl <| dq (v := .pointer (some ⟨b329, 0, none⟩)) rfl (fun _ _ => Q_fld Tryd.underlying25 rfl ty22 (by decide) rfl rfl) rfl rfl <| dq (v := v316) rfl (fun _ hw => Q_ldB (k := 1) (cs := [v316]) hw rfl ty22 rfl rfl rfl (fun _ => rfl) rfl) rfl rfl <| dq rfl (fun _ hw => Q_lenA (k := 2) hw rfl r325 (by decide) Tryd.underlying22 rfl) rfl rfl ?_
          obtain ⟨q371, hq371, ho370⟩ := bnd ho370
          refine d1 (de rfl (E_call fn30 rfl (c_30 H gl0 gl1 r3 r6 r9 hq371)) rfl rfl ?_)
          rintro _ wd377 ⟨v373, c374, x375, rfl, rfl, r376, H⟩
          try dsimp only at ho370
          refine ⟨H.okS (by simp), ?_⟩
          refine d2 ?_ ?_
          · refine de rfl (Eff.quiet (v := .int .i64 (x375.length : Int)) (Q_lenA (k := 0) H.ok rfl r376 (by decide) Tryd.underlying23 rfl)) rfl rfl ?_
            rintro _ _ ⟨rfl, rfl⟩
            refine ⟨H.okS (by simp), ?_⟩
            obtain ⟨q378, hq378, ho370⟩ := bnd ho370
            refine d1 (de rfl (E_call fn31 rfl (c_31 H gl0 gl1 r3 r6 r9 hq378)) rfl rfl ?_)
            rintro _ wd384 ⟨v380, c381, x382, rfl, rfl, r383, H⟩
            try dsimp only at ho370
            refine ⟨H.okS (by simp), ?_⟩
            refine d1 (de rfl (Eff.quiet (v := .int .i64 (x382.length : Int)) (Q_lenA (k := 0) H.ok rfl r383 (by decide) Tryd.underlying23 rfl)) rfl rfl ?_)
            rintro _ _ ⟨rfl, rfl⟩
            refine ⟨H.okS (by simp), ?_⟩
            refine dq rfl (fun _ _ => Q_add rfl rfl) rfl rfl <| dq rfl (fun _ _ => Q_add rfl rfl) rfl rfl <| dq rfl (fun _ _ => Q_eql rfl rfl) rfl rfl <| dq rfl (fun _ _ => Q_move rfl) rfl rfl ?_
            rcases Bool.eq_false_or_eq_true ((w64 ((w64 ((x375.length : Int) + (x382.length : Int))) + (x322.length : Int))) == 0) with hb | hb
            · rw [hb]
              replace ho370 := itT hb ho370
              refine dgq (v := .agg #[v1, v4, v7]) rfl (fun _ hw => Q_ldB (k := 6) (cs := [v1, v4, v7]) hw rfl ty25 rfl rfl rfl (fun h => nomatch h) rfl) rfl rfl rfl ?_
              obtain ⟨q385, hq385, ho370⟩ := bnd ho370
              refine d1 (dge rfl (E_call fn32 rfl (c_32 H gl0 gl1 r3 r6 r9 hq385)) rfl rfl rfl ?_)
              rintro _ wd388 ⟨x387, rfl, rfl, H⟩
              try dsimp only at ho370
              refine ⟨H.okS (by simp), ?_⟩
              refine dgq rfl (fun _ _ => Q_not rfl) rfl rfl rfl <| dq rfl (fun _ _ => Q_pickT rfl rfl) rfl rfl <| dq rfl (fun _ _ => Q_assign rfl) rfl rfl <| DL_nil ?_
              replace H := H.drop 0 rfl
              dsimp only [List.eraseIdx] at H
              replace H := H.drop 0 rfl
              dsimp only [List.eraseIdx] at H
              replace H := H.drop 0 rfl
              dsimp only [List.eraseIdx] at H
              replace H := H.drop 0 rfl
              dsimp only [List.eraseIdx] at H
              replace H := H.drop 0 rfl
              dsimp only [List.eraseIdx] at H
              replace H := H.drop 0 rfl
              dsimp only [List.eraseIdx] at H
              replace H := H.drop 0 rfl
              dsimp only [List.eraseIdx] at H
              replace H := H.drop 0 rfl
              dsimp only [List.eraseIdx] at H
              replace H := H.drop 0 rfl
              dsimp only [List.eraseIdx] at H
              obtain rfl := Option.some.inj ho370
              refine x_A fun a hf => ⟨!x387, rfl, hf.sub ⟨rfl, trivial⟩, H⟩
            · rw [hb]
              replace ho370 := itF hb ho370
              refine dgs rfl rfl rfl rfl rfl ?_
              refine d1 (dges rfl rfl rfl rfl rfl ?_)
              refine dgs rfl rfl rfl rfl rfl <| dq rfl (fun _ _ => Q_pickF rfl rfl) rfl rfl <| dq rfl (fun _ _ => Q_assign rfl) rfl rfl <| DL_nil ?_
              replace H := H.drop 0 rfl
              dsimp only [List.eraseIdx] at H
              replace H := H.drop 0 rfl
              dsimp only [List.eraseIdx] at H
              replace H := H.drop 0 rfl
              dsimp only [List.eraseIdx] at H
              replace H := H.drop 0 rfl
              dsimp only [List.eraseIdx] at H
              replace H := H.drop 0 rfl
              dsimp only [List.eraseIdx] at H
              replace H := H.drop 0 rfl
              dsimp only [List.eraseIdx] at H
              replace H := H.drop 0 rfl
              dsimp only [List.eraseIdx] at H
              replace H := H.drop 0 rfl
              dsimp only [List.eraseIdx] at H
              replace H := H.drop 0 rfl
              dsimp only [List.eraseIdx] at H
              obtain rfl := Option.some.inj ho370
              refine x_A fun a hf => ⟨false, rfl, hf.sub ⟨rfl, trivial⟩, H⟩
          · obtain ⟨q389, hq389, ho370⟩ := bnd ho370
            refine de rfl (E_call fn31 rfl (c_31 H gl0 gl1 r3 r6 r9 hq389)) rfl rfl ?_
            rintro _ wd395 ⟨v391, c392, x393, rfl, rfl, r394, H⟩
            try dsimp only at ho370
            refine ⟨H.okS (by simp), ?_⟩
            refine d2 ?_ ?_
            · refine de rfl (Eff.quiet (v := .int .i64 (x375.length : Int)) (Q_lenA (k := 1) H.ok rfl r376 (by decide) Tryd.underlying23 rfl)) rfl rfl ?_
              rintro _ _ ⟨rfl, rfl⟩
              refine ⟨H.okS (by simp), ?_⟩
              refine d1 (de rfl (Eff.quiet (v := .int .i64 (x393.length : Int)) (Q_lenA (k := 0) H.ok rfl r394 (by decide) Tryd.underlying23 rfl)) rfl rfl ?_)
              rintro _ _ ⟨rfl, rfl⟩
              refine ⟨H.okS (by simp), ?_⟩
              refine dq rfl (fun _ _ => Q_add rfl rfl) rfl rfl <| dq rfl (fun _ _ => Q_add rfl rfl) rfl rfl <| dq rfl (fun _ _ => Q_eql rfl rfl) rfl rfl <| dq rfl (fun _ _ => Q_move rfl) rfl rfl ?_
              rcases Bool.eq_false_or_eq_true ((w64 ((w64 ((x375.length : Int) + (x393.length : Int))) + (x322.length : Int))) == 0) with hb | hb
              · rw [hb]
                replace ho370 := itT hb ho370
                refine dgq (v := .agg #[v1, v4, v7]) rfl (fun _ hw => Q_ldB (k := 6) (cs := [v1, v4, v7]) hw rfl ty25 rfl rfl rfl (fun h => nomatch h) rfl) rfl rfl rfl ?_
                obtain ⟨q396, hq396, ho370⟩ := bnd ho370
                refine d1 (dge rfl (E_call fn32 rfl (c_32 H gl0 gl1 r3 r6 r9 hq396)) rfl rfl rfl ?_)
                rintro _ wd399 ⟨x398, rfl, rfl, H⟩
                try dsimp only at ho370
                refine ⟨H.okS (by simp), ?_⟩
                refine dgq rfl (fun _ _ => Q_not rfl) rfl rfl rfl <| dq rfl (fun _ _ => Q_pickT rfl rfl) rfl rfl <| dq rfl (fun _ _ => Q_assign rfl) rfl rfl <| DL_nil ?_
                replace H := H.drop 0 rfl
                dsimp only [List.eraseIdx] at H
                replace H := H.drop 0 rfl
                dsimp only [List.eraseIdx] at H
                replace H := H.drop 0 rfl
                dsimp only [List.eraseIdx] at H
                replace H := H.drop 0 rfl
                dsimp only [List.eraseIdx] at H
                replace H := H.drop 0 rfl
                dsimp only [List.eraseIdx] at H
                replace H := H.drop 0 rfl
                dsimp only [List.eraseIdx] at H
                replace H := H.drop 0 rfl
                dsimp only [List.eraseIdx] at H
                replace H := H.drop 0 rfl
                dsimp only [List.eraseIdx] at H
                replace H := H.drop 0 rfl
                dsimp only [List.eraseIdx] at H
                obtain rfl := Option.some.inj ho370
                refine x_A fun a hf => ⟨!x398, rfl, hf.sub ⟨rfl, trivial⟩, H⟩
              · rw [hb]
                replace ho370 := itF hb ho370
                refine dgs rfl rfl rfl rfl rfl ?_
                refine d1 (dges rfl rfl rfl rfl rfl ?_)
                refine dgs rfl rfl rfl rfl rfl <| dq rfl (fun _ _ => Q_pickF rfl rfl) rfl rfl <| dq rfl (fun _ _ => Q_assign rfl) rfl rfl <| DL_nil ?_
                replace H := H.drop 0 rfl
                dsimp only [List.eraseIdx] at H
                replace H := H.drop 0 rfl
                dsimp only [List.eraseIdx] at H
                replace H := H.drop 0 rfl
                dsimp only [List.eraseIdx] at H
                replace H := H.drop 0 rfl
                dsimp only [List.eraseIdx] at H
                replace H := H.drop 0 rfl
                dsimp only [List.eraseIdx] at H
                replace H := H.drop 0 rfl
                dsimp only [List.eraseIdx] at H
                replace H := H.drop 0 rfl
                dsimp only [List.eraseIdx] at H
                replace H := H.drop 0 rfl
                dsimp only [List.eraseIdx] at H
                replace H := H.drop 0 rfl
                dsimp only [List.eraseIdx] at H
                obtain rfl := Option.some.inj ho370
                refine x_A fun a hf => ⟨false, rfl, hf.sub ⟨rfl, trivial⟩, H⟩
            · refine de rfl (Eff.quiet (v := .int .i64 (x393.length : Int)) (Q_lenA (k := 0) H.ok rfl r394 (by decide) Tryd.underlying23 rfl)) rfl rfl ?_
              rintro _ _ ⟨rfl, rfl⟩
              refine ⟨H.okS (by simp), ?_⟩
              refine d1 (de rfl (Eff.quiet (v := .int .i64 (x375.length : Int)) (Q_lenA (k := 1) H.ok rfl r376 (by decide) Tryd.underlying23 rfl)) rfl rfl ?_)
              rintro _ _ ⟨rfl, rfl⟩
              refine ⟨H.okS (by simp), ?_⟩
              refine dq rfl (fun _ _ => Q_add rfl rfl) rfl rfl <| dq rfl (fun _ _ => Q_add rfl rfl) rfl rfl <| dq rfl (fun _ _ => Q_eql rfl rfl) rfl rfl <| dq rfl (fun _ _ => Q_move rfl) rfl rfl ?_
              rcases Bool.eq_false_or_eq_true ((w64 ((w64 ((x375.length : Int) + (x393.length : Int))) + (x322.length : Int))) == 0) with hb | hb
              · rw [hb]
                replace ho370 := itT hb ho370
                refine dgq (v := .agg #[v1, v4, v7]) rfl (fun _ hw => Q_ldB (k := 6) (cs := [v1, v4, v7]) hw rfl ty25 rfl rfl rfl (fun h => nomatch h) rfl) rfl rfl rfl ?_
                obtain ⟨q400, hq400, ho370⟩ := bnd ho370
                refine d1 (dge rfl (E_call fn32 rfl (c_32 H gl0 gl1 r3 r6 r9 hq400)) rfl rfl rfl ?_)
                rintro _ wd403 ⟨x402, rfl, rfl, H⟩
                try dsimp only at ho370
                refine ⟨H.okS (by simp), ?_⟩
                refine dgq rfl (fun _ _ => Q_not rfl) rfl rfl rfl <| dq rfl (fun _ _ => Q_pickT rfl rfl) rfl rfl <| dq rfl (fun _ _ => Q_assign rfl) rfl rfl <| DL_nil ?_
                replace H := H.drop 0 rfl
                dsimp only [List.eraseIdx] at H
                replace H := H.drop 0 rfl
                dsimp only [List.eraseIdx] at H
                replace H := H.drop 0 rfl
                dsimp only [List.eraseIdx] at H
                replace H := H.drop 0 rfl
                dsimp only [List.eraseIdx] at H
                replace H := H.drop 0 rfl
                dsimp only [List.eraseIdx] at H
                replace H := H.drop 0 rfl
                dsimp only [List.eraseIdx] at H
                replace H := H.drop 0 rfl
                dsimp only [List.eraseIdx] at H
                replace H := H.drop 0 rfl
                dsimp only [List.eraseIdx] at H
                replace H := H.drop 0 rfl
                dsimp only [List.eraseIdx] at H
                obtain rfl := Option.some.inj ho370
                refine x_A fun a hf => ⟨!x402, rfl, hf.sub ⟨rfl, trivial⟩, H⟩
              · rw [hb]
                replace ho370 := itF hb ho370
                refine dgs rfl rfl rfl rfl rfl ?_
                refine d1 (dges rfl rfl rfl rfl rfl ?_)
                refine dgs rfl rfl rfl rfl rfl <| dq rfl (fun _ _ => Q_pickF rfl rfl) rfl rfl <| dq rfl (fun _ _ => Q_assign rfl) rfl rfl <| DL_nil ?_
                replace H := H.drop 0 rfl
                dsimp only [List.eraseIdx] at H
                replace H := H.drop 0 rfl
                dsimp only [List.eraseIdx] at H
                replace H := H.drop 0 rfl
                dsimp only [List.eraseIdx] at H
                replace H := H.drop 0 rfl
                dsimp only [List.eraseIdx] at H
                replace H := H.drop 0 rfl
                dsimp only [List.eraseIdx] at H
                replace H := H.drop 0 rfl
                dsimp only [List.eraseIdx] at H
                replace H := H.drop 0 rfl
                dsimp only [List.eraseIdx] at H
                replace H := H.drop 0 rfl
                dsimp only [List.eraseIdx] at H
                replace H := H.drop 0 rfl
                dsimp only [List.eraseIdx] at H
                obtain rfl := Option.some.inj ho370
                refine x_A fun a hf => ⟨false, rfl, hf.sub ⟨rfl, trivial⟩, H⟩
        · rintro a wd404 ⟨x369, rfl, hf, H⟩
          try dsimp only at hF
          refine CW.at hf <| C_ret <| x_then_ret ?_
          obtain rfl := Option.some.inj hF
          exact fn_ret (l := [.tmp 2]) (vs := [.bool x369]) rfl rfl rfl ⟨x369, rfl, rfl, H⟩
      · replace hF := itF hb hF
        refine C_skip <| x_then <| C_seq <| R_nd <| nq (v := .agg #[v305, v4, v7]) (Q_ldB (k := 5) (cs := [v305, v4, v7]) H.ok rfl ty29 rfl rfl rfl (fun h => nomatch h) rfl) rfl rfl ?_
        obtain ⟨q405, hq405, hF⟩ := bnd hF
        obtain ⟨C', ρ', hl406, HA, hL, hback⟩ := Hp.lend (A := []) (L := [Arr v305 256 c306]) (F := Box b329 [v316, v318, v320] :: Arr v316 256 c317 :: Arr v318 1 c319 :: Arr v320 1 c321 :: Box b311 [v305, v4, v7] :: Box b297 [v1, v4, v7] :: hs) H
        refine ne (E_call fn33 rfl (c_33 HA  (arr_rd (by decide) hl406 (hL (Arr v305 256 c306) (by simp)) r309) (r6.up hl406) (r9.up hl406) hq405)) rfl rfl ?_
        rintro _ wd419 ⟨v407, c408, v409, c410, v411, c412, x413, x414, x415, rfl, rfl, r416, r417, r418, H⟩
        try dsimp only at hF
        replace H := hback H
        replace r416 := rdL.flat (ρ := ρ') (ρ' := ρ) (flat_A _ (flat_I _)) r416
        replace r417 := rdL.flat (ρ := ρ') (ρ' := ρ) (flat_I _) r417
        replace r418 := rdL.flat (ρ := ρ') (ρ' := ρ) (flat_I _) r418
        dsimp only [List.cons_append, List.nil_append] at H
        refine ne (E_alloc H ty29 (zs := [.slice none 0 0, .slice none 0 0, .slice none 0 0]) rfl) rfl rfl ?_
        rintro _ wd421 ⟨b420, rfl, H⟩
        refine ne (E_stB (k := 0) (cs := [v407, v409, v411]) (vs' := [v407, v409, v411]) H rfl ty29 rfl rfl rfl rfl (one_cons (arr_cells (H.ok.get (k := 1) rfl)).2 (one_cons (arr_cells (H.ok.get (k := 2) rfl)).2 (one_cons (arr_cells (H.ok.get (k := 3) rfl)).2 one_nil))) (by simp) rfl) rfl rfl ?_
        rintro _ wd422 H
        dsimp only [List.set] at H
        refine WL_nil <| x_then <| C_seq <| R_nd <| nq (v := .agg #[v316, v318, v320]) (Q_ldB (k := 5) (cs := [v316, v318, v320]) H.ok rfl ty25 rfl rfl rfl (fun h => nomatch h) rfl) rfl rfl ?_
        replace H := H.front 8 rfl
        dsimp only [List.eraseIdx] at H
        replace H := H.front 8 rfl
        dsimp only [List.eraseIdx] at H
        replace H := H.front 8 rfl
        dsimp only [List.eraseIdx] at H
        obtain ⟨q423, hq423, hF⟩ := bnd hF
        obtain ⟨C', ρ', hl424, HA, hL, hback⟩ := Hp.lend (A := []) (L := [Arr v316 256 c317, Arr v318 1 c319, Arr v320 1 c321]) (F := Box b420 [v407, v409, v411] :: Arr v407 256 c408 :: Arr v409 1 c410 :: Arr v411 1 c412 :: Arr v305 256 c306 :: Box b329 [v316, v318, v320] :: Box b311 [v305, v4, v7] :: Box b297 [v1, v4, v7] :: hs) H
        refine ne (E_call fn15 rfl (c_15 HA  (arr_rd (by decide) hl424 (hL (Arr v316 256 c317) (by simp)) r325) (arr_rd (by decide) hl424 (hL (Arr v318 1 c319) (by simp)) r326) (arr_rd (by decide) hl424 (hL (Arr v320 1 c321) (by simp)) r327) hq423)) rfl rfl ?_
        rintro _ wd430 ⟨v425, c426, x427, x428, rfl, rfl, r429, H⟩
        try dsimp only at hF
        replace H := hback H
        replace r429 := rdL.flat (ρ := ρ') (ρ' := ρ) (flat_A _ (flat_I _)) r429
        dsimp only [List.cons_append, List.nil_append] at H
        refine nq (Q_move rfl) rfl rfl <| nq (Q_extract rfl rfl) rfl rfl <| nq (Q_extract rfl rfl) rfl rfl <| ne (E_alloc H ty29 (zs := [.slice none 0 0, .slice none 0 0, .slice none 0 0]) rfl) rfl rfl ?_
        rintro _ wd432 ⟨b431, rfl, H⟩
        refine ne (E_stB (k := 0) (cs := [v425, v318, v320]) (vs' := [v425, v318, v320]) H rfl ty29 rfl rfl rfl rfl (one_cons (arr_cells (H.ok.get (k := 1) rfl)).2 (one_cons (arr_cells (H.ok.get (k := 3) rfl)).2 (one_cons (arr_cells (H.ok.get (k := 4) rfl)).2 one_nil))) (by simp) rfl) rfl rfl ?_
        rintro _ wd433 H
        dsimp only [List.set] at H
        refine nq (Q_assign rfl) rfl rfl <| WL_nil <| x_then <| C_seq <| R_nd <| nq (v := .agg #[v1, v4, v7]) (Q_ldB (k := 12) (cs := [v1, v4, v7]) H.ok rfl ty25 rfl rfl rfl (fun h => nomatch h) rfl) rfl rfl ?_
        obtain ⟨q434, hq434, hF⟩ := bnd hF
        refine ne (E_call fn15 rfl (c_15 H  r3 r6 r9 hq434)) rfl rfl ?_
        rintro _ wd441 ⟨v436, c437, x438, x439, rfl, rfl, r440, H⟩
        try dsimp only at hF
        refine nq (Q_move rfl) rfl rfl <| nq (Q_extract rfl rfl) rfl rfl <| nq (Q_extract rfl rfl) rfl rfl <| ne (E_alloc H ty29 (zs := [.slice none 0 0, .slice none 0 0, .slice none 0 0]) rfl) rfl rfl ?_
        rintro _ wd443 ⟨b442, rfl, H⟩
        refine ne (E_stB (k := 0) (cs := [v436, v4, v7]) (vs' := [v436, v4, v7]) H rfl ty29 rfl rfl rfl rfl (one_cons (arr_cells (H.ok.get (k := 1) rfl)).2 (one_cons (RdSl.one r6) (one_cons (RdSl.one r9) one_nil))) (by simp) rfl) rfl rfl ?_
        rintro _ wd444 H
        dsimp only [List.set] at H
        refine nq (Q_assign rfl) rfl rfl <| WL_nil <| x_then ?_
        obtain ⟨o496, ho496, hF⟩ := bnd hF
        refine C_cut (fun a w' => ∃ (x495 : Bool), x495 = o496 ∧ Fr 96 a [(1, .pointer (some ⟨b297, 0, none⟩)), (3, .pointer (some ⟨b311, 0, none⟩)), (5, .pointer (some ⟨b329, 0, none⟩)), (6, .pointer (some ⟨b420, 0, none⟩)), (7, .pointer (some ⟨b431, 0, none⟩)), (9, .pointer (some ⟨b442, 0, none⟩)), (11, .bool x495)] ∧ Hp C w' ρ (Box b297 [v1, v4, v7] :: Box b311 [v305, v4, v7] :: Arr v305 256 c306 :: Box b329 [v316, v318, v320] :: Arr v316 256 c317 :: Arr v318 1 c319 :: Arr v320 1 c321 :: Box b420 [v407, v409, v411] :: Arr v407 256 c408 :: Arr v409 1 c410 :: Arr v411 1 c412 :: Box b431 [v425, v318, v320] :: Arr v425 256 c426 :: Box b442 [v436, v4, v7] :: Arr v436 256 c437 :: hs)) ?_ ?_
        · refine R_dr (.take 0 (.take 2 (.one 1 (.one 3 (.one 4 (.one 5 (.take 6 (.take 7 (.take 9 (.one 8 (.one 10 (.one 11 (.one 12 (.take 13 (.take 14 .done))))))))))))))) (fun w' => Ok w' ρ [Box b442 [v436, v4, v7], Arr v436 256 c437, Box b431 [v425, v318, v320], Arr v425 256 c426, Arr v316 256 c317, Arr v318 1 c319, Arr v320 1 c321, Box b420 [v407, v409, v411], Arr v407 256 c408, Arr v409 1 c410, Arr v411 1 c412, Arr v305 256 c306, Box b329 [v316, v318, v320], Box b311 [v305, v4, v7], Box b297 [v1, v4, v7]]) (by kernel_rfl) (by kernel_rfl) (by kernel_rfl) (H.drew.okS (by simp)) ?_
          replace H := H.drew
          refine dq (v := .agg #[v1, v4, v7]) rfl (fun _ hw => Q_ldB (k := 14) (cs := [v1, v4, v7]) hw rfl ty25 rfl rfl rfl (fun h => nomatch h) rfl) rfl rfl <| dq (v := .agg #[v305, v4, v7]) rfl (fun _ hw => Q_ldB (k := 13) (cs := [v305, v4, v7]) hw rfl ty29 rfl rfl rfl (fun h => nomatch h) rfl) rfl rfl ?_
          obtain ⟨q497, hq497, ho496⟩ := bnd ho496
          refine d1 (de rfl (E_call fn30 rfl (c_30 H gl0 gl1 r3 r6 r9 hq497)) rfl rfl ?_)
          rintro _ wd503 ⟨v499, c500, x501, rfl, rfl, r502, H⟩
          try dsimp only at ho496
          refine ⟨H.okS (by simp), ?_⟩
          replace H := H.front 12 rfl
          dsimp only [List.eraseIdx] at H
          obtain ⟨q504, hq504, ho496⟩ := bnd ho496
          obtain ⟨C', ρ', hl505, HA, hL, hback⟩ := Hp.lend (A := []) (L := [Arr v305 256 c306]) (F := Arr v499 1 c500 :: Box b442 [v436, v4, v7] :: Arr v436 256 c437 :: Box b431 [v425, v318, v320] :: Arr v425 256 c426 :: Arr v316 256 c317 :: Arr v318 1 c319 :: Arr v320 1 c321 :: Box b420 [v407, v409, v411] :: Arr v407 256 c408 :: Arr v409 1 c410 :: Arr v411 1 c412 :: Box b329 [v316, v318, v320] :: Box b311 [v305, v4, v7] :: Box b297 [v1, v4, v7] :: hs) H
          refine d1 (de rfl (E_call fn35 rfl (c_35 HA  (arr_rd (by decide) hl505 (hL (Arr v305 256 c306) (by simp)) r309) (r6.up hl505) (r9.up hl505) hq504)) rfl rfl ?_)
          rintro _ wd510 ⟨v506, c507, x508, rfl, rfl, r509, H⟩
          try dsimp only at ho496
          replace H := hback H
          replace r509 := rdL.flat (ρ := ρ') (ρ' := ρ) flat_B r509
          dsimp only [List.cons_append, List.nil_append] at H
          refine ⟨H.okS (by simp), ?_⟩
          obtain ⟨q511, hq511, ho496⟩ := bnd ho496
          obtain ⟨C', ρ', hl512, HA, hL, hback⟩ := Hp.lend (A := []) (L := [Arr v506 1 c507]) (F := Arr v305 256 c306 :: Arr v499 1 c500 :: Box b442 [v436, v4, v7] :: Arr v436 256 c437 :: Box b431 [v425, v318, v320] :: Arr v425 256 c426 :: Arr v316 256 c317 :: Arr v318 1 c319 :: Arr v320 1 c321 :: Box b420 [v407, v409, v411] :: Arr v407 256 c408 :: Arr v409 1 c410 :: Arr v411 1 c412 :: Box b329 [v316, v318, v320] :: Box b311 [v305, v4, v7] :: Box b297 [v1, v4, v7] :: hs) H
          refine d1 (de rfl (E_call fn34 rfl (c_34 HA  (arr_rd (by decide) hl512 (hL (Arr v506 1 c507) (by simp)) r509) hq511)) rfl rfl ?_)
          rintro _ wd517 ⟨v513, c514, x515, rfl, rfl, r516, H⟩
          try dsimp only at ho496
          replace H := hback H
          replace r516 := rdL.flat (ρ := ρ') (ρ' := ρ) (flat_I _) r516
          dsimp only [List.cons_append, List.nil_append] at H
          refine ⟨H.okS (by simp), ?_⟩
          replace H := H.front 3 rfl
          dsimp only [List.eraseIdx] at H
          obtain ⟨q518, hq518, ho496⟩ := bnd ho496
          obtain ⟨C', ρ', hl519, HA, hL, hback⟩ := Hp.lend (A := []) (L := [Arr v499 1 c500, Arr v513 1 c514]) (F := Arr v506 1 c507 :: Arr v305 256 c306 :: Box b442 [v436, v4, v7] :: Arr v436 256 c437 :: Box b431 [v425, v318, v320] :: Arr v425 256 c426 :: Arr v316 256 c317 :: Arr v318 1 c319 :: Arr v320 1 c321 :: Box b420 [v407, v409, v411] :: Arr v407 256 c408 :: Arr v409 1 c410 :: Arr v411 1 c412 :: Box b329 [v316, v318, v320] :: Box b311 [v305, v4, v7] :: Box b297 [v1, v4, v7] :: hs) H
          refine d1 (de rfl (E_call fn22 rfl (c_22 HA  (arr_rd (by decide) hl519 (hL (Arr v499 1 c500) (by simp)) r502) (arr_rd (by decide) hl519 (hL (Arr v513 1 c514) (by simp)) r516) hq518)) rfl rfl ?_)
          rintro _ wd521 ⟨x520, rfl, rfl, H⟩
          try dsimp only at ho496
          replace H := hback H
          dsimp only [List.cons_append, List.nil_append] at H
          refine ⟨H.okS (by simp), ?_⟩
          refine dq rfl (fun _ _ => Q_move rfl) rfl rfl ?_
          rcases Bool.eq_false_or_eq_true x520 with hb | hb
          · rw [hb]
            replace ho496 := itT hb ho496
            refine dgq (v := .agg #[v1, v4, v7]) rfl (fun _ hw => Q_ldB (k := 14) (cs := [v1, v4, v7]) hw rfl ty25 rfl rfl rfl (fun h => nomatch h) rfl) rfl rfl rfl <| dgq (v := .agg #[v305, v4, v7]) rfl (fun _ hw => Q_ldB (k := 13) (cs := [v305, v4, v7]) hw rfl ty29 rfl rfl rfl (fun h => nomatch h) rfl) rfl rfl rfl ?_
            obtain ⟨q522, hq522, ho496⟩ := bnd ho496
            refine d1 (dge rfl (E_call fn31 rfl (c_31 H gl0 gl1 r3 r6 r9 hq522)) rfl rfl rfl ?_)
            rintro _ wd528 ⟨v524, c525, x526, rfl, rfl, r527, H⟩
            try dsimp only at ho496
            refine ⟨H.okS (by simp), ?_⟩
            replace H := H.front 4 rfl
            dsimp only [List.eraseIdx] at H
            obtain ⟨q529, hq529, ho496⟩ := bnd ho496
            obtain ⟨C', ρ', hl530, HA, hL, hback⟩ := Hp.lend (A := []) (L := [Arr v305 256 c306]) (F := Arr v524 1 c525 :: Arr v499 1 c500 :: Arr v513 1 c514 :: Arr v506 1 c507 :: Box b442 [v436, v4, v7] :: Arr v436 256 c437 :: Box b431 [v425, v318, v320] :: Arr v425 256 c426 :: Arr v316 256 c317 :: Arr v318 1 c319 :: Arr v320 1 c321 :: Box b420 [v407, v409, v411] :: Arr v407 256 c408 :: Arr v409 1 c410 :: Arr v411 1 c412 :: Box b329 [v316, v318, v320] :: Box b311 [v305, v4, v7] :: Box b297 [v1, v4, v7] :: hs) H
            refine d1 (dge rfl (E_call fn36 rfl (c_36 HA  (arr_rd (by decide) hl530 (hL (Arr v305 256 c306) (by simp)) r309) (r6.up hl530) (r9.up hl530) hq529)) rfl rfl rfl ?_)
            rintro _ wd535 ⟨v531, c532, x533, rfl, rfl, r534, H⟩
            try dsimp only at ho496
            replace H := hback H
            replace r534 := rdL.flat (ρ := ρ') (ρ' := ρ) flat_B r534
            dsimp only [List.cons_append, List.nil_append] at H
            refine ⟨H.okS (by simp), ?_⟩
            obtain ⟨q536, hq536, ho496⟩ := bnd ho496
            obtain ⟨C', ρ', hl537, HA, hL, hback⟩ := Hp.lend (A := []) (L := [Arr v531 1 c532]) (F := Arr v305 256 c306 :: Arr v524 1 c525 :: Arr v499 1 c500 :: Arr v513 1 c514 :: Arr v506 1 c507 :: Box b442 [v436, v4, v7] :: Arr v436 256 c437 :: Box b431 [v425, v318, v320] :: Arr v425 256 c426 :: Arr v316 256 c317 :: Arr v318 1 c319 :: Arr v320 1 c321 :: Box b420 [v407, v409, v411] :: Arr v407 256 c408 :: Arr v409 1 c410 :: Arr v411 1 c412 :: Box b329 [v316, v318, v320] :: Box b311 [v305, v4, v7] :: Box b297 [v1, v4, v7] :: hs) H
            refine d1 (dge rfl (E_call fn34 rfl (c_34 HA  (arr_rd (by decide) hl537 (hL (Arr v531 1 c532) (by simp)) r534) hq536)) rfl rfl rfl ?_)
            rintro _ wd542 ⟨v538, c539, x540, rfl, rfl, r541, H⟩
            try dsimp only at ho496
            replace H := hback H
            replace r541 := rdL.flat (ρ := ρ') (ρ' := ρ) (flat_I _) r541
            dsimp only [List.cons_append, List.nil_append] at H
            refine ⟨H.okS (by simp), ?_⟩
            replace H := H.front 3 rfl
            dsimp only [List.eraseIdx] at H
            obtain ⟨q543, hq543, ho496⟩ := bnd ho496
            obtain ⟨C', ρ', hl544, HA, hL, hback⟩ := Hp.lend (A := []) (L := [Arr v524 1 c525, Arr v538 1 c539]) (F := Arr v531 1 c532 :: Arr v305 256 c306 :: Arr v499 1 c500 :: Arr v513 1 c514 :: Arr v506 1 c507 :: Box b442 [v436, v4, v7] :: Arr v436 256 c437 :: Box b431 [v425, v318, v320] :: Arr v425 256 c426 :: Arr v316 256 c317 :: Arr v318 1 c319 :: Arr v320 1 c321 :: Box b420 [v407, v409, v411] :: Arr v407 256 c408 :: Arr v409 1 c410 :: Arr v411 1 c412 :: Box b329 [v316, v318, v320] :: Box b311 [v305, v4, v7] :: Box b297 [v1, v4, v7] :: hs) H
            refine d1 (dge rfl (E_call fn22 rfl (c_22 HA  (arr_rd (by decide) hl544 (hL (Arr v524 1 c525) (by simp)) r527) (arr_rd (by decide) hl544 (hL (Arr v538 1 c539) (by simp)) r541) hq543)) rfl rfl rfl ?_)
            rintro _ wd546 ⟨x545, rfl, rfl, H⟩
            try dsimp only at ho496
            replace H := hback H
            dsimp only [List.cons_append, List.nil_append] at H
            refine ⟨H.okS (by simp), ?_⟩
            refine dq rfl (fun _ _ => Q_pickT rfl rfl) rfl rfl <| dq rfl (fun _ _ => Q_assign rfl) rfl rfl <| DL_nil ?_
            replace H := H.front 8 rfl
            dsimp only [List.eraseIdx] at H
            replace H := H.front 8 rfl
            dsimp only [List.eraseIdx] at H
            replace H := H.front 10 rfl
            dsimp only [List.eraseIdx] at H
            replace H := H.front 10 rfl
            dsimp only [List.eraseIdx] at H
            replace H := H.front 17 rfl
            dsimp only [List.eraseIdx] at H
            replace H := H.front 17 rfl
            dsimp only [List.eraseIdx] at H
            replace H := H.front 17 rfl
            dsimp only [List.eraseIdx] at H
            replace H := H.front 17 rfl
            dsimp only [List.eraseIdx] at H
            replace H := H.front 17 rfl
            dsimp only [List.eraseIdx] at H
            replace H := H.front 17 rfl
            dsimp only [List.eraseIdx] at H
            replace H := H.front 17 rfl
            dsimp only [List.eraseIdx] at H
            replace H := H.front 18 rfl
            dsimp only [List.eraseIdx] at H
            replace H := H.front 15 rfl
            dsimp only [List.eraseIdx] at H
            replace H := H.front 19 rfl
            dsimp only [List.eraseIdx] at H
            replace H := H.front 20 rfl
            dsimp only [List.eraseIdx] at H
            replace H := H.drop 15 rfl
            dsimp only [List.eraseIdx] at H
            replace H := H.drop 15 rfl
            dsimp only [List.eraseIdx] at H
            replace H := H.drop 15 rfl
            dsimp only [List.eraseIdx] at H
            replace H := H.drop 15 rfl
            dsimp only [List.eraseIdx] at H
            replace H := H.drop 15 rfl
            dsimp only [List.eraseIdx] at H
            replace H := H.drop 15 rfl
            dsimp only [List.eraseIdx] at H
            obtain rfl := Option.some.inj ho496
            refine x_A fun a hf => ⟨x545, rfl, hf.sub ⟨rfl, rfl, rfl, rfl, rfl, rfl, rfl, trivial⟩, H⟩
          · rw [hb]
            replace ho496 := itF hb ho496
            refine dgs rfl rfl rfl rfl rfl <| dgs rfl rfl rfl rfl rfl ?_
            refine d1 (dges rfl rfl rfl rfl rfl ?_)
            refine d1 (dges rfl rfl rfl rfl rfl ?_)
            refine d1 (dges rfl rfl rfl rfl rfl ?_)
            refine d1 (dges rfl rfl rfl rfl rfl ?_)
            refine dq rfl (fun _ _ => Q_pickF rfl rfl) rfl rfl <| dq rfl (fun _ _ => Q_assign rfl) rfl rfl <| DL_nil ?_
            replace H := H.front 5 rfl
            dsimp only [List.eraseIdx] at H
            replace H := H.front 5 rfl
            dsimp only [List.eraseIdx] at H
            replace H := H.front 7 rfl
            dsimp only [List.eraseIdx] at H
            replace H := H.front 7 rfl
            dsimp only [List.eraseIdx] at H
            replace H := H.front 14 rfl
            dsimp only [List.eraseIdx] at H
            replace H := H.front 14 rfl
            dsimp only [List.eraseIdx] at H
            replace H := H.front 14 rfl
            dsimp only [List.eraseIdx] at H
            replace H := H.front 14 rfl
            dsimp only [List.eraseIdx] at H
            replace H := H.front 14 rfl
            dsimp only [List.eraseIdx] at H
            replace H := H.front 14 rfl
            dsimp only [List.eraseIdx] at H
            replace H := H.front 14 rfl
            dsimp only [List.eraseIdx] at H
            replace H := H.front 15 rfl
            dsimp only [List.eraseIdx] at H
            replace H := H.front 15 rfl
            dsimp only [List.eraseIdx] at H
            replace H := H.front 16 rfl
            dsimp only [List.eraseIdx] at H
            replace H := H.front 17 rfl
            dsimp only [List.eraseIdx] at H
            replace H := H.drop 15 rfl
            dsimp only [List.eraseIdx] at H
            replace H := H.drop 15 rfl
            dsimp only [List.eraseIdx] at H
            replace H := H.drop 15 rfl
            dsimp only [List.eraseIdx] at H
            obtain rfl := Option.some.inj ho496
            refine x_A fun a hf => ⟨false, rfl, hf.sub ⟨rfl, rfl, rfl, rfl, rfl, rfl, rfl, trivial⟩, H⟩
        · rintro a wd547 ⟨x495, rfl, hf, H⟩
          try dsimp only at hF
          refine CW.at hf ?_
          obtain ⟨o565, ho565, hF⟩ := bnd hF
          refine C_cut (fun a w' => ∃ (x564 : Bool), x564 = o565 ∧ Fr 96 a [(2, .bool x564)] ∧ Hp C w' ρ (hs)) ?_ ?_
          · refine R_dr (.take 0 (.take 1 (.take 2 (.take 3 (.one 4 (.take 5 (.take 6 (.take 7 (.take 8 (.one 9 (.take 10 (.take 11 (.take 12 (.take 14 (.take 15 (.take 16 (.take 17 (.take 18 (.take 19 (.take 20 (.one 13 (.take 21 (.take 22 (.take 23 (.take 24 (.one 25 (.take 26 (.take 27 .done)))))))))))))))))))))))))))) (fun w' => Ok w' ρ [Box b297 [v1, v4, v7], Box b311 [v305, v4, v7], Arr v305 256 c306, Box b329 [v316, v318, v320], Arr v316 256 c317, Arr v318 1 c319, Arr v320 1 c321, Box b420 [v407, v409, v411], Arr v407 256 c408, Arr v409 1 c410, Arr v411 1 c412, Box b431 [v425, v318, v320], Arr v425 256 c426, Box b442 [v436, v4, v7], Arr v436 256 c437]) (by kernel_rfl) (by kernel_rfl) (by kernel_rfl) (H.drew.okS (by simp)) ?_
            replace H := H.drew
            refine dq rfl (fun _ _ => Q_move rfl) rfl rfl <| dq rfl (fun _ _ => Q_move rfl) rfl rfl ?_
            rcases Bool.eq_false_or_eq_true x495 with hb | hb
            · rw [hb]
              replace ho565 := itT hb ho565
              refine dgq (v := .agg #[v425, v318, v320]) rfl (fun _ hw => Q_ldB (k := 11) (cs := [v425, v318, v320]) hw rfl ty29 rfl rfl rfl (fun h => nomatch h) rfl) rfl rfl rfl <| dgq (v := .agg #[v407, v409, v411]) rfl (fun _ hw => Q_ldB (k := 7) (cs := [v407, v409, v411]) hw rfl ty29 rfl rfl rfl (fun h => nomatch h) rfl) rfl rfl rfl ?_
              replace H := H.front 10 rfl
              dsimp only [List.eraseIdx] at H
              replace H := H.front 10 rfl
              dsimp only [List.eraseIdx] at H
              replace H := H.front 10 rfl
              dsimp only [List.eraseIdx] at H
              replace H := H.front 9 rfl
              dsimp only [List.eraseIdx] at H
              replace H := H.front 9 rfl
              dsimp only [List.eraseIdx] at H
              replace H := H.front 12 rfl
              dsimp only [List.eraseIdx] at H
              obtain ⟨q566, hq566, ho565⟩ := bnd ho565
              obtain ⟨C', ρ', hl567, HA, hL, hback⟩ := Hp.lend (A := []) (L := [Arr v425 256 c426, Arr v318 1 c319, Arr v320 1 c321, Arr v407 256 c408, Arr v409 1 c410, Arr v411 1 c412]) (F := Box b297 [v1, v4, v7] :: Box b311 [v305, v4, v7] :: Arr v305 256 c306 :: Box b329 [v316, v318, v320] :: Arr v316 256 c317 :: Box b420 [v407, v409, v411] :: Box b431 [v425, v318, v320] :: Box b442 [v436, v4, v7] :: Arr v436 256 c437 :: hs) H
              refine d1 (dge rfl (E_call fn24 rfl (c_24 HA  (arr_rd (by decide) hl567 (hL (Arr v425 256 c426) (by simp)) r429) (arr_rd (by decide) hl567 (hL (Arr v318 1 c319) (by simp)) r326) (arr_rd (by decide) hl567 (hL (Arr v320 1 c321) (by simp)) r327) (arr_rd (by decide) hl567 (hL (Arr v407 256 c408) (by simp)) r416) (arr_rd (by decide) hl567 (hL (Arr v409 1 c410) (by simp)) r417) (arr_rd (by decide) hl567 (hL (Arr v411 1 c412) (by simp)) r418) hq566)) rfl rfl rfl ?_)
              rintro _ wd569 ⟨x568, rfl, rfl, H⟩
              try dsimp only at ho565
              replace H := hback H
              dsimp only [List.cons_append, List.nil_append] at H
              refine ⟨H.okS (by simp), ?_⟩
              refine dq rfl (fun _ _ => Q_pickT rfl rfl) rfl rfl <| dq rfl (fun _ _ => Q_move rfl) rfl rfl ?_
              rcases Bool.eq_false_or_eq_true x568 with hb | hb
              · rw [hb]
                replace ho565 := itT hb ho565
                refine dgq (v := .agg #[v436, v4, v7]) rfl (fun _ hw => Q_ldB (k := 13) (cs := [v436, v4, v7]) hw rfl ty29 rfl rfl rfl (fun h => nomatch h) rfl) rfl rfl rfl <| dgq (v := .agg #[v305, v4, v7]) rfl (fun _ hw => Q_ldB (k := 1) (cs := [v305, v4, v7]) hw rfl ty29 rfl rfl rfl (fun h => nomatch h) rfl) rfl rfl rfl ?_
                replace H := H.front 8 rfl
                dsimp only [List.eraseIdx] at H
                replace H := H.front 14 rfl
                dsimp only [List.eraseIdx] at H
                obtain ⟨q570, hq570, ho565⟩ := bnd ho565
                obtain ⟨C', ρ', hl571, HA, hL, hback⟩ := Hp.lend (A := []) (L := [Arr v436 256 c437, Arr v305 256 c306]) (F := Arr v425 256 c426 :: Arr v318 1 c319 :: Arr v320 1 c321 :: Arr v407 256 c408 :: Arr v409 1 c410 :: Arr v411 1 c412 :: Box b297 [v1, v4, v7] :: Box b311 [v305, v4, v7] :: Box b329 [v316, v318, v320] :: Arr v316 256 c317 :: Box b420 [v407, v409, v411] :: Box b431 [v425, v318, v320] :: Box b442 [v436, v4, v7] :: hs) H
                refine d1 (dge rfl (E_call fn24 rfl (c_24 HA  (arr_rd (by decide) hl571 (hL (Arr v436 256 c437) (by simp)) r440) (r6.up hl571) (r9.up hl571) (arr_rd (by decide) hl571 (hL (Arr v305 256 c306) (by simp)) r309) (r6.up hl571) (r9.up hl571) hq570)) rfl rfl rfl ?_)
                rintro _ wd573 ⟨x572, rfl, rfl, H⟩
                try dsimp only at ho565
                replace H := hback H
                dsimp only [List.cons_append, List.nil_append] at H
                refine ⟨H.okS (by simp), ?_⟩
                refine dq rfl (fun _ _ => Q_pickT rfl rfl) rfl rfl <| dq rfl (fun _ _ => Q_move rfl) rfl rfl ?_
                rcases Bool.eq_false_or_eq_true x572 with hb | hb
                · rw [hb]
                  replace ho565 := itT hb ho565
                  refine dgq (v := .agg #[v1, v4, v7]) rfl (fun _ hw => Q_ldB (k := 0) (cs := [v1, v4, v7]) hw rfl ty25 rfl rfl rfl (fun h => nomatch h) rfl) rfl rfl rfl <| dgq (v := .pointer (some ⟨b420, 0, none⟩)) rfl (fun _ _ => Q_fld Tryd.underlying29 rfl ty27 (by decide) rfl rfl) rfl rfl rfl <| dgq (v := v407) rfl (fun _ hw => Q_ldB (k := 7) (cs := [v407]) hw rfl ty27 rfl rfl rfl (fun _ => rfl) rfl) rfl rfl rfl <| dgq rfl (fun _ hw => Q_lenA (k := 8) hw rfl r416 (by decide) Tryd.underlying27 rfl) rfl rfl rfl <| dgq (v := .pointer (some ⟨b311, 0, none⟩)) rfl (fun _ _ => Q_fld Tryd.underlying29 rfl ty27 (by decide) rfl rfl) rfl rfl rfl <| dgq (v := v305) rfl (fun _ hw => Q_ldB (k := 1) (cs := [v305]) hw rfl ty27 rfl rfl rfl (fun _ => rfl) rfl) rfl rfl rfl <| dgq rfl (fun _ hw => Q_lenA (k := 2) hw rfl r309 (by decide) Tryd.underlying27 rfl) rfl rfl rfl <| dgq rfl (fun _ _ => Q_eql rfl rfl) rfl rfl rfl ?_
                  obtain ⟨q574, hq574, ho565⟩ := bnd ho565
                  refine d1 (dge rfl (E_call fn32 rfl (c_32 H gl0 gl1 r3 r6 r9 hq574)) rfl rfl rfl ?_)
                  rintro _ wd577 ⟨x576, rfl, rfl, H⟩
                  try dsimp only at ho565
                  refine ⟨H.okS (by simp), ?_⟩
                  refine dgq (v := .bool (x576 == ((x413.length : Int) == (x307.length : Int)))) rfl (fun _ _ => Q_eqlB Tryd.underlying4 rfl rfl) rfl rfl rfl <| dq rfl (fun _ _ => Q_pickT rfl rfl) rfl rfl <| dq rfl (fun _ _ => Q_move rfl) rfl rfl ?_
                  rcases Bool.eq_false_or_eq_true (x576 == ((x413.length : Int) == (x307.length : Int))) with hb | hb
                  · rw [hb]
                    replace ho565 := itT hb ho565
                    refine dgq (v := .agg #[v316, v318, v320]) rfl (fun _ hw => Q_ldB (k := 3) (cs := [v316, v318, v320]) hw rfl ty25 rfl rfl rfl (fun h => nomatch h) rfl) rfl rfl rfl ?_
                    replace H := H.front 4 rfl
                    dsimp only [List.eraseIdx] at H
                    replace H := H.front 4 rfl
                    dsimp only [List.eraseIdx] at H
                    replace H := H.front 11 rfl
                    dsimp only [List.eraseIdx] at H
                    obtain ⟨q578, hq578, ho565⟩ := bnd ho565
                    obtain ⟨C', ρ', hl579, HA, hL, hback⟩ := Hp.lend (A := []) (L := [Arr v316 256 c317, Arr v318 1 c319, Arr v320 1 c321]) (F := Arr v436 256 c437 :: Arr v305 256 c306 :: Arr v425 256 c426 :: Arr v407 256 c408 :: Arr v409 1 c410 :: Arr v411 1 c412 :: Box b297 [v1, v4, v7] :: Box b311 [v305, v4, v7] :: Box b329 [v316, v318, v320] :: Box b420 [v407, v409, v411] :: Box b431 [v425, v318, v320] :: Box b442 [v436, v4, v7] :: hs) H
                    refine d1 (dge rfl (E_call fn32 rfl (c_32 HA (gl0.up hl579) (GTab.up hl579 gl1) (arr_rd (by decide) hl579 (hL (Arr v316 256 c317) (by simp)) r325) (arr_rd (by decide) hl579 (hL (Arr v318 1 c319) (by simp)) r326) (arr_rd (by decide) hl579 (hL (Arr v320 1 c321) (by simp)) r327) hq578)) rfl rfl rfl ?_)
                    rintro _ wd581 ⟨x580, rfl, rfl, H⟩
                    try dsimp only at ho565
                    replace H := hback H
                    dsimp only [List.cons_append, List.nil_append] at H
                    refine ⟨H.okS (by simp), ?_⟩
                    refine dq rfl (fun _ _ => Q_pickT rfl rfl) rfl rfl <| dq rfl (fun _ _ => Q_assign rfl) rfl rfl <| DL_nil ?_
                    replace H := H.drop 0 rfl
                    dsimp only [List.eraseIdx] at H
                    replace H := H.drop 0 rfl
                    dsimp only [List.eraseIdx] at H
                    replace H := H.drop 0 rfl
                    dsimp only [List.eraseIdx] at H
                    replace H := H.drop 0 rfl
                    dsimp only [List.eraseIdx] at H
                    replace H := H.drop 0 rfl
                    dsimp only [List.eraseIdx] at H
                    replace H := H.drop 0 rfl
                    dsimp only [List.eraseIdx] at H
                    replace H := H.drop 0 rfl
                    dsimp only [List.eraseIdx] at H
                    replace H := H.drop 0 rfl
                    dsimp only [List.eraseIdx] at H
                    replace H := H.drop 0 rfl
                    dsimp only [List.eraseIdx] at H
                    replace H := H.drop 0 rfl
                    dsimp only [List.eraseIdx] at H
                    replace H := H.drop 0 rfl
                    dsimp only [List.eraseIdx] at H
                    replace H := H.drop 0 rfl
                    dsimp only [List.eraseIdx] at H
                    replace H := H.drop 0 rfl
                    dsimp only [List.eraseIdx] at H
                    replace H := H.drop 0 rfl
                    dsimp only [List.eraseIdx] at H
                    replace H := H.drop 0 rfl
                    dsimp only [List.eraseIdx] at H
                    obtain rfl := Option.some.inj ho565
                    refine x_A fun a hf => ⟨x580, rfl, hf.sub ⟨rfl, trivial⟩, H⟩
                  · rw [hb]
                    replace ho565 := itF hb ho565
                    refine dgs rfl rfl rfl rfl rfl ?_
                    refine d1 (dges rfl rfl rfl rfl rfl ?_)
                    refine dq rfl (fun _ _ => Q_pickF rfl rfl) rfl rfl <| dq rfl (fun _ _ => Q_assign rfl) rfl rfl <| DL_nil ?_
                    replace H := H.drop 0 rfl
                    dsimp only [List.eraseIdx] at H
                    replace H := H.drop 0 rfl
                    dsimp only [List.eraseIdx] at H
                    replace H := H.drop 0 rfl
                    dsimp only [List.eraseIdx] at H
                    replace H := H.drop 0 rfl
                    dsimp only [List.eraseIdx] at H
                    replace H := H.drop 0 rfl
                    dsimp only [List.eraseIdx] at H
                    replace H := H.drop 0 rfl
                    dsimp only [List.eraseIdx] at H
                    replace H := H.drop 0 rfl
                    dsimp only [List.eraseIdx] at H
                    replace H := H.drop 0 rfl
                    dsimp only [List.eraseIdx] at H
                    replace H := H.drop 0 rfl
                    dsimp only [List.eraseIdx] at H
                    replace H := H.drop 0 rfl
                    dsimp only [List.eraseIdx] at H
                    replace H := H.drop 0 rfl
                    dsimp only [List.eraseIdx] at H
                    replace H := H.drop 0 rfl
                    dsimp only [List.eraseIdx] at H
                    replace H := H.drop 0 rfl
                    dsimp only [List.eraseIdx] at H
                    replace H := H.drop 0 rfl
                    dsimp only [List.eraseIdx] at H
                    replace H := H.drop 0 rfl
                    dsimp only [List.eraseIdx] at H
                    obtain rfl := Option.some.inj ho565
                    refine x_A fun a hf => ⟨false, rfl, hf.sub ⟨rfl, trivial⟩, H⟩
                · rw [hb]
                  replace ho565 := itF hb ho565
                  refine dgs rfl rfl rfl rfl rfl <| dgs rfl rfl rfl rfl rfl <| dgs rfl rfl rfl rfl rfl <| dgs rfl rfl rfl rfl rfl <| dgs rfl rfl rfl rfl rfl <| dgs rfl rfl rfl rfl rfl <| dgs rfl rfl rfl rfl rfl <| dgs rfl rfl rfl rfl rfl ?_
                  refine d1 (dges rfl rfl rfl rfl rfl ?_)
                  refine dgs rfl rfl rfl rfl rfl <| dq rfl (fun _ _ => Q_pickF rfl rfl) rfl rfl <| dq rfl (fun _ _ => Q_move rfl) rfl rfl <| dgs rfl rfl rfl rfl rfl ?_
                  refine d1 (dges rfl rfl rfl rfl rfl ?_)
                  refine dq rfl (fun _ _ => Q_pickF rfl rfl) rfl rfl <| dq rfl (fun _ _ => Q_assign rfl) rfl rfl <| DL_nil ?_
                  replace H := H.drop 0 rfl
                  dsimp only [List.eraseIdx] at H
                  replace H := H.drop 0 rfl
                  dsimp only [List.eraseIdx] at H
                  replace H := H.drop 0 rfl
                  dsimp only [List.eraseIdx] at H
                  replace H := H.drop 0 rfl
                  dsimp only [List.eraseIdx] at H
                  replace H := H.drop 0 rfl
                  dsimp only [List.eraseIdx] at H
                  replace H := H.drop 0 rfl
                  dsimp only [List.eraseIdx] at H
                  replace H := H.drop 0 rfl
                  dsimp only [List.eraseIdx] at H
                  replace H := H.drop 0 rfl
                  dsimp only [List.eraseIdx] at H
                  replace H := H.drop 0 rfl
                  dsimp only [List.eraseIdx] at H
                  replace H := H.drop 0 rfl
                  dsimp only [List.eraseIdx] at H
                  replace H := H.drop 0 rfl
                  dsimp only [List.eraseIdx] at H
                  replace H := H.drop 0 rfl
                  dsimp only [List.eraseIdx] at H
                  replace H := H.drop 0 rfl
                  dsimp only [List.eraseIdx] at H
                  replace H := H.drop 0 rfl
                  dsimp only [List.eraseIdx] at H
                  replace H := H.drop 0 rfl
                  dsimp only [List.eraseIdx] at H
                  obtain rfl := Option.some.inj ho565
                  refine x_A fun a hf => ⟨false, rfl, hf.sub ⟨rfl, trivial⟩, H⟩
              · rw [hb]
                replace ho565 := itF hb ho565
                refine dgs rfl rfl rfl rfl rfl <| dgs rfl rfl rfl rfl rfl ?_
                refine d1 (dges rfl rfl rfl rfl rfl ?_)
                refine dq rfl (fun _ _ => Q_pickF rfl rfl) rfl rfl <| dq rfl (fun _ _ => Q_move rfl) rfl rfl <| dgs rfl rfl rfl rfl rfl <| dgs rfl rfl rfl rfl rfl <| dgs rfl rfl rfl rfl rfl <| dgs rfl rfl rfl rfl rfl <| dgs rfl rfl rfl rfl rfl <| dgs rfl rfl rfl rfl rfl <| dgs rfl rfl rfl rfl rfl <| dgs rfl rfl rfl rfl rfl ?_
                refine d1 (dges rfl rfl rfl rfl rfl ?_)
                refine dgs rfl rfl rfl rfl rfl <| dq rfl (fun _ _ => Q_pickF rfl rfl) rfl rfl <| dq rfl (fun _ _ => Q_move rfl) rfl rfl <| dgs rfl rfl rfl rfl rfl ?_
                refine d1 (dges rfl rfl rfl rfl rfl ?_)
                refine dq rfl (fun _ _ => Q_pickF rfl rfl) rfl rfl <| dq rfl (fun _ _ => Q_assign rfl) rfl rfl <| DL_nil ?_
                replace H := H.drop 0 rfl
                dsimp only [List.eraseIdx] at H
                replace H := H.drop 0 rfl
                dsimp only [List.eraseIdx] at H
                replace H := H.drop 0 rfl
                dsimp only [List.eraseIdx] at H
                replace H := H.drop 0 rfl
                dsimp only [List.eraseIdx] at H
                replace H := H.drop 0 rfl
                dsimp only [List.eraseIdx] at H
                replace H := H.drop 0 rfl
                dsimp only [List.eraseIdx] at H
                replace H := H.drop 0 rfl
                dsimp only [List.eraseIdx] at H
                replace H := H.drop 0 rfl
                dsimp only [List.eraseIdx] at H
                replace H := H.drop 0 rfl
                dsimp only [List.eraseIdx] at H
                replace H := H.drop 0 rfl
                dsimp only [List.eraseIdx] at H
                replace H := H.drop 0 rfl
                dsimp only [List.eraseIdx] at H
                replace H := H.drop 0 rfl
                dsimp only [List.eraseIdx] at H
                replace H := H.drop 0 rfl
                dsimp only [List.eraseIdx] at H
                replace H := H.drop 0 rfl
                dsimp only [List.eraseIdx] at H
                replace H := H.drop 0 rfl
                dsimp only [List.eraseIdx] at H
                obtain rfl := Option.some.inj ho565
                refine x_A fun a hf => ⟨false, rfl, hf.sub ⟨rfl, trivial⟩, H⟩
            · rw [hb]
              replace ho565 := itF hb ho565
              refine dgs rfl rfl rfl rfl rfl <| dgs rfl rfl rfl rfl rfl ?_
              refine d1 (dges rfl rfl rfl rfl rfl ?_)
              refine dq rfl (fun _ _ => Q_pickF rfl rfl) rfl rfl <| dq rfl (fun _ _ => Q_move rfl) rfl rfl <| dgs rfl rfl rfl rfl rfl <| dgs rfl rfl rfl rfl rfl ?_
              refine d1 (dges rfl rfl rfl rfl rfl ?_)
              refine dq rfl (fun _ _ => Q_pickF rfl rfl) rfl rfl <| dq rfl (fun _ _ => Q_move rfl) rfl rfl <| dgs rfl rfl rfl rfl rfl <| dgs rfl rfl rfl rfl rfl <| dgs rfl rfl rfl rfl rfl <| dgs rfl rfl rfl rfl rfl <| dgs rfl rfl rfl rfl rfl <| dgs rfl rfl rfl rfl rfl <| dgs rfl rfl rfl rfl rfl <| dgs rfl rfl rfl rfl rfl ?_
              refine d1 (dges rfl rfl rfl rfl rfl ?_)
              refine dgs rfl rfl rfl rfl rfl <| dq rfl (fun _ _ => Q_pickF rfl rfl) rfl rfl <| dq rfl (fun _ _ => Q_move rfl) rfl rfl <| dgs rfl rfl rfl rfl rfl ?_
              refine d1 (dges rfl rfl rfl rfl rfl ?_)
              refine dq rfl (fun _ _ => Q_pickF rfl rfl) rfl rfl <| dq rfl (fun _ _ => Q_assign rfl) rfl rfl <| DL_nil ?_
              replace H := H.drop 0 rfl
              dsimp only [List.eraseIdx] at H
              replace H := H.drop 0 rfl
              dsimp only [List.eraseIdx] at H
              replace H := H.drop 0 rfl
              dsimp only [List.eraseIdx] at H
              replace H := H.drop 0 rfl
              dsimp only [List.eraseIdx] at H
              replace H := H.drop 0 rfl
              dsimp only [List.eraseIdx] at H
              replace H := H.drop 0 rfl
              dsimp only [List.eraseIdx] at H
              replace H := H.drop 0 rfl
              dsimp only [List.eraseIdx] at H
              replace H := H.drop 0 rfl
              dsimp only [List.eraseIdx] at H
              replace H := H.drop 0 rfl
              dsimp only [List.eraseIdx] at H
              replace H := H.drop 0 rfl
              dsimp only [List.eraseIdx] at H
              replace H := H.drop 0 rfl
              dsimp only [List.eraseIdx] at H
              replace H := H.drop 0 rfl
              dsimp only [List.eraseIdx] at H
              replace H := H.drop 0 rfl
              dsimp only [List.eraseIdx] at H
              replace H := H.drop 0 rfl
              dsimp only [List.eraseIdx] at H
              replace H := H.drop 0 rfl
              dsimp only [List.eraseIdx] at H
              obtain rfl := Option.some.inj ho565
              refine x_A fun a hf => ⟨false, rfl, hf.sub ⟨rfl, trivial⟩, H⟩
          · rintro a wd582 ⟨x564, rfl, hf, H⟩
            try dsimp only at hF
            refine CW.at hf <| C_ret ?_
            obtain rfl := Option.some.inj hF
            exact fn_ret (l := [.tmp 2]) (vs := [.bool x564]) rfl rfl rfl ⟨x564, rfl, rfl, H⟩
end Go.Proofs.YteiaphkejkgfkaaDoor
