/-
  The walks of the law HopcroftFewest, printed by my program, part 3: each function of the code computes its pure function.
-/
import Derived.Test.YteiaphkejkgfkaaDoorHopcroftFewestb
namespace Go.Proofs.YteiaphkejkgfkaaDoor
open Go Go.Eng
set_option maxRecDepth 100000
theorem c_13 {N : Nat} {C : Cx} {w : World} {ρ : View} {hs : List Hl} {v1 : Value} {v4 : Value} {v7 : Value} {v10 : Value} {x2 : (List (List Int))} {x5 : (List Int)} {x8 : (List Int)} {x11 : (List Int)} {x13 : Int} (H : Hp C w ρ (hs)) {ge0 : Value} (gl0 : GErr ρ 0 ge0) (gl1 : GTab ρ 1 .u8 tab_math_bits_deBruijn64tab) (r3 : RdSl ρ (eA 256 (eI .i64)) v1 x2) (r6 : RdSl ρ (eI .i64) v4 x5) (r9 : RdSl ρ (eI .i64) v7 x8) (r12 : RdSl ρ (eI .u8) v10 x11) {r : Bool} (hF : F_dofferlaw19_HopcroftFewest N x2 x5 x8 x11 x13 = some r) :
  Calls Tryd.prog 13 [.agg #[v1, v4, v7], v10, .int .i64 x13].toArray w (Rets (fun v w' => (∃ (ρ' : View) (x11851 : Bool), x11851 = r ∧ .bool x11851 = v ∧ View.le ρ ρ' ∧ Hp C w' ρ' (hs)))) := by
 unfold F_dofferlaw19_HopcroftFewest at hF
 have h0 : Tryd.f13.body = some _ := rfl
 refine fn_calls' Tryd.func13 h0 (n := 138) rfl (by simp) <| C_seq <| R_nd <| ne (E_box H (vs := [v1, v4, v7]) rfl rfl) rfl rfl ?_
 rintro _ wd11853 ⟨b11852, rfl, H⟩
 refine nq (Q_assign rfl) rfl rfl <| WL_nil <| x_then <| C_seq <| C_seq <| R_nd ?_
 obtain ⟨q11854, hq11854, hF⟩ := bnd hF
 refine ne (E_call fn42 rfl (c_42 H   hq11854)) rfl rfl ?_
 rintro _ wd11857 ⟨x11856, rfl, rfl, H⟩
 try dsimp only at hF
 refine nq (Q_not rfl) rfl rfl <| WL_nil <| x_then ?_
 refine C_cond rfl (fun hb => ?_) (fun hb => ?_)
 ·replace hF := itT hb hF
  refine C_seq <| R_nd <| nq (Q_assign rfl) rfl rfl <| WL_nil <| x_then <| C_ret <| x_then_ret ?_
  replace H := H.drop 0 rfl
  dsimp only [List.eraseIdx] at H
  obtain rfl := Option.some.inj hF
  exact fn_ret (l := [.tmp 6]) (vs := [.bool false]) rfl rfl rfl ⟨ρ, false, rfl, rfl, (View.le_refl _), H⟩
 ·replace hF := itF hb hF
  refine C_skip <| x_then <| C_seq ?_
  obtain ⟨o11863, ho11863, hF⟩ := bnd hF
  refine C_cut (fun a w' => ∃ (x11862 : Bool), x11862 = o11863 ∧ Fr 138 a [(1, v10), (2, .int .i64 x13), (3, .pointer (some ⟨b11852, 0, none⟩)), (32, .bool x11862)] ∧ Hp C w' ρ (Box b11852 [v1, v4, v7] :: hs)) ?_ ?_
  ·refine R_nd <| nq (v := .pointer (some ⟨b11852, 0, none⟩)) (Q_fld Tryd.underlying25 rfl ty22 (by decide) rfl rfl) rfl rfl <| nq (v := v1) (Q_ldB (k := 0) (cs := [v1]) H.ok rfl ty22 rfl rfl rfl (fun _ => rfl) rfl) rfl rfl <| nq (Q_len Tryd.underlying22 rfl r3) rfl rfl <| nq (Q_gtr rfl rfl) rfl rfl <| nq (Q_move rfl) rfl rfl ?_
   rcases Bool.eq_false_or_eq_true (decide ((x2.length : Int) > 14)) with hb | hb
   ·rw [hb]
    replace ho11863 := itT hb ho11863
    refine gs rfl rfl rfl rfl <| gs rfl rfl rfl rfl <| gs rfl rfl rfl rfl <| nq (Q_pickT rfl rfl) rfl rfl <| nq (Q_move rfl) rfl rfl <| gs rfl rfl rfl rfl <| gs rfl rfl rfl rfl <| gs rfl rfl rfl rfl <| nq (Q_pickT rfl rfl) rfl rfl <| WL_nil ?_
    obtain rfl := Option.some.inj ho11863
    refine x_A fun a hf => ⟨true, rfl, hf.sub ⟨rfl, rfl, rfl, rfl, trivial⟩, H⟩
   ·rw [hb]
    replace ho11863 := itF hb ho11863
    refine gq (Q_move rfl) rfl rfl rfl <| gq (Q_len Tryd.underlying42 rfl r12) rfl rfl rfl <| gq (Q_gtr rfl rfl) rfl rfl rfl <| nq (Q_pickF rfl rfl) rfl rfl <| nq (Q_move rfl) rfl rfl ?_
    rcases Bool.eq_false_or_eq_true (decide ((x11.length : Int) > 50)) with hb | hb
    ·rw [hb]
     replace ho11863 := itT hb ho11863
     refine gs rfl rfl rfl rfl <| gs rfl rfl rfl rfl <| gs rfl rfl rfl rfl <| nq (Q_pickT rfl rfl) rfl rfl <| WL_nil ?_
     obtain rfl := Option.some.inj ho11863
     refine x_A fun a hf => ⟨true, rfl, hf.sub ⟨rfl, rfl, rfl, rfl, trivial⟩, H⟩
    ·rw [hb]
     replace ho11863 := itF hb ho11863
     refine gq (v := .agg #[v1, v4, v7]) (Q_ldB (k := 0) (cs := [v1, v4, v7]) H.ok rfl ty25 rfl rfl rfl (fun h => nomatch h) rfl) rfl rfl rfl ?_
     obtain ⟨q11864, hq11864, ho11863⟩ := bnd ho11863
     refine ge (E_call fn26 rfl (c_26 H  r3 r6 r9 hq11864)) rfl rfl rfl ?_
     rintro _ wd11867 ⟨x11866, rfl, rfl, H⟩
     try dsimp only at ho11863
     refine gq (Q_not rfl) rfl rfl rfl <| nq (Q_pickF rfl rfl) rfl rfl <| WL_nil ?_
     obtain rfl := Option.some.inj ho11863
     refine x_A fun a hf => ⟨!x11866, rfl, hf.sub ⟨rfl, rfl, rfl, rfl, trivial⟩, H⟩
  ·rintro a wd11868 ⟨x11862, rfl, hf, H⟩
   try dsimp only at hF
   refine CW.at hf ?_
   refine C_cond rfl (fun hb => ?_) (fun hb => ?_)
   ·replace hF := itT hb hF
    refine C_seq <| R_nd <| nq (Q_assign rfl) rfl rfl <| WL_nil <| x_then <| C_ret <| x_then_ret ?_
    replace H := H.drop 0 rfl
    dsimp only [List.eraseIdx] at H
    obtain rfl := Option.some.inj hF
    exact fn_ret (l := [.tmp 6]) (vs := [.bool true]) rfl rfl rfl ⟨ρ, true, rfl, rfl, (View.le_refl _), H⟩
   ·replace hF := itF hb hF
    refine C_skip <| x_then <| C_seq <| R_nd <| nq (v := .agg #[v1, v4, v7]) (Q_ldB (k := 0) (cs := [v1, v4, v7]) H.ok rfl ty25 rfl rfl rfl (fun h => nomatch h) rfl) rfl rfl ?_
    obtain ⟨q11869, hq11869, hF⟩ := bnd hF
    refine ne (E_call fn45 rfl (c_45 H gl0 gl1 r3 r6 r9 hq11869)) rfl rfl ?_
    rintro _ wd11883 ⟨v11871, c11872, v11873, c11874, v11875, c11876, x11877, x11878, x11879, rfl, rfl, r11880, r11881, r11882, H⟩
    try dsimp only at hF
    refine ne (E_alloc H ty25 (zs := [.slice none 0 0, .slice none 0 0, .slice none 0 0]) rfl) rfl rfl ?_
    rintro _ wd11885 ⟨b11884, rfl, H⟩
    refine ne (E_stB (k := 0) (cs := [v11871, v11873, v11875]) (vs' := [v11871, v11873, v11875]) H rfl ty25 rfl rfl rfl rfl (one_cons (arr_cells (H.ok.get (k := 1) rfl)).2 (one_cons (arr_cells (H.ok.get (k := 2) rfl)).2 (one_cons (arr_cells (H.ok.get (k := 3) rfl)).2 one_nil))) (by simp) rfl) rfl rfl ?_
    rintro _ wd11886 H
    dsimp only [List.set] at H
    refine WL_nil <| x_then <| C_seq ?_
    obtain ⟨o11899, ho11899, hF⟩ := bnd hF
    refine C_cut (fun a w' => ∃ (x11898 : Bool), x11898 = o11899 ∧ Fr 138 a [(1, v10), (2, .int .i64 x13), (3, .pointer (some ⟨b11852, 0, none⟩)), (7, .pointer (some ⟨b11884, 0, none⟩)), (46, .bool x11898)] ∧ Hp C w' ρ (Box b11852 [v1, v4, v7] :: Box b11884 [v11871, v11873, v11875] :: Arr v11871 256 c11872 :: Arr v11873 1 c11874 :: Arr v11875 1 c11876 :: hs)) ?_ ?_
    ·refine R_dr (.take 0 (.one 1 (.take 2 (.take 3 (.take 4 (.take 7 (.take 8 (.take 9 (.one 5 (.one 6 (.take 10 (.take 11 .done)))))))))))) (fun w' => Ok w' ρ [Box b11884 [v11871, v11873, v11875], Arr v11871 256 c11872, Arr v11873 1 c11874, Arr v11875 1 c11876, Box b11852 [v1, v4, v7]]) (by kernel_rfl) (by kernel_rfl) (by kernel_rfl) (H.drew.okS (by simp)) ?_
     replace H := H.drew
     refine dq (v := .agg #[v11871, v11873, v11875]) rfl (fun _ hw => Q_ldB (k := 0) (cs := [v11871, v11873, v11875]) hw rfl ty25 rfl rfl rfl (fun h => nomatch h) rfl) rfl rfl ?_
     replace H := H.f3
     replace H := H.f3
     replace H := H.f3
     obtain ⟨q11900, hq11900, ho11899⟩ := bnd ho11899
     obtain ⟨C', ρ', hl11901, HA, hL, hback⟩ := Hp.lend (A := []) (L := [Arr v11871 256 c11872, Arr v11873 1 c11874, Arr v11875 1 c11876]) (F := Box b11884 [v11871, v11873, v11875] :: Box b11852 [v1, v4, v7] :: hs) H
     refine d1 (de rfl (E_call fn26 rfl (c_26 HA  (arr_rd (by decide) hl11901 (hL (Arr v11871 256 c11872) (by simp)) r11880) (arr_rd (by decide) hl11901 (hL (Arr v11873 1 c11874) (by simp)) r11881) (arr_rd (by decide) hl11901 (hL (Arr v11875 1 c11876) (by simp)) r11882) hq11900)) rfl rfl ?_)
     rintro _ wd11903 ⟨x11902, rfl, rfl, H⟩
     try dsimp only at ho11899
     replace H := hback H
     dsimp only [List.cons_append, List.nil_append] at H
     refine ⟨H.okS (by simp), ?_⟩
     refine dq rfl (fun _ _ => Q_not rfl) rfl rfl <| dq rfl (fun _ _ => Q_move rfl) rfl rfl ?_
     rcases Bool.eq_false_or_eq_true (!x11902) with hb | hb
     ·rw [hb]
      replace ho11899 := itT hb ho11899
      refine dgs rfl rfl rfl rfl rfl <| dgs rfl rfl rfl rfl rfl <| dgs rfl rfl rfl rfl rfl <| dgs rfl rfl rfl rfl rfl ?_
      refine d1 (dges rfl rfl rfl rfl rfl ?_)
      refine d1 (dges rfl rfl rfl rfl rfl ?_)
      refine dgs rfl rfl rfl rfl rfl <| dq rfl (fun _ _ => Q_pickT rfl rfl) rfl rfl <| DL_nil ?_
      replace H := H.f2
      replace H := H.f2
      replace H := H.f2
      replace H := H.f3
      replace H := H.f4
      obtain rfl := Option.some.inj ho11899
      refine x_A fun a hf => ⟨true, rfl, hf.sub ⟨rfl, rfl, rfl, rfl, rfl, trivial⟩, H⟩
     ·rw [hb]
      replace ho11899 := itF hb ho11899
      refine dgq (v := .agg #[v11871, v11873, v11875]) rfl (fun _ hw => Q_ldB (k := 0) (cs := [v11871, v11873, v11875]) hw rfl ty25 rfl rfl rfl (fun h => nomatch h) rfl) rfl rfl rfl <| dgq (v := .pointer (some ⟨b11884, 0, none⟩)) rfl (fun _ _ => Q_fld Tryd.underlying25 rfl ty22 (by decide) rfl rfl) rfl rfl rfl <| dgq (v := v11871) rfl (fun _ hw => Q_ldB (k := 0) (cs := [v11871]) hw rfl ty22 rfl rfl rfl (fun _ => rfl) rfl) rfl rfl rfl <| dgq rfl (fun _ hw => Q_lenA (k := 1) hw rfl r11880 (by decide) Tryd.underlying22 rfl) rfl rfl rfl ?_
      replace H := H.f2
      replace H := H.f2
      replace H := H.f2
      obtain ⟨q11904, hq11904, ho11899⟩ := bnd ho11899
      obtain ⟨C', ρ', hl11905, HA, hL, hback⟩ := Hp.lend (A := []) (L := [Arr v11871 256 c11872, Arr v11873 1 c11874, Arr v11875 1 c11876]) (F := Box b11884 [v11871, v11873, v11875] :: Box b11852 [v1, v4, v7] :: hs) H
      refine d1 (dge rfl (E_call fn30 rfl (c_30 HA (gl0.up hl11905) (GTab.up hl11905 gl1) (arr_rd (by decide) hl11905 (hL (Arr v11871 256 c11872) (by simp)) r11880) (arr_rd (by decide) hl11905 (hL (Arr v11873 1 c11874) (by simp)) r11881) (arr_rd (by decide) hl11905 (hL (Arr v11875 1 c11876) (by simp)) r11882) hq11904)) rfl rfl rfl ?_)
      rintro _ wd11910 ⟨v11906, c11907, x11908, rfl, rfl, r11909, H⟩
      try dsimp only at ho11899
      replace H := hback H
      replace r11909 := rdL.flat (ρ := ρ') (ρ' := ρ) (flat_I _) r11909
      dsimp only [List.cons_append, List.nil_append] at H
      refine ⟨H.okS (by simp), ?_⟩
      refine d1 (dge rfl (Eff.quiet (v := .int .i64 (x11908.length : Int)) (Q_lenA (k := 0) H.ok rfl r11909 (by decide) Tryd.underlying23 rfl)) rfl rfl rfl ?_)
      rintro _ _ ⟨rfl, rfl⟩
      refine ⟨H.okS (by simp), ?_⟩
      refine dgq rfl (fun _ _ => Q_neq rfl rfl) rfl rfl rfl <| dq rfl (fun _ _ => Q_pickF rfl rfl) rfl rfl <| DL_nil ?_
      replace H := H.f3
      replace H := H.f3
      replace H := H.f3
      replace H := H.f4
      replace H := H.f5
      replace H := H.drop 5 rfl
      dsimp only [List.eraseIdx] at H
      obtain rfl := Option.some.inj ho11899
      refine x_A fun a hf => ⟨(x11908.length : Int) != (x11877.length : Int), rfl, hf.sub ⟨rfl, rfl, rfl, rfl, rfl, trivial⟩, H⟩
    ·rintro a wd11911 ⟨x11898, rfl, hf, H⟩
     try dsimp only at hF
     refine CW.at hf ?_
     refine C_cond rfl (fun hb => ?_) (fun hb => ?_)
     ·replace hF := itT hb hF
      refine C_seq <| R_nd <| nq (Q_assign rfl) rfl rfl <| WL_nil <| x_then <| C_ret <| x_then_ret ?_
      replace H := H.drop 0 rfl
      dsimp only [List.eraseIdx] at H
      replace H := H.drop 0 rfl
      dsimp only [List.eraseIdx] at H
      replace H := H.drop 0 rfl
      dsimp only [List.eraseIdx] at H
      replace H := H.drop 0 rfl
      dsimp only [List.eraseIdx] at H
      replace H := H.drop 0 rfl
      dsimp only [List.eraseIdx] at H
      obtain rfl := Option.some.inj hF
      exact fn_ret (l := [.tmp 6]) (vs := [.bool false]) rfl rfl rfl ⟨ρ, false, rfl, rfl, (View.le_refl _), H⟩
     ·replace hF := itF hb hF
      refine C_skip <| x_then <| C_seq <| C_seq <| R_nd <| nq (Q_move rfl) rfl rfl <| nq (Q_len Tryd.underlying42 rfl r12) rfl rfl <| nq (Q_add rfl rfl) rfl rfl <| nq (Q_move rfl) rfl rfl <| WL_nil <| x_then ?_
      obtain ⟨o11973, ho11973, hF⟩ := bnd hF
      refine C_cutQ (fun a w' => .inl () = o11973 ∧ Fr 138 a [(7, .pointer (some ⟨b11884, 0, none⟩))] ∧ Hp C w' ρ (Box b11884 [v11871, v11873, v11875] :: Arr v11871 256 c11872 :: Arr v11873 1 c11874 :: Arr v11875 1 c11876 :: hs)) ?_ ?_
      ·refine C_block ?_
       replace H := H.f4
       replace H := H.f4
       replace H := H.f4
       replace H := H.f4
       replace H := H.f4
       refine C_iter (f := fun s => F_dofferlaw19_HopcroftFewest_l0 N x2 x5 x8 x11 x13 x11877 x11878 x11879 s) ho11973 (fun s a w' => ∃ (x11993 : Int), x11993 = s ∧ Fr 138 a [(1, v10), (2, .int .i64 x13), (3, .pointer (some ⟨b11852, 0, none⟩)), (7, .pointer (some ⟨b11884, 0, none⟩)), (49, .int .i64 (w64 ((x11.length : Int) + 1))), (50, .int .i64 x11993)] ∧ Hp C w' ρ (Box b11852 [v1, v4, v7] :: Box b11884 [v11871, v11873, v11875] :: Arr v11871 256 c11872 :: Arr v11873 1 c11874 :: Arr v11875 1 c11876 :: hs)) ?_ ?_
       ·exact fun a hf => ⟨0, rfl, hf.sub ⟨rfl, rfl, rfl, rfl, rfl, rfl, trivial⟩, H⟩
       ·rintro s o12013 a wd12016 ⟨x11993, rfl, hf, H⟩ hB12014 hO12015
        replace hB12014 : F_dofferlaw19_HopcroftFewest_l0 N x2 x5 x8 x11 x13 x11877 x11878 x11879 x11993 = some o12013 := hB12014
        unfold F_dofferlaw19_HopcroftFewest_l0 at hB12014
        refine CW.at hf <| C_seq <| R_nd <| nq (Q_lss rfl rfl) rfl rfl <| WL_nil <| x_then <| C_seq ?_
        refine C_cond rfl (fun hb => ?_) (fun hb => ?_)
        ·replace hB12014 := itT hb hB12014
         refine C_skip <| x_then <| C_seq <| C_block <| C_seq <| R_nd <| nq (Q_move rfl) rfl rfl <| nq (Q_assign rfl) rfl rfl <| WL_nil <| x_then <| C_seq <| R_dr (.take 0 (.take 1 (.take 2 (.take 3 (.take 4 (.take 6 (.take 7 (.take 8 (.take 9 (.take 10 (.one 5 (.one 11 (.take 12 .done))))))))))))) (fun w' => Ok w' ρ [Box b11852 [v1, v4, v7], Box b11884 [v11871, v11873, v11875], Arr v11871 256 c11872, Arr v11873 1 c11874, Arr v11875 1 c11876]) (by kernel_rfl) (by kernel_rfl) (by kernel_rfl) (H.drew.okS (by simp)) ?_
         replace H := H.drew
         refine dq (v := .agg #[v11871, v11873, v11875]) rfl (fun _ hw => Q_ldB (k := 1) (cs := [v11871, v11873, v11875]) hw rfl ty25 rfl rfl rfl (fun h => nomatch h) rfl) rfl rfl <| dq rfl (fun _ _ => Q_move rfl) rfl rfl <| dq rfl (fun _ _ => Q_move rfl) rfl rfl <| dq rfl (fun _ _ => Q_move rfl) rfl rfl ?_
         obtain ⟨x12017, hx12017, hB12014⟩ := bnd hB12014
         obtain ⟨hs12018a, hs12018b, hs12018c, hs12018d⟩ := slc_some hx12017
         obtain ⟨v12019, r12020, hq12021⟩ := sliceR r12 hs12018a hs12018b hs12018c
         rw [← hs12018d] at r12020
         refine dq (v := v12019) rfl (fun _ _ => hq12021 _ _ _ _ _ _ _ _ _ _ _ _ _ _ _ Tryd.underlying42 ty5 rfl rfl ⟨_, rfl⟩) rfl rfl <| dq (v := .agg #[v1, v4, v7]) rfl (fun _ hw => Q_ldB (k := 0) (cs := [v1, v4, v7]) hw rfl ty25 rfl rfl rfl (fun h => nomatch h) rfl) rfl rfl <| dq rfl (fun _ _ => Q_move rfl) rfl rfl <| dq rfl (fun _ _ => Q_move rfl) rfl rfl <| dq rfl (fun _ _ => Q_move rfl) rfl rfl ?_
         obtain ⟨x12022, hx12022, hB12014⟩ := bnd hB12014
         obtain ⟨hs12023a, hs12023b, hs12023c, hs12023d⟩ := slc_some hx12022
         obtain ⟨v12024, r12025, hq12026⟩ := sliceR r12 hs12023a hs12023b hs12023c
         rw [← hs12023d] at r12025
         refine dq (v := v12024) rfl (fun _ _ => hq12026 _ _ _ _ _ _ _ _ _ _ _ _ _ _ _ Tryd.underlying42 ty5 rfl rfl ⟨_, rfl⟩) rfl rfl ?_
         replace H := H.f4
         replace H := H.f4
         replace H := H.f4
         obtain ⟨q12027, hq12027, hB12014⟩ := bnd hB12014
         obtain ⟨C', ρ', hl12028, HA, hL, hback⟩ := Hp.lend (A := []) (L := [Arr v11871 256 c11872, Arr v11873 1 c11874, Arr v11875 1 c11876]) (F := Box b11852 [v1, v4, v7] :: Box b11884 [v11871, v11873, v11875] :: hs) H
         refine d1 (de rfl (E_call fn27 rfl (c_27 HA  (arr_rd (by decide) hl12028 (hL (Arr v11871 256 c11872) (by simp)) r11880) (arr_rd (by decide) hl12028 (hL (Arr v11873 1 c11874) (by simp)) r11881) (arr_rd (by decide) hl12028 (hL (Arr v11875 1 c11876) (by simp)) r11882) (r12020.up hl12028) hq12027)) rfl rfl ?_)
         rintro _ wd12030 ⟨x12029, rfl, rfl, H⟩
         try dsimp only at hB12014
         replace H := hback H
         dsimp only [List.cons_append, List.nil_append] at H
         refine ⟨H.okS (by simp), ?_⟩
         obtain ⟨q12031, hq12031, hB12014⟩ := bnd hB12014
         refine d1 (de rfl (E_call fn27 rfl (c_27 H  r3 r6 r9 r12025 hq12031)) rfl rfl ?_)
         rintro _ wd12034 ⟨x12033, rfl, rfl, H⟩
         try dsimp only at hB12014
         refine ⟨H.okS (by simp), ?_⟩
         refine dq rfl (fun _ _ => Q_neq rfl rfl) rfl rfl <| DL_nil <| x_then ?_
         refine C_cond rfl (fun hb => ?_) (fun hb => ?_)
         ·replace hB12014 := itT hb hB12014
          refine C_seq <| R_nd <| nq (Q_assign rfl) rfl rfl <| WL_nil <| x_then <| C_ret <| x_block_ret <| x_then_ret <| x_then_ret <| x_block_ret <| x_then_ret <| x_then_ret ?_
          replace H := H.drop 0 rfl
          dsimp only [List.eraseIdx] at H
          replace H := H.drop 0 rfl
          dsimp only [List.eraseIdx] at H
          replace H := H.drop 0 rfl
          dsimp only [List.eraseIdx] at H
          replace H := H.drop 0 rfl
          dsimp only [List.eraseIdx] at H
          replace H := H.drop 0 rfl
          dsimp only [List.eraseIdx] at H
          obtain rfl := Option.some.inj hB12014
          obtain rfl := hO12015 _ rfl
          obtain rfl := Option.some.inj (show some _ = some _ from hF)
          exact fn_ret (l := [.tmp 6]) (vs := [.bool false]) rfl rfl rfl ⟨ρ, false, rfl, rfl, (View.le_refl _), H⟩
         ·replace hB12014 := itF hb hB12014
          refine C_skip <| x_block <| x_then <| R_nd <| nq (Q_add rfl rfl) rfl rfl <| nq (Q_move rfl) rfl rfl <| WL_nil ?_
          replace H := H.f2
          replace H := H.f2
          replace H := H.f2
          replace H := H.f4
          replace H := H.f4
          obtain rfl := Option.some.inj hB12014
          refine x_A fun a hf => ⟨_, rfl, w64 (x11993 + 1), rfl, hf.sub ⟨rfl, rfl, rfl, rfl, rfl, rfl, trivial⟩, H⟩
        ·replace hB12014 := itF hb hB12014
         refine C_exit <| x_then_exit <| x_then_exit <| x_block_exit ?_
         replace H := H.f4
         replace H := H.f4
         replace H := H.f4
         replace H := H.f4
         replace H := H.drop 4 rfl
         dsimp only [List.eraseIdx] at H
         obtain rfl := Option.some.inj hB12014
         obtain rfl := hO12015 _ rfl
         refine x_A fun a hf => ⟨rfl, hf.sub ⟨rfl, trivial⟩, H⟩
      ·rintro a wd12035 ⟨rfl, hf, H⟩
       try dsimp only at hF
       refine XX.at hf <| x_then <| C_seq <| C_seq <| R_nd <| nq (v := .pointer (some ⟨b11884, 0, none⟩)) (Q_fld Tryd.underlying25 rfl ty22 (by decide) rfl rfl) rfl rfl <| nq (v := v11871) (Q_ldB (k := 0) (cs := [v11871]) H.ok rfl ty22 rfl rfl rfl (fun _ => rfl) rfl) rfl rfl <| nq (Q_lenA (k := 1) H.ok rfl r11880 (by decide) Tryd.underlying22 rfl) rfl rfl <| nq (Q_move rfl) rfl rfl <| WL_nil <| x_then ?_
       obtain ⟨o17861, ho17861, hF⟩ := bnd hF
       refine C_cutQ (fun a w' => ∃ (ρ' : View), View.le ρ ρ' ∧ .inl () = o17861 ∧ Fr 138 a [] ∧ Hp C w' ρ' (hs)) ?_ ?_
       ·refine C_block ?_
        replace H := H.f3
        replace H := H.f3
        replace H := H.f3
        replace H := H.f3
        refine C_iter (f := fun s => F_dofferlaw19_HopcroftFewest_l1 N x11877 x11878 x11879 s) ho17861 (fun s a w' => ∃ (ρ' : View) (x19802 : Int), View.le ρ ρ' ∧ x19802 = s ∧ Fr 138 a [(7, .pointer (some ⟨b11884, 0, none⟩)), (69, .int .i64 (x11877.length : Int)), (70, .int .i64 x19802)] ∧ Hp C w' ρ' (Box b11884 [v11871, v11873, v11875] :: Arr v11871 256 c11872 :: Arr v11873 1 c11874 :: Arr v11875 1 c11876 :: hs)) ?_ ?_
        ·exact fun a hf => ⟨ρ, 0, (View.le_refl _), rfl, hf.sub ⟨rfl, rfl, rfl, trivial⟩, H⟩
        ·rintro s o21743 a wd21746 ⟨ρ, x19802, lw21747, rfl, hf, H⟩ hB21744 hO21745
         replace hB21744 : F_dofferlaw19_HopcroftFewest_l1 N x11877 x11878 x11879 x19802 = some o21743 := hB21744
         unfold F_dofferlaw19_HopcroftFewest_l1 at hB21744
         refine CW.at hf ?_
         replace r11880 := rdL.up lw21747 r11880
         replace r11881 := rdL.up lw21747 r11881
         replace r11882 := rdL.up lw21747 r11882
         replace gl0 := GErr.up lw21747 gl0
         replace gl1 := GTab.up lw21747 gl1
         refine C_seq <| R_nd <| nq (Q_lss rfl rfl) rfl rfl <| WL_nil <| x_then <| C_seq ?_
         refine C_cond rfl (fun hb => ?_) (fun hb => ?_)
         ·replace hB21744 := itT hb hB21744
          refine C_skip <| x_then <| C_seq <| C_block <| C_seq <| R_nd <| nq (Q_move rfl) rfl rfl <| nq (Q_assign rfl) rfl rfl <| WL_nil <| x_then <| C_seq <| R_nd <| nq (Q_move rfl) rfl rfl <| nq (Q_move rfl) rfl rfl ?_
          refine WL_nil <| x_then ?_
          obtain ⟨o22716, ho22716, hB21744⟩ := bnd hB21744
          refine C_cutQ (fun a w' => ∃ (ρ' : View), View.le ρ ρ' ∧ .inl () = o22716 ∧ Fr 138 a [(7, .pointer (some ⟨b11884, 0, none⟩)), (69, .int .i64 (x11877.length : Int)), (70, .int .i64 x19802)] ∧ Hp C w' ρ' (Box b11884 [v11871, v11873, v11875] :: Arr v11871 256 c11872 :: Arr v11873 1 c11874 :: Arr v11875 1 c11876 :: hs)) ?_ ?_
          ·refine C_block ?_
           replace H := H.f3
           replace H := H.f3
           replace H := H.f3
           replace H := H.f3
           refine C_iter (f := fun s => F_dofferlaw19_HopcroftFewest_l2 N x11877 x11878 x11879 x19802 s) ho22716 (fun s a w' => ∃ (ρ' : View) (x23038 : Int), View.le ρ ρ' ∧ x23038 = s ∧ Fr 138 a [(7, .pointer (some ⟨b11884, 0, none⟩)), (9, .int .i64 x19802), (69, .int .i64 (x11877.length : Int)), (70, .int .i64 x19802), (73, .int .i64 x19802), (74, .int .i64 x23038)] ∧ Hp C w' ρ' (Box b11884 [v11871, v11873, v11875] :: Arr v11871 256 c11872 :: Arr v11873 1 c11874 :: Arr v11875 1 c11876 :: hs)) ?_ ?_
           ·exact fun a hf => ⟨ρ, 0, (View.le_refl _), rfl, hf.sub ⟨rfl, rfl, rfl, rfl, rfl, rfl, trivial⟩, H⟩
           ·rintro s o23360 a wd23363 ⟨ρ, x23038, lw23364, rfl, hf, H⟩ hB23361 hO23362
            replace hB23361 : F_dofferlaw19_HopcroftFewest_l2 N x11877 x11878 x11879 x19802 x23038 = some o23360 := hB23361
            unfold F_dofferlaw19_HopcroftFewest_l2 at hB23361
            refine CW.at hf ?_
            replace r11880 := rdL.up lw23364 r11880
            replace r11881 := rdL.up lw23364 r11881
            replace r11882 := rdL.up lw23364 r11882
            replace gl0 := GErr.up lw23364 gl0
            replace gl1 := GTab.up lw23364 gl1
            refine C_seq <| R_nd <| nq (Q_lss rfl rfl) rfl rfl <| WL_nil <| x_then <| C_seq ?_
            refine C_cond rfl (fun hb => ?_) (fun hb => ?_)
            ·replace hB23361 := itT hb hB23361
             refine C_skip <| x_then <| C_seq <| C_block <| C_seq <| R_nd <| nq (Q_move rfl) rfl rfl <| nq (Q_assign rfl) rfl rfl <| WL_nil <| x_then <| C_seq <| R_nd <| nq (v := .agg #[v11871, v11873, v11875]) (Q_ldB (k := 0) (cs := [v11871, v11873, v11875]) H.ok rfl ty25 rfl rfl rfl (fun h => nomatch h) rfl) rfl rfl <| nq (Q_move rfl) rfl rfl ?_
             refine nq (Q_move rfl) rfl rfl ?_
             replace H := H.f3
             replace H := H.f3
             replace H := H.f3
             obtain ⟨q23365, hq23365, hB23361⟩ := bnd hB23361
             refine ne (E_call fn49 rfl (c_49_1 H  r11880 r11881 r11882 hq23365)) rfl rfl ?_
             rintro _ wd23372 (⟨ρ, rfl, rfl, lw23367, H⟩ | ⟨ρ, v23368, x23369, rfl, rfl, lw23370, r23371, H⟩)
             ·try dsimp only at hB23361
              replace r11880 := rdL.up lw23367 r11880
              replace r11881 := rdL.up lw23367 r11881
              replace r11882 := rdL.up lw23367 r11882
              replace gl0 := GErr.up lw23367 gl0
              replace gl1 := GTab.up lw23367 gl1
              refine nq (Q_move rfl) rfl rfl <| nq (Q_extract rfl rfl) rfl rfl <| nq (Q_extract rfl rfl) rfl rfl <| nq (Q_assign rfl) rfl rfl <| nq (Q_assign rfl) rfl rfl <| WL_nil <| x_then <| C_seq <| R_nd <| nq (Q_move rfl) rfl rfl <| nq (Q_move rfl) rfl rfl <| nq (Q_assign rfl) rfl rfl <| nq (Q_assign rfl) rfl rfl <| WL_nil ?_
              refine x_then <| C_seq <| C_seq <| R_nd <| nq (Q_move rfl) rfl rfl <| nq (Q_lenA (en := (eI .u8)) (k := 3) H.ok rfl rdL.nil (by decide) Tryd.underlying42 rfl) rfl rfl <| nq (Q_move rfl) rfl rfl <| WL_nil <| x_then ?_
              obtain ⟨o23442, ho23442, hB23361⟩ := bnd hB23361
              refine C_cutQ (fun a w' => ∃ (x23440 : Int) (x23441 : Int), .inl (x23440, x23441) = o23442 ∧ Fr 138 a [(7, .pointer (some ⟨b11884, 0, none⟩)), (9, .int .i64 x19802), (12, .bool false), (13, .int .i64 x23440), (14, .int .i64 x23441), (69, .int .i64 (x11877.length : Int)), (70, .int .i64 x19802), (73, .int .i64 x19802), (74, .int .i64 x23038)] ∧ Hp C w' ρ (Box b11884 [v11871, v11873, v11875] :: Arr v11871 256 c11872 :: Arr v11873 1 c11874 :: Arr v11875 1 c11876 :: hs)) ?_ ?_
              ·refine C_block ?_
               replace H := H.f3
               replace H := H.f3
               replace H := H.f3
               replace H := H.f3
               replace H := H.f4
               refine C_iter (f := fun s => F_dofferlaw19_HopcroftFewest_l3 N x11877 x11878 x11879 s.1 s.2.1 s.2.2) ho23442 (fun s a w' => ∃ (x23464 : Int) (x23465 : Int) (x23466 : Int), (x23464, x23465, x23466) = s ∧ Fr 138 a [(7, .pointer (some ⟨b11884, 0, none⟩)), (9, .int .i64 x19802), (12, .bool false), (13, .int .i64 x23464), (14, .int .i64 x23465), (69, .int .i64 (x11877.length : Int)), (70, .int .i64 x19802), (73, .int .i64 x19802), (74, .int .i64 x23038), (86, (.slice none 0 0)), (87, .int .i64 (([] : List Int).length : Int)), (88, .int .i64 x23466)] ∧ Hp C w' ρ (Box b11884 [v11871, v11873, v11875] :: Arr v11871 256 c11872 :: Arr v11873 1 c11874 :: Arr v11875 1 c11876 :: Arr (.slice none 0 0) 1 ([]) :: hs)) ?_ ?_
               ·exact fun a hf => ⟨x19802, x23038, 0, rfl, hf.sub ⟨rfl, rfl, rfl, rfl, rfl, rfl, rfl, rfl, rfl, rfl, rfl, rfl, trivial⟩, H⟩
               ·rintro s o23488 a wd23491 ⟨x23464, x23465, x23466, rfl, hf, H⟩ hB23489 hO23490
                replace hB23489 : F_dofferlaw19_HopcroftFewest_l3 N x11877 x11878 x11879 x23464 x23465 x23466 = some o23488 := hB23489
                unfold F_dofferlaw19_HopcroftFewest_l3 at hB23489
                refine CW.at hf <| C_seq <| R_nd <| nq (Q_lss rfl rfl) rfl rfl <| WL_nil <| x_then <| C_seq ?_
                refine C_cond rfl (fun hb => ?_) (fun hb => ?_)
                ·replace hB23489 := itT hb hB23489
                 refine C_skip <| x_then <| C_seq <| C_block <| C_seq <| R_nd ?_
                 obtain ⟨x23492, hx23492, hB23489⟩ := bnd hB23489
                 obtain ⟨b23493, o23494, hi23498, hc23496, ha23497⟩ := arr_at (en := (eI .u8)) (hs := [Arr (.slice none 0 0) 1 ([])]) (k := 0) (by decide) (H.okS (by simp)) rfl rdL.nil hx23492
                 refine nq (Q_idx hi23498 Tryd.underlying42 ty5 rfl rfl) rfl rfl <| nq (v := .int .u8 x23492) (Q_ld (show cellsAt _ _ _ [.int .u8 x23492] from (show _ = [_] from hc23496) ▸ (ha23497 _ (Ok.subS (by simp) H.ok))) ty5 rfl (fun _ => rfl) rfl rfl) rfl rfl <| nq (Q_assign rfl) rfl rfl <| WL_nil <| x_then <| C_seq <| R_dr (.take 0 (.take 1 (.take 2 (.take 4 (.take 5 (.take 6 (.one 3 (.one 7 (.take 8 (.take 9 .done)))))))))) (fun w' => Ok w' ρ [Box b11884 [v11871, v11873, v11875], Arr v11871 256 c11872, Arr v11873 1 c11874, Arr v11875 1 c11876, Arr (.slice none 0 0) 1 ([])]) (by kernel_rfl) (by kernel_rfl) (by kernel_rfl) (H.drew.okS (by simp)) ?_
                 replace H := H.drew
                 refine dq (v := .agg #[v11871, v11873, v11875]) rfl (fun _ hw => Q_ldB (k := 0) (cs := [v11871, v11873, v11875]) hw rfl ty25 rfl rfl rfl (fun h => nomatch h) rfl) rfl rfl <| dq rfl (fun _ _ => Q_move rfl) rfl rfl <| dq rfl (fun _ _ => Q_move rfl) rfl rfl <| dq (v := .agg #[v11871, v11873, v11875]) rfl (fun _ hw => Q_ldB (k := 0) (cs := [v11871, v11873, v11875]) hw rfl ty25 rfl rfl rfl (fun h => nomatch h) rfl) rfl rfl <| dq rfl (fun _ _ => Q_move rfl) rfl rfl <| dq rfl (fun _ _ => Q_move rfl) rfl rfl ?_
                 replace H := H.f3
                 replace H := H.f3
                 replace H := H.f3
                 obtain ⟨q23499, hq23499, hB23489⟩ := bnd hB23489
                 obtain ⟨C', ρ', hl23500, HA, hL, hback⟩ := Hp.lend (A := []) (L := [Arr v11871 256 c11872, Arr v11873 1 c11874, Arr v11875 1 c11876]) (F := Box b11884 [v11871, v11873, v11875] :: Arr (.slice none 0 0) 1 ([]) :: hs) H
                 refine d1 (de rfl (E_call fn37 rfl (c_37 HA  (arr_rd (by decide) hl23500 (hL (Arr v11871 256 c11872) (by simp)) r11880) (arr_rd (by decide) hl23500 (hL (Arr v11873 1 c11874) (by simp)) r11881) (arr_rd (by decide) hl23500 (hL (Arr v11875 1 c11876) (by simp)) r11882) hq23499)) rfl rfl ?_)
                 rintro _ wd23502 ⟨x23501, rfl, rfl, H⟩
                 try dsimp only at hB23489
                 replace H := hback H
                 dsimp only [List.cons_append, List.nil_append] at H
                 refine ⟨H.okS (by simp), ?_⟩
                 replace H := H.f2
                 replace H := H.f2
                 replace H := H.f2
                 obtain ⟨q23503, hq23503, hB23489⟩ := bnd hB23489
                 obtain ⟨C', ρ', hl23504, HA, hL, hback⟩ := Hp.lend (A := []) (L := [Arr v11871 256 c11872, Arr v11873 1 c11874, Arr v11875 1 c11876]) (F := Box b11884 [v11871, v11873, v11875] :: Arr (.slice none 0 0) 1 ([]) :: hs) H
                 refine d1 (de rfl (E_call fn37 rfl (c_37 HA  (arr_rd (by decide) hl23504 (hL (Arr v11871 256 c11872) (by simp)) r11880) (arr_rd (by decide) hl23504 (hL (Arr v11873 1 c11874) (by simp)) r11881) (arr_rd (by decide) hl23504 (hL (Arr v11875 1 c11876) (by simp)) r11882) hq23503)) rfl rfl ?_)
                 rintro _ wd23506 ⟨x23505, rfl, rfl, H⟩
                 try dsimp only at hB23489
                 replace H := hback H
                 dsimp only [List.cons_append, List.nil_append] at H
                 refine ⟨H.okS (by simp), ?_⟩
                 refine dq rfl (fun _ _ => Q_assign rfl) rfl rfl <| dq rfl (fun _ _ => Q_assign rfl) rfl rfl <| DL_nil <| x_then ?_
                 obtain ⟨o23508, ho23508, hB23489⟩ := bnd hB23489
                 refine C_cut (fun a w' => ∃ (x23507 : Bool), x23507 = o23508 ∧ Fr 138 a [(7, .pointer (some ⟨b11884, 0, none⟩)), (9, .int .i64 x19802), (12, .bool false), (13, .int .i64 x23501), (14, .int .i64 x23505), (69, .int .i64 (x11877.length : Int)), (70, .int .i64 x19802), (73, .int .i64 x19802), (74, .int .i64 x23038), (86, (.slice none 0 0)), (87, .int .i64 (([] : List Int).length : Int)), (88, .int .i64 x23466), (119, .bool x23507)] ∧ Hp C w' ρ (Box b11884 [v11871, v11873, v11875] :: Arr v11871 256 c11872 :: Arr v11873 1 c11874 :: Arr v11875 1 c11876 :: Arr (.slice none 0 0) 1 ([]) :: hs)) ?_ ?_
                 ·refine R_nd <| nq (Q_move rfl) rfl rfl <| nq (Q_lss rfl rfl) rfl rfl <| nq (Q_move rfl) rfl rfl ?_
                  rcases Bool.eq_false_or_eq_true (decide (x23501 < 0)) with hb | hb
                  ·rw [hb]
                   replace ho23508 := itT hb ho23508
                   refine gs rfl rfl rfl rfl <| gs rfl rfl rfl rfl <| nq (Q_pickT rfl rfl) rfl rfl <| nq (Q_move rfl) rfl rfl <| gs rfl rfl rfl rfl <| gs rfl rfl rfl rfl <| gs rfl rfl rfl rfl <| gs rfl rfl rfl rfl <| gs rfl rfl rfl rfl <| nq (Q_pickT rfl rfl) rfl rfl <| nq (Q_move rfl) rfl rfl <| gs rfl rfl rfl rfl <| gs rfl rfl rfl rfl <| gs rfl rfl rfl rfl ?_
                   refine gs rfl rfl rfl rfl <| gs rfl rfl rfl rfl <| nq (Q_pickT rfl rfl) rfl rfl <| WL_nil ?_
                   replace H := H.f4
                   replace H := H.f3
                   replace H := H.f3
                   replace H := H.f3
                   replace H := H.f4
                   obtain rfl := Option.some.inj ho23508
                   refine x_A fun a hf => ⟨true, rfl, hf.sub ⟨rfl, rfl, rfl, rfl, rfl, rfl, rfl, rfl, rfl, rfl, rfl, rfl, rfl, trivial⟩, H⟩
                  ·rw [hb]
                   replace ho23508 := itF hb ho23508
                   refine gq (Q_move rfl) rfl rfl rfl <| gq (Q_lss rfl rfl) rfl rfl rfl <| nq (Q_pickF rfl rfl) rfl rfl <| nq (Q_move rfl) rfl rfl ?_
                   rcases Bool.eq_false_or_eq_true (decide (x23505 < 0)) with hb | hb
                   ·rw [hb]
                    replace ho23508 := itT hb ho23508
                    refine gs rfl rfl rfl rfl <| gs rfl rfl rfl rfl <| gs rfl rfl rfl rfl <| gs rfl rfl rfl rfl <| gs rfl rfl rfl rfl <| nq (Q_pickT rfl rfl) rfl rfl <| nq (Q_move rfl) rfl rfl <| gs rfl rfl rfl rfl <| gs rfl rfl rfl rfl <| gs rfl rfl rfl rfl <| gs rfl rfl rfl rfl <| gs rfl rfl rfl rfl <| nq (Q_pickT rfl rfl) rfl rfl <| WL_nil ?_
                    replace H := H.f4
                    replace H := H.f3
                    replace H := H.f3
                    replace H := H.f3
                    replace H := H.f4
                    obtain rfl := Option.some.inj ho23508
                    refine x_A fun a hf => ⟨true, rfl, hf.sub ⟨rfl, rfl, rfl, rfl, rfl, rfl, rfl, rfl, rfl, rfl, rfl, rfl, rfl, trivial⟩, H⟩
                   ·rw [hb]
                    replace ho23508 := itF hb ho23508
                    refine gq (Q_move rfl) rfl rfl rfl <| gq (v := .pointer (some ⟨b11884, 1, none⟩)) (Q_fld Tryd.underlying25 rfl ty23 (by decide) rfl rfl) rfl rfl rfl <| gq (v := v11873) (Q_ldB (k := 3) (cs := [v11873]) H.ok rfl ty23 rfl rfl rfl (fun _ => rfl) rfl) rfl rfl rfl <| gq (Q_lenA (k := 1) H.ok rfl r11881 (by decide) Tryd.underlying23 rfl) rfl rfl rfl <| gq (Q_geq rfl rfl) rfl rfl rfl <| nq (Q_pickF rfl rfl) rfl rfl <| nq (Q_move rfl) rfl rfl ?_
                    rcases Bool.eq_false_or_eq_true (decide (x23501 ≥ (x11878.length : Int))) with hb | hb
                    ·rw [hb]
                     replace ho23508 := itT hb ho23508
                     refine gs rfl rfl rfl rfl <| gs rfl rfl rfl rfl <| gs rfl rfl rfl rfl <| gs rfl rfl rfl rfl <| gs rfl rfl rfl rfl <| nq (Q_pickT rfl rfl) rfl rfl <| WL_nil ?_
                     replace H := H.f4
                     replace H := H.f3
                     replace H := H.f3
                     replace H := H.f3
                     replace H := H.f4
                     obtain rfl := Option.some.inj ho23508
                     refine x_A fun a hf => ⟨true, rfl, hf.sub ⟨rfl, rfl, rfl, rfl, rfl, rfl, rfl, rfl, rfl, rfl, rfl, rfl, rfl, trivial⟩, H⟩
                    ·rw [hb]
                     replace ho23508 := itF hb ho23508
                     refine gq (Q_move rfl) rfl rfl rfl <| gq (v := .pointer (some ⟨b11884, 1, none⟩)) (Q_fld Tryd.underlying25 rfl ty23 (by decide) rfl rfl) rfl rfl rfl <| gq (v := v11873) (Q_ldB (k := 3) (cs := [v11873]) H.ok rfl ty23 rfl rfl rfl (fun _ => rfl) rfl) rfl rfl rfl <| gq (Q_lenA (k := 1) H.ok rfl r11881 (by decide) Tryd.underlying23 rfl) rfl rfl rfl <| gq (Q_geq rfl rfl) rfl rfl rfl <| nq (Q_pickF rfl rfl) rfl rfl <| WL_nil ?_
                     replace H := H.f4
                     replace H := H.f3
                     replace H := H.f3
                     replace H := H.f3
                     replace H := H.f4
                     obtain rfl := Option.some.inj ho23508
                     refine x_A fun a hf => ⟨decide (x23505 ≥ (x11878.length : Int)), rfl, hf.sub ⟨rfl, rfl, rfl, rfl, rfl, rfl, rfl, rfl, rfl, rfl, rfl, rfl, rfl, trivial⟩, H⟩
                 ·rintro a wd23509 ⟨x23507, rfl, hf, H⟩
                  try dsimp only at hB23489
                  refine CW.at hf ?_
                  refine C_cond rfl (fun hb => ?_) (fun hb => ?_)
                  ·replace hB23489 := itT hb hB23489
                   refine C_seq <| R_nd <| nq (Q_assign rfl) rfl rfl <| WL_nil <| x_then <| C_ret <| x_block_ret <| x_then_ret <| x_then_ret <| x_block_ret <| x_then_ret <| x_then_ret <| x_block_ret <| x_then_ret ?_
                   refine x_then_ret <| x_block_ret <| x_then_ret <| x_block_ret <| x_then_ret <| x_then_ret <| x_block_ret <| x_then_ret <| x_then_ret ?_
                   replace H := H.drop 0 rfl
                   dsimp only [List.eraseIdx] at H
                   replace H := H.drop 0 rfl
                   dsimp only [List.eraseIdx] at H
                   replace H := H.drop 0 rfl
                   dsimp only [List.eraseIdx] at H
                   replace H := H.drop 0 rfl
                   dsimp only [List.eraseIdx] at H
                   replace H := H.drop 0 rfl
                   dsimp only [List.eraseIdx] at H
                   obtain rfl := Option.some.inj hB23489
                   obtain rfl := hO23490 _ rfl
                   obtain rfl := Option.some.inj (show some _ = some _ from hB23361)
                   obtain rfl := hO23362 _ rfl
                   obtain rfl := Option.some.inj (show some _ = some _ from hB21744)
                   obtain rfl := hO21745 _ rfl
                   obtain rfl := Option.some.inj (show some _ = some _ from hF)
                   exact fn_ret (l := [.tmp 6]) (vs := [.bool false]) rfl rfl rfl ⟨ρ, false, rfl, rfl, (View.le_trans lw21747 (View.le_trans lw23364 lw23367)), H⟩
                  ·replace hB23489 := itF hb hB23489
                   refine C_skip <| x_block <| x_then <| R_nd <| nq (Q_add rfl rfl) rfl rfl <| nq (Q_move rfl) rfl rfl <| WL_nil ?_
                   replace H := H.f4
                   replace H := H.f4
                   replace H := H.f4
                   replace H := H.f4
                   replace H := H.f4
                   obtain rfl := Option.some.inj hB23489
                   refine x_A fun a hf => ⟨_, rfl, x23501, x23505, w64 (x23466 + 1), rfl, hf.sub ⟨rfl, rfl, rfl, rfl, rfl, rfl, rfl, rfl, rfl, rfl, rfl, rfl, trivial⟩, H⟩
                ·replace hB23489 := itF hb hB23489
                 refine C_exit <| x_then_exit <| x_then_exit <| x_block_exit ?_
                 replace H := H.f3
                 replace H := H.f3
                 replace H := H.f3
                 replace H := H.f3
                 replace H := H.drop 4 rfl
                 dsimp only [List.eraseIdx] at H
                 obtain rfl := Option.some.inj hB23489
                 obtain rfl := hO23490 _ rfl
                 refine x_A fun a hf => ⟨x23464, x23465, rfl, hf.sub ⟨rfl, rfl, rfl, rfl, rfl, rfl, rfl, rfl, rfl, trivial⟩, H⟩
              ·rintro a wd23510 ⟨x23440, x23441, rfl, hf, H⟩
               try dsimp only at hB23361
               refine XX.at hf <| x_then ?_
               obtain ⟨o23511, ho23511, hB23361⟩ := bnd hB23361
               refine C_cut (fun a w' => Fr 138 a [(7, .pointer (some ⟨b11884, 0, none⟩)), (9, .int .i64 x19802), (69, .int .i64 (x11877.length : Int)), (70, .int .i64 x19802), (73, .int .i64 x19802), (74, .int .i64 x23038), (124, undef), (125, undef), (126, undef), (127, undef), (128, undef), (129, undef), (130, undef), (131, undef), (132, undef), (133, undef), (134, undef), (135, .bool true)] ∧ Hp C w' ρ (Box b11884 [v11871, v11873, v11875] :: Arr v11871 256 c11872 :: Arr v11873 1 c11874 :: Arr v11875 1 c11876 :: hs)) ?_ ?_
               ·refine R_dr (.take 0 (.take 1 (.take 2 (.take 3 (.take 4 (.take 5 (.take 6 (.take 7 (.take 8 (.take 9 (.take 10 (.take 11 (.take 12 (.take 13 (.take 14 .done))))))))))))))) (fun w' => Ok w' ρ [Box b11884 [v11871, v11873, v11875], Arr v11871 256 c11872, Arr v11873 1 c11874, Arr v11875 1 c11876]) (by kernel_rfl) (by kernel_rfl) (by kernel_rfl) (H.drew.okS (by simp)) ?_
                replace H := H.drew
                refine dq rfl (fun _ _ => Q_move rfl) rfl rfl <| dq rfl (fun _ _ => Q_not rfl) rfl rfl <| dq rfl (fun _ _ => Q_move rfl) rfl rfl <| dgs rfl rfl rfl rfl rfl <| dgs rfl rfl rfl rfl rfl <| dgs rfl rfl rfl rfl rfl <| dgs rfl rfl rfl rfl rfl <| dgs rfl rfl rfl rfl rfl <| dgs rfl rfl rfl rfl rfl <| dgs rfl rfl rfl rfl rfl <| dgs rfl rfl rfl rfl rfl <| dgs rfl rfl rfl rfl rfl <| dgs rfl rfl rfl rfl rfl <| dgs rfl rfl rfl rfl rfl ?_
                refine dq rfl (fun _ _ => Q_pickT rfl rfl) rfl rfl <| DL_nil ?_
                replace H := H.f3
                replace H := H.f3
                replace H := H.f3
                replace H := H.f3
                obtain rfl := Option.some.inj ho23511
                refine x_A fun a hf => ⟨hf.sub ⟨rfl, rfl, rfl, rfl, rfl, rfl, rfl, rfl, rfl, rfl, rfl, rfl, rfl, rfl, rfl, rfl, rfl, rfl, trivial⟩, H⟩
               ·rintro a wd23512 ⟨hf, H⟩
                try dsimp only at hB23361
                refine CW.at hf ?_
                refine C_cond rfl (fun _ => ?_) (fun h => nomatch h)
                refine C_seq <| R_nd <| nq (Q_assign rfl) rfl rfl <| WL_nil <| x_then <| C_ret <| x_block_ret <| x_then_ret <| x_then_ret <| x_block_ret <| x_then_ret <| x_block_ret <| x_then_ret <| x_then_ret ?_
                refine x_block_ret <| x_then_ret <| x_then_ret ?_
                replace H := H.drop 0 rfl
                dsimp only [List.eraseIdx] at H
                replace H := H.drop 0 rfl
                dsimp only [List.eraseIdx] at H
                replace H := H.drop 0 rfl
                dsimp only [List.eraseIdx] at H
                replace H := H.drop 0 rfl
                dsimp only [List.eraseIdx] at H
                obtain rfl := Option.some.inj hB23361
                obtain rfl := hO23362 _ rfl
                obtain rfl := Option.some.inj (show some _ = some _ from hB21744)
                obtain rfl := hO21745 _ rfl
                obtain rfl := Option.some.inj (show some _ = some _ from hF)
                exact fn_ret (l := [.tmp 6]) (vs := [.bool false]) rfl rfl rfl ⟨ρ, false, rfl, rfl, (View.le_trans lw21747 (View.le_trans lw23364 lw23367)), H⟩
             ·try dsimp only at hB23361
              replace r11880 := rdL.up lw23370 r11880
              replace r11881 := rdL.up lw23370 r11881
              replace r11882 := rdL.up lw23370 r11882
              replace gl0 := GErr.up lw23370 gl0
              replace gl1 := GTab.up lw23370 gl1
              refine nq (Q_move rfl) rfl rfl <| nq (Q_extract rfl rfl) rfl rfl <| nq (Q_extract rfl rfl) rfl rfl <| nq (Q_assign rfl) rfl rfl <| nq (Q_assign rfl) rfl rfl <| WL_nil <| x_then <| C_seq <| R_nd <| nq (Q_move rfl) rfl rfl <| nq (Q_move rfl) rfl rfl <| nq (Q_assign rfl) rfl rfl <| nq (Q_assign rfl) rfl rfl <| WL_nil ?_
              refine x_then <| C_seq <| C_seq <| R_nd <| nq (Q_move rfl) rfl rfl <| nq (Q_len Tryd.underlying42 rfl r23371) rfl rfl <| nq (Q_move rfl) rfl rfl <| WL_nil <| x_then ?_
              obtain ⟨o23582, ho23582, hB23361⟩ := bnd hB23361
              refine C_cutQ (fun a w' => ∃ (x23580 : Int) (x23581 : Int), .inl (x23580, x23581) = o23582 ∧ Fr 138 a [(7, .pointer (some ⟨b11884, 0, none⟩)), (9, .int .i64 x19802), (12, .bool true), (13, .int .i64 x23580), (14, .int .i64 x23581), (69, .int .i64 (x11877.length : Int)), (70, .int .i64 x19802), (73, .int .i64 x19802), (74, .int .i64 x23038)] ∧ Hp C w' ρ (Box b11884 [v11871, v11873, v11875] :: Arr v11871 256 c11872 :: Arr v11873 1 c11874 :: Arr v11875 1 c11876 :: hs)) ?_ ?_
              ·refine C_block ?_
               replace H := H.f2
               replace H := H.f2
               replace H := H.f2
               replace H := H.f3
               refine C_iter (f := fun s => F_dofferlaw19_HopcroftFewest_l4 N x11877 x11878 x11879 x23369 s.1 s.2.1 s.2.2) ho23582 (fun s a w' => ∃ (x23604 : Int) (x23605 : Int) (x23606 : Int), (x23604, x23605, x23606) = s ∧ Fr 138 a [(7, .pointer (some ⟨b11884, 0, none⟩)), (9, .int .i64 x19802), (12, .bool true), (13, .int .i64 x23604), (14, .int .i64 x23605), (69, .int .i64 (x11877.length : Int)), (70, .int .i64 x19802), (73, .int .i64 x19802), (74, .int .i64 x23038), (86, v23368), (87, .int .i64 (x23369.length : Int)), (88, .int .i64 x23606)] ∧ Hp C w' ρ (Box b11884 [v11871, v11873, v11875] :: Arr v11871 256 c11872 :: Arr v11873 1 c11874 :: Arr v11875 1 c11876 :: hs)) ?_ ?_
               ·exact fun a hf => ⟨x19802, x23038, 0, rfl, hf.sub ⟨rfl, rfl, rfl, rfl, rfl, rfl, rfl, rfl, rfl, rfl, rfl, rfl, trivial⟩, H⟩
               ·rintro s o23628 a wd23631 ⟨x23604, x23605, x23606, rfl, hf, H⟩ hB23629 hO23630
                replace hB23629 : F_dofferlaw19_HopcroftFewest_l4 N x11877 x11878 x11879 x23369 x23604 x23605 x23606 = some o23628 := hB23629
                unfold F_dofferlaw19_HopcroftFewest_l4 at hB23629
                refine CW.at hf <| C_seq <| R_nd <| nq (Q_lss rfl rfl) rfl rfl <| WL_nil <| x_then <| C_seq ?_
                refine C_cond rfl (fun hb => ?_) (fun hb => ?_)
                ·replace hB23629 := itT hb hB23629
                 refine C_skip <| x_then <| C_seq <| C_block <| C_seq <| R_nd ?_
                 obtain ⟨x23632, hx23632, hB23629⟩ := bnd hB23629
                 obtain ⟨b23633, o23634, c23635, hc23636, ha23637, hi23638⟩ := idxR r23371 hx23632
                 refine nq (Q_idx hi23638 Tryd.underlying42 ty5 rfl rfl) rfl rfl <| nq (v := .int .u8 x23632) (Q_ld (show cellsAt _ _ _ [.int .u8 x23632] from (show _ = [_] from hc23636) ▸ (ha23637.up H.ok.view)) ty5 rfl (fun _ => rfl) rfl rfl) rfl rfl <| nq (Q_assign rfl) rfl rfl <| WL_nil <| x_then <| C_seq <| R_dr (.take 0 (.take 1 (.take 2 (.take 4 (.take 5 (.take 6 (.one 3 (.one 7 (.take 8 (.take 9 .done)))))))))) (fun w' => Ok w' ρ [Box b11884 [v11871, v11873, v11875], Arr v11871 256 c11872, Arr v11873 1 c11874, Arr v11875 1 c11876]) (by kernel_rfl) (by kernel_rfl) (by kernel_rfl) (H.drew.okS (by simp)) ?_
                 replace H := H.drew
                 refine dq (v := .agg #[v11871, v11873, v11875]) rfl (fun _ hw => Q_ldB (k := 0) (cs := [v11871, v11873, v11875]) hw rfl ty25 rfl rfl rfl (fun h => nomatch h) rfl) rfl rfl <| dq rfl (fun _ _ => Q_move rfl) rfl rfl <| dq rfl (fun _ _ => Q_move rfl) rfl rfl <| dq (v := .agg #[v11871, v11873, v11875]) rfl (fun _ hw => Q_ldB (k := 0) (cs := [v11871, v11873, v11875]) hw rfl ty25 rfl rfl rfl (fun h => nomatch h) rfl) rfl rfl <| dq rfl (fun _ _ => Q_move rfl) rfl rfl <| dq rfl (fun _ _ => Q_move rfl) rfl rfl ?_
                 replace H := H.f3
                 replace H := H.f3
                 replace H := H.f3
                 obtain ⟨q23639, hq23639, hB23629⟩ := bnd hB23629
                 obtain ⟨C', ρ', hl23640, HA, hL, hback⟩ := Hp.lend (A := []) (L := [Arr v11871 256 c11872, Arr v11873 1 c11874, Arr v11875 1 c11876]) (F := Box b11884 [v11871, v11873, v11875] :: hs) H
                 refine d1 (de rfl (E_call fn37 rfl (c_37 HA  (arr_rd (by decide) hl23640 (hL (Arr v11871 256 c11872) (by simp)) r11880) (arr_rd (by decide) hl23640 (hL (Arr v11873 1 c11874) (by simp)) r11881) (arr_rd (by decide) hl23640 (hL (Arr v11875 1 c11876) (by simp)) r11882) hq23639)) rfl rfl ?_)
                 rintro _ wd23642 ⟨x23641, rfl, rfl, H⟩
                 try dsimp only at hB23629
                 replace H := hback H
                 dsimp only [List.cons_append, List.nil_append] at H
                 refine ⟨H.okS (by simp), ?_⟩
                 replace H := H.f2
                 replace H := H.f2
                 replace H := H.f2
                 obtain ⟨q23643, hq23643, hB23629⟩ := bnd hB23629
                 obtain ⟨C', ρ', hl23644, HA, hL, hback⟩ := Hp.lend (A := []) (L := [Arr v11871 256 c11872, Arr v11873 1 c11874, Arr v11875 1 c11876]) (F := Box b11884 [v11871, v11873, v11875] :: hs) H
                 refine d1 (de rfl (E_call fn37 rfl (c_37 HA  (arr_rd (by decide) hl23644 (hL (Arr v11871 256 c11872) (by simp)) r11880) (arr_rd (by decide) hl23644 (hL (Arr v11873 1 c11874) (by simp)) r11881) (arr_rd (by decide) hl23644 (hL (Arr v11875 1 c11876) (by simp)) r11882) hq23643)) rfl rfl ?_)
                 rintro _ wd23646 ⟨x23645, rfl, rfl, H⟩
                 try dsimp only at hB23629
                 replace H := hback H
                 dsimp only [List.cons_append, List.nil_append] at H
                 refine ⟨H.okS (by simp), ?_⟩
                 refine dq rfl (fun _ _ => Q_assign rfl) rfl rfl <| dq rfl (fun _ _ => Q_assign rfl) rfl rfl <| DL_nil <| x_then ?_
                 obtain ⟨o23648, ho23648, hB23629⟩ := bnd hB23629
                 refine C_cut (fun a w' => ∃ (x23647 : Bool), x23647 = o23648 ∧ Fr 138 a [(7, .pointer (some ⟨b11884, 0, none⟩)), (9, .int .i64 x19802), (12, .bool true), (13, .int .i64 x23641), (14, .int .i64 x23645), (69, .int .i64 (x11877.length : Int)), (70, .int .i64 x19802), (73, .int .i64 x19802), (74, .int .i64 x23038), (86, v23368), (87, .int .i64 (x23369.length : Int)), (88, .int .i64 x23606), (119, .bool x23647)] ∧ Hp C w' ρ (Box b11884 [v11871, v11873, v11875] :: Arr v11871 256 c11872 :: Arr v11873 1 c11874 :: Arr v11875 1 c11876 :: hs)) ?_ ?_
                 ·refine R_nd <| nq (Q_move rfl) rfl rfl <| nq (Q_lss rfl rfl) rfl rfl <| nq (Q_move rfl) rfl rfl ?_
                  rcases Bool.eq_false_or_eq_true (decide (x23641 < 0)) with hb | hb
                  ·rw [hb]
                   replace ho23648 := itT hb ho23648
                   refine gs rfl rfl rfl rfl <| gs rfl rfl rfl rfl <| nq (Q_pickT rfl rfl) rfl rfl <| nq (Q_move rfl) rfl rfl <| gs rfl rfl rfl rfl <| gs rfl rfl rfl rfl <| gs rfl rfl rfl rfl <| gs rfl rfl rfl rfl <| gs rfl rfl rfl rfl <| nq (Q_pickT rfl rfl) rfl rfl <| nq (Q_move rfl) rfl rfl <| gs rfl rfl rfl rfl <| gs rfl rfl rfl rfl <| gs rfl rfl rfl rfl ?_
                   refine gs rfl rfl rfl rfl <| gs rfl rfl rfl rfl <| nq (Q_pickT rfl rfl) rfl rfl <| WL_nil ?_
                   replace H := H.f2
                   replace H := H.f2
                   replace H := H.f2
                   replace H := H.f3
                   obtain rfl := Option.some.inj ho23648
                   refine x_A fun a hf => ⟨true, rfl, hf.sub ⟨rfl, rfl, rfl, rfl, rfl, rfl, rfl, rfl, rfl, rfl, rfl, rfl, rfl, trivial⟩, H⟩
                  ·rw [hb]
                   replace ho23648 := itF hb ho23648
                   refine gq (Q_move rfl) rfl rfl rfl <| gq (Q_lss rfl rfl) rfl rfl rfl <| nq (Q_pickF rfl rfl) rfl rfl <| nq (Q_move rfl) rfl rfl ?_
                   rcases Bool.eq_false_or_eq_true (decide (x23645 < 0)) with hb | hb
                   ·rw [hb]
                    replace ho23648 := itT hb ho23648
                    refine gs rfl rfl rfl rfl <| gs rfl rfl rfl rfl <| gs rfl rfl rfl rfl <| gs rfl rfl rfl rfl <| gs rfl rfl rfl rfl <| nq (Q_pickT rfl rfl) rfl rfl <| nq (Q_move rfl) rfl rfl <| gs rfl rfl rfl rfl <| gs rfl rfl rfl rfl <| gs rfl rfl rfl rfl <| gs rfl rfl rfl rfl <| gs rfl rfl rfl rfl <| nq (Q_pickT rfl rfl) rfl rfl <| WL_nil ?_
                    replace H := H.f2
                    replace H := H.f2
                    replace H := H.f2
                    replace H := H.f3
                    obtain rfl := Option.some.inj ho23648
                    refine x_A fun a hf => ⟨true, rfl, hf.sub ⟨rfl, rfl, rfl, rfl, rfl, rfl, rfl, rfl, rfl, rfl, rfl, rfl, rfl, trivial⟩, H⟩
                   ·rw [hb]
                    replace ho23648 := itF hb ho23648
                    refine gq (Q_move rfl) rfl rfl rfl <| gq (v := .pointer (some ⟨b11884, 1, none⟩)) (Q_fld Tryd.underlying25 rfl ty23 (by decide) rfl rfl) rfl rfl rfl <| gq (v := v11873) (Q_ldB (k := 3) (cs := [v11873]) H.ok rfl ty23 rfl rfl rfl (fun _ => rfl) rfl) rfl rfl rfl <| gq (Q_lenA (k := 1) H.ok rfl r11881 (by decide) Tryd.underlying23 rfl) rfl rfl rfl <| gq (Q_geq rfl rfl) rfl rfl rfl <| nq (Q_pickF rfl rfl) rfl rfl <| nq (Q_move rfl) rfl rfl ?_
                    rcases Bool.eq_false_or_eq_true (decide (x23641 ≥ (x11878.length : Int))) with hb | hb
                    ·rw [hb]
                     replace ho23648 := itT hb ho23648
                     refine gs rfl rfl rfl rfl <| gs rfl rfl rfl rfl <| gs rfl rfl rfl rfl <| gs rfl rfl rfl rfl <| gs rfl rfl rfl rfl <| nq (Q_pickT rfl rfl) rfl rfl <| WL_nil ?_
                     replace H := H.f2
                     replace H := H.f2
                     replace H := H.f2
                     replace H := H.f3
                     obtain rfl := Option.some.inj ho23648
                     refine x_A fun a hf => ⟨true, rfl, hf.sub ⟨rfl, rfl, rfl, rfl, rfl, rfl, rfl, rfl, rfl, rfl, rfl, rfl, rfl, trivial⟩, H⟩
                    ·rw [hb]
                     replace ho23648 := itF hb ho23648
                     refine gq (Q_move rfl) rfl rfl rfl <| gq (v := .pointer (some ⟨b11884, 1, none⟩)) (Q_fld Tryd.underlying25 rfl ty23 (by decide) rfl rfl) rfl rfl rfl <| gq (v := v11873) (Q_ldB (k := 3) (cs := [v11873]) H.ok rfl ty23 rfl rfl rfl (fun _ => rfl) rfl) rfl rfl rfl <| gq (Q_lenA (k := 1) H.ok rfl r11881 (by decide) Tryd.underlying23 rfl) rfl rfl rfl <| gq (Q_geq rfl rfl) rfl rfl rfl <| nq (Q_pickF rfl rfl) rfl rfl <| WL_nil ?_
                     replace H := H.f2
                     replace H := H.f2
                     replace H := H.f2
                     replace H := H.f3
                     obtain rfl := Option.some.inj ho23648
                     refine x_A fun a hf => ⟨decide (x23645 ≥ (x11878.length : Int)), rfl, hf.sub ⟨rfl, rfl, rfl, rfl, rfl, rfl, rfl, rfl, rfl, rfl, rfl, rfl, rfl, trivial⟩, H⟩
                 ·rintro a wd23649 ⟨x23647, rfl, hf, H⟩
                  try dsimp only at hB23629
                  refine CW.at hf ?_
                  refine C_cond rfl (fun hb => ?_) (fun hb => ?_)
                  ·replace hB23629 := itT hb hB23629
                   refine C_seq <| R_nd <| nq (Q_assign rfl) rfl rfl <| WL_nil <| x_then <| C_ret <| x_block_ret <| x_then_ret <| x_then_ret <| x_block_ret <| x_then_ret <| x_then_ret <| x_block_ret <| x_then_ret ?_
                   refine x_then_ret <| x_block_ret <| x_then_ret <| x_block_ret <| x_then_ret <| x_then_ret <| x_block_ret <| x_then_ret <| x_then_ret ?_
                   replace H := H.drop 0 rfl
                   dsimp only [List.eraseIdx] at H
                   replace H := H.drop 0 rfl
                   dsimp only [List.eraseIdx] at H
                   replace H := H.drop 0 rfl
                   dsimp only [List.eraseIdx] at H
                   replace H := H.drop 0 rfl
                   dsimp only [List.eraseIdx] at H
                   obtain rfl := Option.some.inj hB23629
                   obtain rfl := hO23630 _ rfl
                   obtain rfl := Option.some.inj (show some _ = some _ from hB23361)
                   obtain rfl := hO23362 _ rfl
                   obtain rfl := Option.some.inj (show some _ = some _ from hB21744)
                   obtain rfl := hO21745 _ rfl
                   obtain rfl := Option.some.inj (show some _ = some _ from hF)
                   exact fn_ret (l := [.tmp 6]) (vs := [.bool false]) rfl rfl rfl ⟨ρ, false, rfl, rfl, (View.le_trans lw21747 (View.le_trans lw23364 lw23370)), H⟩
                  ·replace hB23629 := itF hb hB23629
                   refine C_skip <| x_block <| x_then <| R_nd <| nq (Q_add rfl rfl) rfl rfl <| nq (Q_move rfl) rfl rfl <| WL_nil ?_
                   replace H := H.f3
                   replace H := H.f3
                   replace H := H.f3
                   replace H := H.f3
                   obtain rfl := Option.some.inj hB23629
                   refine x_A fun a hf => ⟨_, rfl, x23641, x23645, w64 (x23606 + 1), rfl, hf.sub ⟨rfl, rfl, rfl, rfl, rfl, rfl, rfl, rfl, rfl, rfl, rfl, rfl, trivial⟩, H⟩
                ·replace hB23629 := itF hb hB23629
                 refine C_exit <| x_then_exit <| x_then_exit <| x_block_exit ?_
                 replace H := H.f3
                 replace H := H.f3
                 replace H := H.f3
                 replace H := H.f3
                 obtain rfl := Option.some.inj hB23629
                 obtain rfl := hO23630 _ rfl
                 refine x_A fun a hf => ⟨x23604, x23605, rfl, hf.sub ⟨rfl, rfl, rfl, rfl, rfl, rfl, rfl, rfl, rfl, trivial⟩, H⟩
              ·rintro a wd23650 ⟨x23580, x23581, rfl, hf, H⟩
               try dsimp only at hB23361
               refine XX.at hf <| x_then ?_
               obtain ⟨o23669, ho23669, hB23361⟩ := bnd hB23361
               refine C_cut (fun a w' => ∃ (x23665 : Int) (x23666 : Int) (x23667 : Bool) (x23668 : Bool), (x23665, x23666, x23667, x23668) = o23669 ∧ Fr 138 a [(7, .pointer (some ⟨b11884, 0, none⟩)), (9, .int .i64 x19802), (69, .int .i64 (x11877.length : Int)), (70, .int .i64 x19802), (73, .int .i64 x19802), (74, .int .i64 x23038), (124, .pointer (some ⟨b11884, 1, none⟩)), (125, v11873), (126, .int .i64 x23580), (128, .int .i64 x23665), (129, .pointer (some ⟨b11884, 1, none⟩)), (130, v11873), (131, .int .i64 x23581), (133, .int .i64 x23666), (134, .bool x23667), (135, .bool x23668)] ∧ Hp C w' ρ (Box b11884 [v11871, v11873, v11875] :: Arr v11871 256 c11872 :: Arr v11873 1 c11874 :: Arr v11875 1 c11876 :: hs)) ?_ ?_
               ·refine R_dr (.take 0 (.take 1 (.take 2 (.take 3 (.take 4 (.take 5 (.take 6 (.take 7 (.take 8 (.take 9 (.take 10 (.take 11 (.take 12 (.take 13 (.take 14 .done))))))))))))))) (fun w' => Ok w' ρ [Box b11884 [v11871, v11873, v11875], Arr v11871 256 c11872, Arr v11873 1 c11874, Arr v11875 1 c11876]) (by kernel_rfl) (by kernel_rfl) (by kernel_rfl) (H.drew.okS (by simp)) ?_
                replace H := H.drew
                refine dq rfl (fun _ _ => Q_move rfl) rfl rfl <| dq rfl (fun _ _ => Q_not rfl) rfl rfl <| dq rfl (fun _ _ => Q_move rfl) rfl rfl <| dgq (v := .pointer (some ⟨b11884, 1, none⟩)) rfl (fun _ _ => Q_fld Tryd.underlying25 rfl ty23 (by decide) rfl rfl) rfl rfl rfl <| dgq (v := v11873) rfl (fun _ hw => Q_ldB (k := 0) (cs := [v11873]) hw rfl ty23 rfl rfl rfl (fun _ => rfl) rfl) rfl rfl rfl <| dgq rfl (fun _ _ => Q_move rfl) rfl rfl rfl ?_
                obtain ⟨x23670, hx23670, ho23669⟩ := bnd ho23669
                obtain ⟨b23671, o23672, hi23676, hc23674, ha23675⟩ := arr_at (hs := [Arr v11873 1 c11874]) (k := 0) (by decide) (H.okS (by simp)) rfl r11881 hx23670
                refine dgq rfl (fun _ _ => Q_idx hi23676 Tryd.underlying23 ty3 rfl rfl) rfl rfl rfl <| dgq (v := .int .i64 x23670) rfl (fun _ hw => Q_ld (show cellsAt _ _ _ [.int .i64 x23670] from (show _ = [_] from hc23674) ▸ (ha23675 _ (Ok.subS (by simp) hw))) ty3 rfl (fun _ => rfl) rfl rfl) rfl rfl rfl <| dgq (v := .pointer (some ⟨b11884, 1, none⟩)) rfl (fun _ _ => Q_fld Tryd.underlying25 rfl ty23 (by decide) rfl rfl) rfl rfl rfl <| dgq (v := v11873) rfl (fun _ hw => Q_ldB (k := 0) (cs := [v11873]) hw rfl ty23 rfl rfl rfl (fun _ => rfl) rfl) rfl rfl rfl <| dgq rfl (fun _ _ => Q_move rfl) rfl rfl rfl ?_
                obtain ⟨x23677, hx23677, ho23669⟩ := bnd ho23669
                obtain ⟨b23678, o23679, hi23683, hc23681, ha23682⟩ := arr_at (hs := [Arr v11873 1 c11874]) (k := 0) (by decide) (H.okS (by simp)) rfl r11881 hx23677
                refine dgq rfl (fun _ _ => Q_idx hi23683 Tryd.underlying23 ty3 rfl rfl) rfl rfl rfl <| dgq (v := .int .i64 x23677) rfl (fun _ hw => Q_ld (show cellsAt _ _ _ [.int .i64 x23677] from (show _ = [_] from hc23681) ▸ (ha23682 _ (Ok.subS (by simp) hw))) ty3 rfl (fun _ => rfl) rfl rfl) rfl rfl rfl <| dgq rfl (fun _ _ => Q_eql rfl rfl) rfl rfl rfl <| dq rfl (fun _ _ => Q_pickF rfl rfl) rfl rfl <| DL_nil ?_
                replace H := H.f3
                replace H := H.f3
                replace H := H.f3
                replace H := H.f3
                obtain rfl := Option.some.inj ho23669
                refine x_A fun a hf => ⟨x23670, x23677, x23670 == x23677, x23670 == x23677, rfl, hf.sub ⟨rfl, rfl, rfl, rfl, rfl, rfl, rfl, rfl, rfl, rfl, rfl, rfl, rfl, rfl, rfl, rfl, trivial⟩, H⟩
               ·rintro a wd23684 ⟨x23665, x23666, x23667, x23668, rfl, hf, H⟩
                try dsimp only at hB23361
                refine CW.at hf ?_
                refine C_cond rfl (fun hb => ?_) (fun hb => ?_)
                ·replace hB23361 := itT hb hB23361
                 refine C_seq <| R_nd <| nq (Q_assign rfl) rfl rfl <| WL_nil <| x_then <| C_ret <| x_block_ret <| x_then_ret <| x_then_ret <| x_block_ret <| x_then_ret <| x_block_ret <| x_then_ret <| x_then_ret ?_
                 refine x_block_ret <| x_then_ret <| x_then_ret ?_
                 replace H := H.drop 0 rfl
                 dsimp only [List.eraseIdx] at H
                 replace H := H.drop 0 rfl
                 dsimp only [List.eraseIdx] at H
                 replace H := H.drop 0 rfl
                 dsimp only [List.eraseIdx] at H
                 replace H := H.drop 0 rfl
                 dsimp only [List.eraseIdx] at H
                 obtain rfl := Option.some.inj hB23361
                 obtain rfl := hO23362 _ rfl
                 obtain rfl := Option.some.inj (show some _ = some _ from hB21744)
                 obtain rfl := hO21745 _ rfl
                 obtain rfl := Option.some.inj (show some _ = some _ from hF)
                 exact fn_ret (l := [.tmp 6]) (vs := [.bool false]) rfl rfl rfl ⟨ρ, false, rfl, rfl, (View.le_trans lw21747 (View.le_trans lw23364 lw23370)), H⟩
                ·replace hB23361 := itF hb hB23361
                 refine C_skip <| x_block <| x_then <| R_nd <| nq (Q_add rfl rfl) rfl rfl <| nq (Q_move rfl) rfl rfl <| WL_nil ?_
                 replace H := H.f3
                 replace H := H.f3
                 replace H := H.f3
                 replace H := H.f3
                 obtain rfl := Option.some.inj hB23361
                 refine x_A fun a hf => ⟨_, rfl, ρ, w64 (x23038 + 1), (View.le_trans lw23364 lw23370), rfl, hf.sub ⟨rfl, rfl, rfl, rfl, rfl, rfl, trivial⟩, H⟩
            ·replace hB23361 := itF hb hB23361
             refine C_exit <| x_then_exit <| x_then_exit <| x_block_exit ?_
             replace H := H.f3
             replace H := H.f3
             replace H := H.f3
             replace H := H.f3
             obtain rfl := Option.some.inj hB23361
             obtain rfl := hO23362 _ rfl
             refine x_A fun a hf => ⟨ρ, lw23364, rfl, hf.sub ⟨rfl, rfl, rfl, trivial⟩, H⟩
          ·rintro a wd23685 ⟨ρ, lw23686, rfl, hf, H⟩
           try dsimp only at hB21744
           replace r11880 := rdL.up lw23686 r11880
           replace r11881 := rdL.up lw23686 r11881
           replace r11882 := rdL.up lw23686 r11882
           replace gl0 := GErr.up lw23686 gl0
           replace gl1 := GTab.up lw23686 gl1
           refine XX.at hf <| x_block <| x_then <| R_nd <| nq (Q_add rfl rfl) rfl rfl <| nq (Q_move rfl) rfl rfl <| WL_nil ?_
           replace H := H.f3
           replace H := H.f3
           replace H := H.f3
           replace H := H.f3
           obtain rfl := Option.some.inj hB21744
           refine x_A fun a hf => ⟨_, rfl, ρ, w64 (x19802 + 1), (View.le_trans lw21747 lw23686), rfl, hf.sub ⟨rfl, rfl, rfl, trivial⟩, H⟩
         ·replace hB21744 := itF hb hB21744
          refine C_exit <| x_then_exit <| x_then_exit <| x_block_exit ?_
          replace H := H.drop 0 rfl
          dsimp only [List.eraseIdx] at H
          replace H := H.drop 0 rfl
          dsimp only [List.eraseIdx] at H
          replace H := H.drop 0 rfl
          dsimp only [List.eraseIdx] at H
          replace H := H.drop 0 rfl
          dsimp only [List.eraseIdx] at H
          obtain rfl := Option.some.inj hB21744
          obtain rfl := hO21745 _ rfl
          refine x_A fun a hf => ⟨ρ, lw21747, rfl, hf.sub trivial, H⟩
       ·rintro a wd23687 ⟨ρ, lw23688, rfl, hf, H⟩
        try dsimp only at hF
        replace gl0 := GErr.up lw23688 gl0
        replace gl1 := GTab.up lw23688 gl1
        refine XX.at hf <| x_then <| C_seq <| R_nd <| nq (Q_assign rfl) rfl rfl <| WL_nil <| x_then <| C_ret ?_
        obtain rfl := Option.some.inj hF
        exact fn_ret (l := [.tmp 6]) (vs := [.bool true]) rfl rfl rfl ⟨ρ, true, rfl, rfl, lw23688, H⟩
end Go.Proofs.YteiaphkejkgfkaaDoor
