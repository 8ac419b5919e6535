/-
  The walks of the law CanonOne, printed by my program, part 3: each function of the code computes its pure function.
-/
import Derived.Test.YteiaphkejkgfkaaDoorCanonOneb
namespace Go.Proofs.YteiaphkejkgfkaaDoor
open Go Go.Eng
set_option maxRecDepth 100000
set_option maxHeartbeats 8000000 in
theorem c_12 {N : Nat} {C : Cx} {w : World} {ρ : View} {hs : List Hl} {v1 : Value} {v4 : Value} {v7 : Value} {x2 : (List (List Int))} {x5 : (List Int)} {x8 : (List Int)} {x10 : Int} (H : Hp C w ρ (hs)) {ge0 : Value} (gl0 : GErr ρ 0 ge0) (gl1 : GTab ρ 1 .u8 tab_math_bits_deBruijn64tab) (r3 : RdSl ρ (eA 256 (eI .i64)) v1 x2) (r6 : RdSl ρ (eI .i64) v4 x5) (r9 : RdSl ρ (eI .i64) v7 x8) {r : Bool} (hF : F_dofferlaw20_CanonOne N x2 x5 x8 x10 = some r) :
  Calls Tryd.prog 12 [.agg #[v1, v4, v7], .int .i64 x10].toArray w (Rets (fun v w' => (∃ (x5808 : Bool), x5808 = r ∧ .bool x5808 = v ∧ Hp C w' ρ (hs)))) := by
 unfold F_dofferlaw20_CanonOne at hF
 have h0 : Tryd.f12.body = some _ := rfl
 refine fn_calls' Tryd.func12 h0 (n := 137) rfl (by simp) <| C_seq <| R_nd <| ne (E_box H (vs := [v1, v4, v7]) rfl rfl) rfl rfl ?_
 rintro _ wd5810 ⟨b5809, rfl, H⟩
 refine nq (Q_assign rfl) rfl rfl <| WL_nil <| x_then <| C_seq <| C_seq <| R_nd ?_
 obtain ⟨q5811, hq5811, hF⟩ := bnd hF
 refine ne (E_call fn14 rfl (c_14 H gl0  hq5811)) rfl rfl ?_
 rintro _ wd5814 ⟨x5813, rfl, rfl, H⟩
 try dsimp only at hF
 refine nq (Q_not rfl) rfl rfl <| WL_nil <| x_then ?_
 refine C_cond rfl (fun hb => ?_) (fun hb => ?_)
 ·replace hF := itT hb hF
  refine C_seq <| R_nd <| nq (Q_assign rfl) rfl rfl <| WL_nil <| x_then <| C_ret <| x_then_ret ?_
  replace H := H.drop 0 rfl
  dsimp only [List.eraseIdx] at H
  obtain rfl := Option.some.inj hF
  exact fn_ret (l := [.tmp 4]) (vs := [.bool false]) rfl rfl rfl ⟨false, rfl, rfl, H⟩
 ·replace hF := itF hb hF
  refine C_skip <| x_then <| C_seq ?_
  obtain ⟨o5820, ho5820, hF⟩ := bnd hF
  refine C_cut (fun a w' => ∃ (x5819 : Bool), x5819 = o5820 ∧ Fr 137 a [(1, .int .i64 x10), (2, .pointer (some ⟨b5809, 0, none⟩)), (28, .bool x5819)] ∧ Hp C w' ρ (Box b5809 [v1, v4, v7] :: hs)) ?_ ?_
  ·refine R_nd <| nq (v := .pointer (some ⟨b5809, 0, none⟩)) (Q_fld Tryd.underlying25 rfl ty22 (by decide) rfl rfl) rfl rfl <| nq (v := v1) (Q_ldB (k := 0) (cs := [v1]) H.ok rfl ty22 rfl rfl rfl (fun _ => rfl) rfl) rfl rfl <| nq (Q_len Tryd.underlying22 rfl r3) rfl rfl <| nq (Q_gtr rfl rfl) rfl rfl <| nq (Q_move rfl) rfl rfl ?_
   rcases Bool.eq_false_or_eq_true (decide ((x2.length : Int) > 14)) with hb | hb
   ·rw [hb]
    replace ho5820 := itT hb ho5820
    refine gs rfl rfl rfl rfl <| gs rfl rfl rfl rfl <| gs rfl rfl rfl rfl <| nq (Q_pickT rfl rfl) rfl rfl <| WL_nil ?_
    obtain rfl := Option.some.inj ho5820
    refine x_A fun a hf => ⟨true, rfl, hf.sub ⟨rfl, rfl, rfl, trivial⟩, H⟩
   ·rw [hb]
    replace ho5820 := itF hb ho5820
    refine gq (v := .agg #[v1, v4, v7]) (Q_ldB (k := 0) (cs := [v1, v4, v7]) H.ok rfl ty25 rfl rfl rfl (fun h => nomatch h) rfl) rfl rfl rfl ?_
    obtain ⟨q5821, hq5821, ho5820⟩ := bnd ho5820
    refine ge (E_call fn26 rfl (c_26 H  r3 r6 r9 hq5821)) rfl rfl rfl ?_
    rintro _ wd5824 ⟨x5823, rfl, rfl, H⟩
    try dsimp only at ho5820
    refine gq (Q_not rfl) rfl rfl rfl <| nq (Q_pickF rfl rfl) rfl rfl <| WL_nil ?_
    obtain rfl := Option.some.inj ho5820
    refine x_A fun a hf => ⟨!x5823, rfl, hf.sub ⟨rfl, rfl, rfl, trivial⟩, H⟩
  ·rintro a wd5825 ⟨x5819, rfl, hf, H⟩
   try dsimp only at hF
   refine CW.at hf ?_
   refine C_cond rfl (fun hb => ?_) (fun hb => ?_)
   ·replace hF := itT hb hF
    refine C_seq <| R_nd <| nq (Q_assign rfl) rfl rfl <| WL_nil <| x_then <| C_ret <| x_then_ret ?_
    replace H := H.drop 0 rfl
    dsimp only [List.eraseIdx] at H
    obtain rfl := Option.some.inj hF
    exact fn_ret (l := [.tmp 4]) (vs := [.bool true]) rfl rfl rfl ⟨true, rfl, rfl, H⟩
   ·replace hF := itF hb hF
    refine C_skip <| x_then <| C_seq <| R_nd <| nq (v := .pointer (some ⟨b5809, 0, none⟩)) (Q_fld Tryd.underlying25 rfl ty22 (by decide) rfl rfl) rfl rfl <| nq (v := v1) (Q_ldB (k := 0) (cs := [v1]) H.ok rfl ty22 rfl rfl rfl (fun _ => rfl) rfl) rfl rfl <| nq (Q_len Tryd.underlying22 rfl r3) rfl rfl <| nq (Q_assign rfl) rfl rfl <| WL_nil <| x_then <| C_seq <| R_nd <| nq (Q_move rfl) rfl rfl ?_
    obtain ⟨x5826, hx5826, hF⟩ := bnd hF
    obtain ⟨hm5828a, hm5828b, hm5828c⟩ := mk_some hx5826
    refine ne (E_make H Tryd.underlying23 ty3 (zs := [.int .i64 0]) rfl rfl (by decide) (by decide) rfl hm5828a hm5828b) rfl rfl ?_
    rintro _ wd5829 ⟨b5827, rfl, H⟩
    refine nq (Q_assign rfl) rfl rfl <| WL_nil <| x_then <| C_seq <| R_nd <| nq (Q_move rfl) rfl rfl <| nq (Q_cvI ⟨_, Tryd.underlying3⟩ Tryd.underlying59 rfl) rfl rfl <| nq (Q_move rfl) rfl rfl <| nq (Q_cvI ⟨_, Tryd.underlying3⟩ Tryd.underlying59 rfl) rfl rfl ?_
    obtain ⟨x5830, hx5830, hF⟩ := bnd hF
    refine nq (Q_rem rfl rfl (nz_some hx5830)) rfl rfl <| nq (Q_cvI ⟨_, Tryd.underlying59⟩ Tryd.underlying3 rfl) rfl rfl <| nq (Q_assign rfl) rfl rfl <| WL_nil <| x_then <| C_seq <| C_seq <| R_nd <| nq (Q_assign rfl) rfl rfl <| WL_nil <| x_then ?_
    obtain ⟨o5886, ho5886, hF⟩ := bnd hF
    refine C_cutQ (fun a w' => ∃ (c5883 : (List Value)) (x5884 : (List Int)), x5884 = o5886 ∧ rdL (eI .i64) ρ x5884 c5883 ∧ Fr 137 a [(2, .pointer (some ⟨b5809, 0, none⟩)), (5, .int .i64 (x2.length : Int)), (6, (.slice (some ⟨b5827, 0, none⟩) (x2.length : Int).toNat (x2.length : Int).toNat))] ∧ Hp C w' ρ (Box b5809 [v1, v4, v7] :: Arr (.slice (some ⟨b5827, 0, none⟩) (x2.length : Int).toNat (x2.length : Int).toNat) 1 c5883 :: hs)) ?_ ?_
    ·refine C_block ?_
     replace H := H.f1
     refine C_iter (f := fun s => F_dofferlaw20_CanonOne_l0 N x2 x10 s.1 s.2) ho5886 (fun s a w' => ∃ (c5903 : (List Value)) (x5904 : (List Int)) (x5906 : Int), (x5904, x5906) = s ∧ rdL (eI .i64) ρ x5904 c5903 ∧ Fr 137 a [(2, .pointer (some ⟨b5809, 0, none⟩)), (5, .int .i64 (x2.length : Int)), (6, (.slice (some ⟨b5827, 0, none⟩) (x2.length : Int).toNat (x2.length : Int).toNat)), (7, .int .i64 (IntKind.wrap .i64 ((IntKind.wrap .u64 x10).tmod (IntKind.wrap .u64 (x2.length : Int))))), (8, .int .i64 x5906)] ∧ Hp C w' ρ (Box b5809 [v1, v4, v7] :: Arr (.slice (some ⟨b5827, 0, none⟩) (x2.length : Int).toNat (x2.length : Int).toNat) 1 c5903 :: hs)) ?_ ?_
     ·exact fun a hf => ⟨(repC (x2.length : Int).toNat [.int .i64 0]), x5826, 1, rfl, (hm5828c ▸ rdL_rep (e := (eI .i64)) (ρ := ρ) (rfl) _), hf.sub ⟨rfl, rfl, rfl, rfl, rfl, trivial⟩, H⟩
     ·rintro s o5923 a wd5926 ⟨c5903, x5904, x5906, rfl, r5905, hf, H⟩ hB5924 hO5925
      replace hB5924 : F_dofferlaw20_CanonOne_l0 N x2 x10 x5904 x5906 = some o5923 := hB5924
      unfold F_dofferlaw20_CanonOne_l0 at hB5924
      refine CW.at hf <| C_seq <| C_seq <| R_nd <| nq (Q_move rfl) rfl rfl <| nq (Q_move rfl) rfl rfl <| nq (Q_lss rfl rfl) rfl rfl <| WL_nil <| x_then ?_
      refine C_cond rfl (fun hb => ?_) (fun hb => ?_)
      ·replace hB5924 := itT hb hB5924
       refine C_skip <| x_then <| C_seq <| C_block <| R_nd <| nq (Q_move rfl) rfl rfl <| nq (Q_move rfl) rfl rfl <| nq (Q_move rfl) rfl rfl <| nq (Q_sub rfl rfl) rfl rfl <| nq (Q_move rfl) rfl rfl <| nq (Q_add rfl rfl) rfl rfl <| nq (Q_move rfl) rfl rfl <| nq (Q_sub rfl rfl) rfl rfl ?_
       obtain ⟨x5927, hx5927, hB5924⟩ := bnd hB5924
       refine nq (Q_rem rfl rfl (nz_some hx5927)) rfl rfl <| nq (Q_add rfl rfl) rfl rfl ?_
       obtain ⟨x5928, hx5928, hB5924⟩ := bnd hB5924
       obtain ⟨b5929, o5930, hi5934, hc5932, ha5933⟩ := arr_at (hs := [Arr (.slice (some ⟨b5827, 0, none⟩) (x2.length : Int).toNat (x2.length : Int).toNat) 1 c5903]) (k := 0) (by decide) (H.okS (by simp)) rfl r5905 hx5928
       refine nq (Q_idx hi5934 Tryd.underlying23 ty3 rfl rfl) rfl rfl ?_
       obtain ⟨x5935, hx5935, hB5924⟩ := bnd hB5924
       obtain ⟨hs5936a, hs5936b, hs5936c⟩ := setI_some hx5935
       have r5937 : rdL (eI .i64) ρ x5935 (setC c5903 (x5906.toNat * 1 + 0) [.int .i64 (w64 (1 + ((w64 ((w64 (x5906 - 1)) + (IntKind.wrap .i64 ((IntKind.wrap .u64 x10).tmod (IntKind.wrap .u64 (x2.length : Int)))))).tmod (w64 ((x2.length : Int) - 1)))))]) := hs5936c ▸ rdL.set r5905 hs5936b (rfl)
       refine ne (E_stA (k := 1) (j := 0) (c := [.int .i64 (w64 (1 + ((w64 ((w64 (x5906 - 1)) + (IntKind.wrap .i64 ((IntKind.wrap .u64 x10).tmod (IntKind.wrap .u64 (x2.length : Int)))))).tmod (w64 ((x2.length : Int) - 1)))))]) H rfl ty3 hi5934 rfl rfl rfl rfl (one_cons rfl one_nil) (by decide)) rfl rfl ?_
       rintro _ wd5938 H
       dsimp only [List.set] at H
       refine WL_nil <| x_block <| x_then <| R_nd <| nq (Q_move rfl) rfl rfl <| nq (Q_add rfl rfl) rfl rfl <| nq (Q_assign rfl) rfl rfl <| WL_nil ?_
       replace H := H.f1
       replace H := H.f1
       obtain rfl := Option.some.inj hB5924
       refine x_A fun a hf => ⟨_, rfl, (setC c5903 (x5906.toNat * 1 + 0) [.int .i64 (w64 (1 + ((w64 ((w64 (x5906 - 1)) + (IntKind.wrap .i64 ((IntKind.wrap .u64 x10).tmod (IntKind.wrap .u64 (x2.length : Int)))))).tmod (w64 ((x2.length : Int) - 1)))))]), x5935, w64 (x5906 + 1), rfl, r5937, hf.sub ⟨rfl, rfl, rfl, rfl, rfl, trivial⟩, H⟩
      ·replace hB5924 := itF hb hB5924
       refine C_exit <| x_then_exit <| x_then_exit <| x_block_exit ?_
       replace H := H.f1
       replace H := H.f1
       obtain rfl := Option.some.inj hB5924
       obtain rfl := hO5925 _ rfl
       refine x_A fun a hf => ⟨c5903, x5904, rfl, r5905, hf.sub ⟨rfl, rfl, rfl, trivial⟩, H⟩
    ·rintro a wd5939 ⟨c5883, x5884, rfl, r5885, hf, H⟩
     try dsimp only at hF
     refine XX.at hf <| x_then ?_
     obtain ⟨o6005, ho6005, hF⟩ := bnd hF
     refine C_cut (fun a w' => ∃ (b5996 : Nat) (v5997 : Value) (c5998 : (List Value)) (v6001 : Value) (c6002 : (List Value)) (x5999 : (List (List Int))) (x6003 : (List Int)), (x5999, x6003) = o6005 ∧ rdL (eA 256 (eI .i64)) ρ x5999 c5998 ∧ rdL (eI .i64) ρ x6003 c6002 ∧ Fr 137 a [(2, .pointer (some ⟨b5809, 0, none⟩)), (6, (.slice (some ⟨b5827, 0, none⟩) (x2.length : Int).toNat (x2.length : Int).toNat)), (9, .pointer (some ⟨b5996, 0, none⟩))] ∧ Hp C w' ρ (Box b5809 [v1, v4, v7] :: Arr (.slice (some ⟨b5827, 0, none⟩) (x2.length : Int).toNat (x2.length : Int).toNat) 1 c5883 :: Box b5996 [v5997, v6001, .slice none 0 0] :: Arr v5997 256 c5998 :: Arr v6001 1 c6002 :: hs)) ?_ ?_
     ·refine R_dr (.take 0 (.take 2 (.three 1 3 5 (.two 3 5 (.take 4 (.one 5 (.one 6 .done))) (.one 3 (.take 4 (.one 6 .done)))) (.two 1 5 (.take 4 (.one 5 (.one 6 .done))) (.one 1 (.take 4 (.one 6 .done)))) (.two 1 3 (.one 3 (.take 4 (.one 6 .done))) (.one 1 (.take 4 (.one 6 .done))))))) (fun w' => Ok w' ρ [Box b5809 [v1, v4, v7], Arr (.slice (some ⟨b5827, 0, none⟩) (x2.length : Int).toNat (x2.length : Int).toNat) 1 c5883]) (by kernel_rfl) (by kernel_rfl) (by kernel_rfl) (H.drew.okS (by simp)) ?_
      replace H := H.drew
      refine dq rfl (fun _ _ => Q_move rfl) rfl rfl <| dq rfl (fun _ _ => Q_move rfl) rfl rfl ?_
      refine d3 ?_ ?_ ?_
      ·obtain ⟨x6006, hx6006, ho6005⟩ := bnd ho6005
       obtain ⟨hm6008a, hm6008b, hm6008c⟩ := mk_some hx6006
       refine de rfl (E_make H Tryd.underlying22 ty58 (zs := (repC 256 [.int .i64 0])) rfl (by simp [repC_length]) (by decide) (by decide) rfl hm6008a hm6008b) rfl rfl ?_
       rintro _ wd6009 ⟨b6007, rfl, H⟩
       refine ⟨H.okS (by simp), ?_⟩
       refine d2 ?_ ?_
       ·obtain ⟨x6010, hx6010, ho6005⟩ := bnd ho6005
        obtain ⟨hm6012a, hm6012b, hm6012c⟩ := mk_some hx6010
        refine de rfl (E_make H Tryd.underlying23 ty3 (zs := [.int .i64 0]) rfl rfl (by decide) (by decide) rfl hm6012a hm6012b) rfl rfl ?_
        rintro _ wd6013 ⟨b6011, rfl, H⟩
        refine ⟨H.okS (by simp), ?_⟩
        refine dq (v := .agg #[(.slice (some ⟨b6007, 0, none⟩) (x2.length : Int).toNat (x2.length : Int).toNat), (.slice (some ⟨b6011, 0, none⟩) (x2.length : Int).toNat (x2.length : Int).toNat), .slice none 0 0]) rfl (fun _ _ => Q_buildS st25.choose_spec (ps := [(0, [(.slice (some ⟨b6007, 0, none⟩) (x2.length : Int).toNat (x2.length : Int).toNat)]), (1, [(.slice (some ⟨b6011, 0, none⟩) (x2.length : Int).toNat (x2.length : Int).toNat)])]) rfl ⟨rfl, (arr_cells (H.ok.get (k := 1) rfl)).1, by simp, ⟨rfl, (arr_cells (H.ok.get (k := 0) rfl)).1, by simp, trivial⟩⟩ rfl) rfl rfl ?_
        refine d1 (de rfl (E_alloc H ty25 (zs := [.slice none 0 0, .slice none 0 0, .slice none 0 0]) rfl) rfl rfl ?_)
        rintro _ wd6015 ⟨b6014, rfl, H⟩
        refine ⟨H.okS (by simp), ?_⟩
        refine d1 (de rfl (E_stB (k := 0) (cs := [(.slice (some ⟨b6007, 0, none⟩) (x2.length : Int).toNat (x2.length : Int).toNat), (.slice (some ⟨b6011, 0, none⟩) (x2.length : Int).toNat (x2.length : Int).toNat), .slice none 0 0]) (vs' := [(.slice (some ⟨b6007, 0, none⟩) (x2.length : Int).toNat (x2.length : Int).toNat), (.slice (some ⟨b6011, 0, none⟩) (x2.length : Int).toNat (x2.length : Int).toNat), .slice none 0 0]) H rfl ty25 rfl rfl rfl rfl (one_cons (arr_cells (H.ok.get (k := 2) rfl)).2 (one_cons (arr_cells (H.ok.get (k := 1) rfl)).2 (one_cons rfl one_nil))) (by simp) rfl) rfl rfl ?_)
        rintro _ wd6016 H
        dsimp only [List.set] at H
        refine ⟨H.okS (by simp), ?_⟩
        refine DL_nil ?_
        replace H := H.f1
        replace H := H.f2
        replace H := H.f2
        replace H := H.f4
        replace H := H.f4
        obtain rfl := Option.some.inj ho6005
        refine x_A fun a hf => ⟨b6014, (.slice (some ⟨b6007, 0, none⟩) (x2.length : Int).toNat (x2.length : Int).toNat), (repC (x2.length : Int).toNat (repC 256 [.int .i64 0])), (.slice (some ⟨b6011, 0, none⟩) (x2.length : Int).toNat (x2.length : Int).toNat), (repC (x2.length : Int).toNat [.int .i64 0]), x6006, x6010, rfl, (hm6008c ▸ rdL_rep (e := (eA 256 (eI .i64))) (ρ := ρ) (⟨by simp, rdL_rep (e:=(eI .i64)) (ρ:=ρ) (rfl) 256⟩) _), (hm6012c ▸ rdL_rep (e := (eI .i64)) (ρ := ρ) (rfl) _), hf.sub ⟨rfl, rfl, rfl, trivial⟩, H⟩
       ·refine de rfl (E_alloc H ty25 (zs := [.slice none 0 0, .slice none 0 0, .slice none 0 0]) rfl) rfl rfl ?_
        rintro _ wd6018 ⟨b6017, rfl, H⟩
        refine ⟨H.okS (by simp), ?_⟩
        obtain ⟨x6019, hx6019, ho6005⟩ := bnd ho6005
        obtain ⟨hm6021a, hm6021b, hm6021c⟩ := mk_some hx6019
        refine d1 (de rfl (E_make H Tryd.underlying23 ty3 (zs := [.int .i64 0]) rfl rfl (by decide) (by decide) rfl hm6021a hm6021b) rfl rfl ?_)
        rintro _ wd6022 ⟨b6020, rfl, H⟩
        refine ⟨H.okS (by simp), ?_⟩
        refine dq (v := .agg #[(.slice (some ⟨b6007, 0, none⟩) (x2.length : Int).toNat (x2.length : Int).toNat), (.slice (some ⟨b6020, 0, none⟩) (x2.length : Int).toNat (x2.length : Int).toNat), .slice none 0 0]) rfl (fun _ _ => Q_buildS st25.choose_spec (ps := [(0, [(.slice (some ⟨b6007, 0, none⟩) (x2.length : Int).toNat (x2.length : Int).toNat)]), (1, [(.slice (some ⟨b6020, 0, none⟩) (x2.length : Int).toNat (x2.length : Int).toNat)])]) rfl ⟨rfl, (arr_cells (H.ok.get (k := 2) rfl)).1, by simp, ⟨rfl, (arr_cells (H.ok.get (k := 0) rfl)).1, by simp, trivial⟩⟩ rfl) rfl rfl ?_
        refine d1 (de rfl (E_stB (k := 1) (cs := [(.slice (some ⟨b6007, 0, none⟩) (x2.length : Int).toNat (x2.length : Int).toNat), (.slice (some ⟨b6020, 0, none⟩) (x2.length : Int).toNat (x2.length : Int).toNat), .slice none 0 0]) (vs' := [(.slice (some ⟨b6007, 0, none⟩) (x2.length : Int).toNat (x2.length : Int).toNat), (.slice (some ⟨b6020, 0, none⟩) (x2.length : Int).toNat (x2.length : Int).toNat), .slice none 0 0]) H rfl ty25 rfl rfl rfl rfl (one_cons (arr_cells (H.ok.get (k := 2) rfl)).2 (one_cons (arr_cells (H.ok.get (k := 0) rfl)).2 (one_cons rfl one_nil))) (by simp) rfl) rfl rfl ?_)
        rintro _ wd6023 H
        dsimp only [List.set] at H
        refine ⟨H.okS (by simp), ?_⟩
        refine DL_nil ?_
        replace H := H.f2
        replace H := H.f2
        replace H := H.f4
        replace H := H.f4
        obtain rfl := Option.some.inj ho6005
        refine x_A fun a hf => ⟨b6017, (.slice (some ⟨b6007, 0, none⟩) (x2.length : Int).toNat (x2.length : Int).toNat), (repC (x2.length : Int).toNat (repC 256 [.int .i64 0])), (.slice (some ⟨b6020, 0, none⟩) (x2.length : Int).toNat (x2.length : Int).toNat), (repC (x2.length : Int).toNat [.int .i64 0]), x6006, x6019, rfl, (hm6008c ▸ rdL_rep (e := (eA 256 (eI .i64))) (ρ := ρ) (⟨by simp, rdL_rep (e:=(eI .i64)) (ρ:=ρ) (rfl) 256⟩) _), (hm6021c ▸ rdL_rep (e := (eI .i64)) (ρ := ρ) (rfl) _), hf.sub ⟨rfl, rfl, rfl, trivial⟩, H⟩
      ·obtain ⟨x6024, hx6024, ho6005⟩ := bnd ho6005
       obtain ⟨x6025, hx6025, ho6005⟩ := bnd ho6005
       obtain ⟨hm6027a, hm6027b, hm6027c⟩ := mk_some hx6025
       refine de rfl (E_make H Tryd.underlying23 ty3 (zs := [.int .i64 0]) rfl rfl (by decide) (by decide) rfl hm6027a hm6027b) rfl rfl ?_
       rintro _ wd6028 ⟨b6026, rfl, H⟩
       refine ⟨H.okS (by simp), ?_⟩
       refine d2 ?_ ?_
       ·obtain ⟨hm6030a, hm6030b, hm6030c⟩ := mk_some hx6024
        refine de rfl (E_make H Tryd.underlying22 ty58 (zs := (repC 256 [.int .i64 0])) rfl (by simp [repC_length]) (by decide) (by decide) rfl hm6030a hm6030b) rfl rfl ?_
        rintro _ wd6031 ⟨b6029, rfl, H⟩
        refine ⟨H.okS (by simp), ?_⟩
        refine dq (v := .agg #[(.slice (some ⟨b6029, 0, none⟩) (x2.length : Int).toNat (x2.length : Int).toNat), (.slice (some ⟨b6026, 0, none⟩) (x2.length : Int).toNat (x2.length : Int).toNat), .slice none 0 0]) rfl (fun _ _ => Q_buildS st25.choose_spec (ps := [(0, [(.slice (some ⟨b6029, 0, none⟩) (x2.length : Int).toNat (x2.length : Int).toNat)]), (1, [(.slice (some ⟨b6026, 0, none⟩) (x2.length : Int).toNat (x2.length : Int).toNat)])]) rfl ⟨rfl, (arr_cells (H.ok.get (k := 0) rfl)).1, by simp, ⟨rfl, (arr_cells (H.ok.get (k := 1) rfl)).1, by simp, trivial⟩⟩ rfl) rfl rfl ?_
        refine d1 (de rfl (E_alloc H ty25 (zs := [.slice none 0 0, .slice none 0 0, .slice none 0 0]) rfl) rfl rfl ?_)
        rintro _ wd6033 ⟨b6032, rfl, H⟩
        refine ⟨H.okS (by simp), ?_⟩
        refine d1 (de rfl (E_stB (k := 0) (cs := [(.slice (some ⟨b6029, 0, none⟩) (x2.length : Int).toNat (x2.length : Int).toNat), (.slice (some ⟨b6026, 0, none⟩) (x2.length : Int).toNat (x2.length : Int).toNat), .slice none 0 0]) (vs' := [(.slice (some ⟨b6029, 0, none⟩) (x2.length : Int).toNat (x2.length : Int).toNat), (.slice (some ⟨b6026, 0, none⟩) (x2.length : Int).toNat (x2.length : Int).toNat), .slice none 0 0]) H rfl ty25 rfl rfl rfl rfl (one_cons (arr_cells (H.ok.get (k := 1) rfl)).2 (one_cons (arr_cells (H.ok.get (k := 2) rfl)).2 (one_cons rfl one_nil))) (by simp) rfl) rfl rfl ?_)
        rintro _ wd6034 H
        dsimp only [List.set] at H
        refine ⟨H.okS (by simp), ?_⟩
        refine DL_nil ?_
        replace H := H.f2
        replace H := H.f2
        replace H := H.f2
        replace H := H.f4
        replace H := H.f4
        obtain rfl := Option.some.inj ho6005
        refine x_A fun a hf => ⟨b6032, (.slice (some ⟨b6029, 0, none⟩) (x2.length : Int).toNat (x2.length : Int).toNat), (repC (x2.length : Int).toNat (repC 256 [.int .i64 0])), (.slice (some ⟨b6026, 0, none⟩) (x2.length : Int).toNat (x2.length : Int).toNat), (repC (x2.length : Int).toNat [.int .i64 0]), x6024, x6025, rfl, (hm6030c ▸ rdL_rep (e := (eA 256 (eI .i64))) (ρ := ρ) (⟨by simp, rdL_rep (e:=(eI .i64)) (ρ:=ρ) (rfl) 256⟩) _), (hm6027c ▸ rdL_rep (e := (eI .i64)) (ρ := ρ) (rfl) _), hf.sub ⟨rfl, rfl, rfl, trivial⟩, H⟩
       ·refine de rfl (E_alloc H ty25 (zs := [.slice none 0 0, .slice none 0 0, .slice none 0 0]) rfl) rfl rfl ?_
        rintro _ wd6036 ⟨b6035, rfl, H⟩
        refine ⟨H.okS (by simp), ?_⟩
        obtain ⟨hm6038a, hm6038b, hm6038c⟩ := mk_some hx6024
        refine d1 (de rfl (E_make H Tryd.underlying22 ty58 (zs := (repC 256 [.int .i64 0])) rfl (by simp [repC_length]) (by decide) (by decide) rfl hm6038a hm6038b) rfl rfl ?_)
        rintro _ wd6039 ⟨b6037, rfl, H⟩
        refine ⟨H.okS (by simp), ?_⟩
        refine dq (v := .agg #[(.slice (some ⟨b6037, 0, none⟩) (x2.length : Int).toNat (x2.length : Int).toNat), (.slice (some ⟨b6026, 0, none⟩) (x2.length : Int).toNat (x2.length : Int).toNat), .slice none 0 0]) rfl (fun _ _ => Q_buildS st25.choose_spec (ps := [(0, [(.slice (some ⟨b6037, 0, none⟩) (x2.length : Int).toNat (x2.length : Int).toNat)]), (1, [(.slice (some ⟨b6026, 0, none⟩) (x2.length : Int).toNat (x2.length : Int).toNat)])]) rfl ⟨rfl, (arr_cells (H.ok.get (k := 0) rfl)).1, by simp, ⟨rfl, (arr_cells (H.ok.get (k := 2) rfl)).1, by simp, trivial⟩⟩ rfl) rfl rfl ?_
        refine d1 (de rfl (E_stB (k := 1) (cs := [(.slice (some ⟨b6037, 0, none⟩) (x2.length : Int).toNat (x2.length : Int).toNat), (.slice (some ⟨b6026, 0, none⟩) (x2.length : Int).toNat (x2.length : Int).toNat), .slice none 0 0]) (vs' := [(.slice (some ⟨b6037, 0, none⟩) (x2.length : Int).toNat (x2.length : Int).toNat), (.slice (some ⟨b6026, 0, none⟩) (x2.length : Int).toNat (x2.length : Int).toNat), .slice none 0 0]) H rfl ty25 rfl rfl rfl rfl (one_cons (arr_cells (H.ok.get (k := 0) rfl)).2 (one_cons (arr_cells (H.ok.get (k := 2) rfl)).2 (one_cons rfl one_nil))) (by simp) rfl) rfl rfl ?_)
        rintro _ wd6040 H
        dsimp only [List.set] at H
        refine ⟨H.okS (by simp), ?_⟩
        refine DL_nil ?_
        replace H := H.f2
        replace H := H.f1
        replace H := H.f2
        replace H := H.f4
        replace H := H.f4
        obtain rfl := Option.some.inj ho6005
        refine x_A fun a hf => ⟨b6035, (.slice (some ⟨b6037, 0, none⟩) (x2.length : Int).toNat (x2.length : Int).toNat), (repC (x2.length : Int).toNat (repC 256 [.int .i64 0])), (.slice (some ⟨b6026, 0, none⟩) (x2.length : Int).toNat (x2.length : Int).toNat), (repC (x2.length : Int).toNat [.int .i64 0]), x6024, x6025, rfl, (hm6038c ▸ rdL_rep (e := (eA 256 (eI .i64))) (ρ := ρ) (⟨by simp, rdL_rep (e:=(eI .i64)) (ρ:=ρ) (rfl) 256⟩) _), (hm6027c ▸ rdL_rep (e := (eI .i64)) (ρ := ρ) (rfl) _), hf.sub ⟨rfl, rfl, rfl, trivial⟩, H⟩
      ·refine de rfl (E_alloc H ty25 (zs := [.slice none 0 0, .slice none 0 0, .slice none 0 0]) rfl) rfl rfl ?_
       rintro _ wd6042 ⟨b6041, rfl, H⟩
       refine ⟨H.okS (by simp), ?_⟩
       refine d2 ?_ ?_
       ·obtain ⟨x6043, hx6043, ho6005⟩ := bnd ho6005
        obtain ⟨hm6045a, hm6045b, hm6045c⟩ := mk_some hx6043
        refine de rfl (E_make H Tryd.underlying22 ty58 (zs := (repC 256 [.int .i64 0])) rfl (by simp [repC_length]) (by decide) (by decide) rfl hm6045a hm6045b) rfl rfl ?_
        rintro _ wd6046 ⟨b6044, rfl, H⟩
        refine ⟨H.okS (by simp), ?_⟩
        obtain ⟨x6047, hx6047, ho6005⟩ := bnd ho6005
        obtain ⟨hm6049a, hm6049b, hm6049c⟩ := mk_some hx6047
        refine d1 (de rfl (E_make H Tryd.underlying23 ty3 (zs := [.int .i64 0]) rfl rfl (by decide) (by decide) rfl hm6049a hm6049b) rfl rfl ?_)
        rintro _ wd6050 ⟨b6048, rfl, H⟩
        refine ⟨H.okS (by simp), ?_⟩
        refine dq (v := .agg #[(.slice (some ⟨b6044, 0, none⟩) (x2.length : Int).toNat (x2.length : Int).toNat), (.slice (some ⟨b6048, 0, none⟩) (x2.length : Int).toNat (x2.length : Int).toNat), .slice none 0 0]) rfl (fun _ _ => Q_buildS st25.choose_spec (ps := [(0, [(.slice (some ⟨b6044, 0, none⟩) (x2.length : Int).toNat (x2.length : Int).toNat)]), (1, [(.slice (some ⟨b6048, 0, none⟩) (x2.length : Int).toNat (x2.length : Int).toNat)])]) rfl ⟨rfl, (arr_cells (H.ok.get (k := 1) rfl)).1, by simp, ⟨rfl, (arr_cells (H.ok.get (k := 0) rfl)).1, by simp, trivial⟩⟩ rfl) rfl rfl ?_
        refine d1 (de rfl (E_stB (k := 2) (cs := [(.slice (some ⟨b6044, 0, none⟩) (x2.length : Int).toNat (x2.length : Int).toNat), (.slice (some ⟨b6048, 0, none⟩) (x2.length : Int).toNat (x2.length : Int).toNat), .slice none 0 0]) (vs' := [(.slice (some ⟨b6044, 0, none⟩) (x2.length : Int).toNat (x2.length : Int).toNat), (.slice (some ⟨b6048, 0, none⟩) (x2.length : Int).toNat (x2.length : Int).toNat), .slice none 0 0]) H rfl ty25 rfl rfl rfl rfl (one_cons (arr_cells (H.ok.get (k := 1) rfl)).2 (one_cons (arr_cells (H.ok.get (k := 0) rfl)).2 (one_cons rfl one_nil))) (by simp) rfl) rfl rfl ?_)
        rintro _ wd6051 H
        dsimp only [List.set] at H
        refine ⟨H.okS (by simp), ?_⟩
        refine DL_nil ?_
        replace H := H.f1
        replace H := H.f2
        replace H := H.f4
        replace H := H.f4
        obtain rfl := Option.some.inj ho6005
        refine x_A fun a hf => ⟨b6041, (.slice (some ⟨b6044, 0, none⟩) (x2.length : Int).toNat (x2.length : Int).toNat), (repC (x2.length : Int).toNat (repC 256 [.int .i64 0])), (.slice (some ⟨b6048, 0, none⟩) (x2.length : Int).toNat (x2.length : Int).toNat), (repC (x2.length : Int).toNat [.int .i64 0]), x6043, x6047, rfl, (hm6045c ▸ rdL_rep (e := (eA 256 (eI .i64))) (ρ := ρ) (⟨by simp, rdL_rep (e:=(eI .i64)) (ρ:=ρ) (rfl) 256⟩) _), (hm6049c ▸ rdL_rep (e := (eI .i64)) (ρ := ρ) (rfl) _), hf.sub ⟨rfl, rfl, rfl, trivial⟩, H⟩
       ·obtain ⟨x6052, hx6052, ho6005⟩ := bnd ho6005
        obtain ⟨x6053, hx6053, ho6005⟩ := bnd ho6005
        obtain ⟨hm6055a, hm6055b, hm6055c⟩ := mk_some hx6053
        refine de rfl (E_make H Tryd.underlying23 ty3 (zs := [.int .i64 0]) rfl rfl (by decide) (by decide) rfl hm6055a hm6055b) rfl rfl ?_
        rintro _ wd6056 ⟨b6054, rfl, H⟩
        refine ⟨H.okS (by simp), ?_⟩
        obtain ⟨hm6058a, hm6058b, hm6058c⟩ := mk_some hx6052
        refine d1 (de rfl (E_make H Tryd.underlying22 ty58 (zs := (repC 256 [.int .i64 0])) rfl (by simp [repC_length]) (by decide) (by decide) rfl hm6058a hm6058b) rfl rfl ?_)
        rintro _ wd6059 ⟨b6057, rfl, H⟩
        refine ⟨H.okS (by simp), ?_⟩
        refine dq (v := .agg #[(.slice (some ⟨b6057, 0, none⟩) (x2.length : Int).toNat (x2.length : Int).toNat), (.slice (some ⟨b6054, 0, none⟩) (x2.length : Int).toNat (x2.length : Int).toNat), .slice none 0 0]) rfl (fun _ _ => Q_buildS st25.choose_spec (ps := [(0, [(.slice (some ⟨b6057, 0, none⟩) (x2.length : Int).toNat (x2.length : Int).toNat)]), (1, [(.slice (some ⟨b6054, 0, none⟩) (x2.length : Int).toNat (x2.length : Int).toNat)])]) rfl ⟨rfl, (arr_cells (H.ok.get (k := 0) rfl)).1, by simp, ⟨rfl, (arr_cells (H.ok.get (k := 1) rfl)).1, by simp, trivial⟩⟩ rfl) rfl rfl ?_
        refine d1 (de rfl (E_stB (k := 2) (cs := [(.slice (some ⟨b6057, 0, none⟩) (x2.length : Int).toNat (x2.length : Int).toNat), (.slice (some ⟨b6054, 0, none⟩) (x2.length : Int).toNat (x2.length : Int).toNat), .slice none 0 0]) (vs' := [(.slice (some ⟨b6057, 0, none⟩) (x2.length : Int).toNat (x2.length : Int).toNat), (.slice (some ⟨b6054, 0, none⟩) (x2.length : Int).toNat (x2.length : Int).toNat), .slice none 0 0]) H rfl ty25 rfl rfl rfl rfl (one_cons (arr_cells (H.ok.get (k := 0) rfl)).2 (one_cons (arr_cells (H.ok.get (k := 1) rfl)).2 (one_cons rfl one_nil))) (by simp) rfl) rfl rfl ?_)
        rintro _ wd6060 H
        dsimp only [List.set] at H
        refine ⟨H.okS (by simp), ?_⟩
        refine DL_nil ?_
        replace H := H.f1
        replace H := H.f1
        replace H := H.f2
        replace H := H.f4
        replace H := H.f4
        obtain rfl := Option.some.inj ho6005
        refine x_A fun a hf => ⟨b6041, (.slice (some ⟨b6057, 0, none⟩) (x2.length : Int).toNat (x2.length : Int).toNat), (repC (x2.length : Int).toNat (repC 256 [.int .i64 0])), (.slice (some ⟨b6054, 0, none⟩) (x2.length : Int).toNat (x2.length : Int).toNat), (repC (x2.length : Int).toNat [.int .i64 0]), x6052, x6053, rfl, (hm6058c ▸ rdL_rep (e := (eA 256 (eI .i64))) (ρ := ρ) (⟨by simp, rdL_rep (e:=(eI .i64)) (ρ:=ρ) (rfl) 256⟩) _), (hm6055c ▸ rdL_rep (e := (eI .i64)) (ρ := ρ) (rfl) _), hf.sub ⟨rfl, rfl, rfl, trivial⟩, H⟩
     ·rintro a wd6061 ⟨b5996, v5997, c5998, v6001, c6002, x5999, x6003, rfl, r6000, r6004, hf, H⟩
      try dsimp only at hF
      refine CW.at hf <| C_seq <| C_seq <| R_nd <| nq (v := .pointer (some ⟨b5809, 0, none⟩)) (Q_fld Tryd.underlying25 rfl ty22 (by decide) rfl rfl) rfl rfl <| nq (v := v1) (Q_ldB (k := 0) (cs := [v1]) H.ok rfl ty22 rfl rfl rfl (fun _ => rfl) rfl) rfl rfl <| nq (Q_len Tryd.underlying22 rfl r3) rfl rfl <| nq (Q_move rfl) rfl rfl <| WL_nil <| x_then ?_
      obtain ⟨o7479, ho7479, hF⟩ := bnd hF
      refine C_cutQ (fun a w' => ∃ (c7473 : (List Value)) (c7476 : (List Value)) (x7474 : (List (List Int))) (x7477 : (List Int)), (x7474, x7477) = o7479 ∧ rdL (eA 256 (eI .i64)) ρ x7474 c7473 ∧ rdL (eI .i64) ρ x7477 c7476 ∧ Fr 137 a [(2, .pointer (some ⟨b5809, 0, none⟩)), (6, (.slice (some ⟨b5827, 0, none⟩) (x2.length : Int).toNat (x2.length : Int).toNat)), (9, .pointer (some ⟨b5996, 0, none⟩))] ∧ Hp C w' ρ (Box b5809 [v1, v4, v7] :: Arr (.slice (some ⟨b5827, 0, none⟩) (x2.length : Int).toNat (x2.length : Int).toNat) 1 c5883 :: Box b5996 [v5997, v6001, .slice none 0 0] :: Arr v5997 256 c7473 :: Arr v6001 1 c7476 :: hs)) ?_ ?_
      ·refine C_block ?_
       replace H := H.f4
       replace H := H.f4
       replace H := H.f4
       replace H := H.f4
       replace H := H.f4
       refine C_iter (f := fun s => F_dofferlaw20_CanonOne_l1 N x2 x5 x5884 s.1 s.2.1 s.2.2) ho7479 (fun s a w' => ∃ (c7950 : (List Value)) (c7953 : (List Value)) (x7949 : Int) (x7951 : (List (List Int))) (x7954 : (List Int)), (x7949, x7951, x7954) = s ∧ rdL (eA 256 (eI .i64)) ρ x7951 c7950 ∧ rdL (eI .i64) ρ x7954 c7953 ∧ Fr 137 a [(2, .pointer (some ⟨b5809, 0, none⟩)), (6, (.slice (some ⟨b5827, 0, none⟩) (x2.length : Int).toNat (x2.length : Int).toNat)), (9, .pointer (some ⟨b5996, 0, none⟩)), (62, v1), (63, .int .i64 (x2.length : Int)), (64, .int .i64 x7949)] ∧ Hp C w' ρ (Box b5809 [v1, v4, v7] :: Arr (.slice (some ⟨b5827, 0, none⟩) (x2.length : Int).toNat (x2.length : Int).toNat) 1 c5883 :: Box b5996 [v5997, v6001, .slice none 0 0] :: Arr v5997 256 c7950 :: Arr v6001 1 c7953 :: hs)) ?_ ?_
       ·exact fun a hf => ⟨c5998, c6002, 0, x5999, x6003, rfl, r6000, r6004, hf.sub ⟨rfl, rfl, rfl, rfl, rfl, rfl, trivial⟩, H⟩
       ·rintro s o8425 a wd8428 ⟨c7950, c7953, x7949, x7951, x7954, rfl, r7952, r7955, hf, H⟩ hB8426 hO8427
        replace hB8426 : F_dofferlaw20_CanonOne_l1 N x2 x5 x5884 x7949 x7951 x7954 = some o8425 := hB8426
        unfold F_dofferlaw20_CanonOne_l1 at hB8426
        refine CW.at hf <| C_seq <| R_nd <| nq (Q_lss rfl rfl) rfl rfl <| WL_nil <| x_then <| C_seq ?_
        refine C_cond rfl (fun hb => ?_) (fun hb => ?_)
        ·replace hB8426 := itT hb hB8426
         refine C_skip <| x_then <| C_seq <| C_block <| C_seq <| R_nd <| nq (Q_move rfl) rfl rfl ?_
         obtain ⟨x8429, hx8429, hB8426⟩ := bnd hB8426
         obtain ⟨b8430, o8431, c8432, hc8433, ha8434, hi8435⟩ := idxR r3 hx8429
         refine nq (Q_idx hi8435 Tryd.underlying22 ty58 rfl rfl) rfl rfl <| nq (v := .agg c8432.toArray) (Q_ld (ha8434.up H.ok.view) ty58 ((eA 256 (eI .i64)).len hc8433) (fun h => nomatch h) rfl rfl) rfl rfl <| ne (E_allocA (N := 256) (n := 1) (zs := (repC 256 [.int .i64 0])) H ty58 rfl (by simp [repC_length])) rfl rfl ?_
         rintro _ wd8437 ⟨b8436, rfl, H⟩
         refine nq (Q_assign rfl) rfl rfl <| ne (E_stW (k := 0) H rfl ty58 rfl rfl (rdL.one hc8433.2) (arr_clen (rdL_rep (e:=(eI .i64)) (ρ:=ρ) (rfl) 256) List.length_replicate) (arr_clen hc8433.2 hc8433.1)) rfl rfl ?_
         rintro _ wd8438 H
         dsimp only [List.set] at H
         refine WL_nil <| x_then <| C_seq <| C_seq <| R_nd <| nq (Q_ldW (k := 0) H.ok rfl ty58 rfl (arr_clen hc8433.2 hc8433.1)) rfl rfl <| nq (Q_move rfl) rfl rfl <| WL_nil <| x_then ?_
         obtain ⟨o8638, ho8638, hB8426⟩ := bnd hB8426
         refine C_cutQ (fun a w' => ∃ (c8635 : (List Value)) (x8636 : (List (List Int))), x8636 = o8638 ∧ rdL (eA 256 (eI .i64)) ρ x8636 c8635 ∧ Fr 137 a [(2, .pointer (some ⟨b5809, 0, none⟩)), (6, (.slice (some ⟨b5827, 0, none⟩) (x2.length : Int).toNat (x2.length : Int).toNat)), (9, .pointer (some ⟨b5996, 0, none⟩)), (10, .int .i64 x7949), (62, v1), (63, .int .i64 (x2.length : Int)), (64, .int .i64 x7949)] ∧ Hp C w' ρ (Box b5809 [v1, v4, v7] :: Arr (.slice (some ⟨b5827, 0, none⟩) (x2.length : Int).toNat (x2.length : Int).toNat) 1 c5883 :: Box b5996 [v5997, v6001, .slice none 0 0] :: Arr v5997 256 c8635 :: Arr v6001 1 c7953 :: hs)) ?_ ?_
         ·refine C_block ?_
          replace H := H.f5
          replace H := H.f5
          replace H := H.f5
          replace H := H.f5
          replace H := H.f5
          replace H := H.drop 5 rfl
          dsimp only [List.eraseIdx] at H
          refine C_iter (f := fun s => F_dofferlaw20_CanonOne_l2 N x5884 x7949 x8429 s.1 s.2) ho8638 (fun s a w' => ∃ (c8704 : (List Value)) (x8703 : Int) (x8705 : (List (List Int))), (x8703, x8705) = s ∧ rdL (eA 256 (eI .i64)) ρ x8705 c8704 ∧ Fr 137 a [(2, .pointer (some ⟨b5809, 0, none⟩)), (6, (.slice (some ⟨b5827, 0, none⟩) (x2.length : Int).toNat (x2.length : Int).toNat)), (9, .pointer (some ⟨b5996, 0, none⟩)), (10, .int .i64 x7949), (62, v1), (63, .int .i64 (x2.length : Int)), (64, .int .i64 x7949), (69, .agg c8432.toArray), (70, .int .i64 x8703)] ∧ Hp C w' ρ (Box b5809 [v1, v4, v7] :: Arr (.slice (some ⟨b5827, 0, none⟩) (x2.length : Int).toNat (x2.length : Int).toNat) 1 c5883 :: Box b5996 [v5997, v6001, .slice none 0 0] :: Arr v5997 256 c8704 :: Arr v6001 1 c7953 :: hs)) ?_ ?_
          ·exact fun a hf => ⟨c7950, 0, x7951, rfl, r7952, hf.sub ⟨rfl, rfl, rfl, rfl, rfl, rfl, rfl, rfl, rfl, trivial⟩, H⟩
          ·rintro s o8771 a wd8774 ⟨c8704, x8703, x8705, rfl, r8706, hf, H⟩ hB8772 hO8773
           replace hB8772 : F_dofferlaw20_CanonOne_l2 N x5884 x7949 x8429 x8703 x8705 = some o8771 := hB8772
           unfold F_dofferlaw20_CanonOne_l2 at hB8772
           refine CW.at hf <| C_seq <| R_nd <| nq (Q_lss rfl rfl) rfl rfl <| WL_nil <| x_then <| C_seq ?_
           refine C_cond rfl (fun hb => ?_) (fun hb => ?_)
           ·replace hB8772 := itT hb hB8772
            refine C_skip <| x_then <| C_seq <| C_block <| C_seq <| R_nd <| nq (Q_move rfl) rfl rfl ?_
            obtain ⟨x8775, hx8775, hB8772⟩ := bnd hB8772
            refine nq (Q_ixI hc8433.2 hc8433.1 hx8775 Tryd.underlying58 rfl rfl ty3 rfl) rfl rfl <| nq (Q_assign rfl) rfl rfl <| nq (Q_assign rfl) rfl rfl <| WL_nil <| x_then ?_
            obtain ⟨o8806, ho8806, hB8772⟩ := bnd hB8772
            refine C_cutQ (fun a w' => ∃ (c8803 : (List Value)) (x8804 : (List (List Int))), x8804 = o8806 ∧ rdL (eA 256 (eI .i64)) ρ x8804 c8803 ∧ Fr 137 a [(2, .pointer (some ⟨b5809, 0, none⟩)), (6, (.slice (some ⟨b5827, 0, none⟩) (x2.length : Int).toNat (x2.length : Int).toNat)), (9, .pointer (some ⟨b5996, 0, none⟩)), (10, .int .i64 x7949), (62, v1), (63, .int .i64 (x2.length : Int)), (64, .int .i64 x7949), (69, .agg c8432.toArray), (70, .int .i64 x8703)] ∧ Hp C w' ρ (Box b5809 [v1, v4, v7] :: Arr (.slice (some ⟨b5827, 0, none⟩) (x2.length : Int).toNat (x2.length : Int).toNat) 1 c5883 :: Box b5996 [v5997, v6001, .slice none 0 0] :: Arr v5997 256 c8803 :: Arr v6001 1 c7953 :: hs)) ?_ ?_
            ·refine R_dr (.take 0 (.take 1 (.take 2 (.take 3 (.take 4 (.take 5 (.take 6 (.take 7 (.take 8 (.take 9 (.take 10 (.take 11 (.take 12 (.one 13 .done)))))))))))))) (fun w' => Ok w' ρ [Box b5809 [v1, v4, v7], Arr (.slice (some ⟨b5827, 0, none⟩) (x2.length : Int).toNat (x2.length : Int).toNat) 1 c5883, Box b5996 [v5997, v6001, .slice none 0 0], Arr v6001 1 c7953]) (by kernel_rfl) (by kernel_rfl) (by kernel_rfl) (H.drew.okS (by simp)) ?_
             replace H := H.drew
             refine dq (v := .pointer (some ⟨b5996, 0, none⟩)) rfl (fun _ _ => Q_fld Tryd.underlying25 rfl ty22 (by decide) rfl rfl) rfl rfl <| dq (v := v5997) rfl (fun _ hw => Q_ldB (k := 2) (cs := [v5997]) hw rfl ty22 rfl rfl rfl (fun _ => rfl) rfl) rfl rfl <| dq rfl (fun _ _ => Q_move rfl) rfl rfl <| dq rfl (fun _ _ => Q_move rfl) rfl rfl ?_
             obtain ⟨x8807, hx8807, ho8806⟩ := bnd ho8806
             obtain ⟨b8808, o8809, hi8813, hc8811, ha8812⟩ := arr_at (hs := [Arr (.slice (some ⟨b5827, 0, none⟩) (x2.length : Int).toNat (x2.length : Int).toNat) 1 c5883]) (k := 0) (by decide) (H.okS (by simp)) rfl r5885 hx8807
             refine dq rfl (fun _ _ => Q_idx hi8813 Tryd.underlying23 ty3 rfl rfl) rfl rfl <| dq (v := .int .i64 x8807) rfl (fun _ hw => Q_ld (show cellsAt _ _ _ [.int .i64 x8807] from (show _ = [_] from hc8811) ▸ (ha8812 _ (Ok.subS (by simp) hw))) ty3 rfl (fun _ => rfl) rfl rfl) rfl rfl <| dq rfl (fun _ _ => Q_move rfl) rfl rfl <| dq rfl (fun _ _ => Q_move rfl) rfl rfl <| dq rfl (fun _ _ => Q_move rfl) rfl rfl ?_
             obtain ⟨x8814, hx8814, ho8806⟩ := bnd ho8806
             obtain ⟨b8815, o8816, hi8820, hc8818, ha8819⟩ := arr_at (hs := [Arr (.slice (some ⟨b5827, 0, none⟩) (x2.length : Int).toNat (x2.length : Int).toNat) 1 c5883]) (k := 0) (by decide) (H.okS (by simp)) rfl r5885 hx8814
             refine dq rfl (fun _ _ => Q_idx hi8820 Tryd.underlying23 ty3 rfl rfl) rfl rfl <| dq (v := .int .i64 x8814) rfl (fun _ hw => Q_ld (show cellsAt _ _ _ [.int .i64 x8814] from (show _ = [_] from hc8818) ▸ (ha8819 _ (Ok.subS (by simp) hw))) ty3 rfl (fun _ => rfl) rfl rfl) rfl rfl ?_
             obtain ⟨x8821, hx8821, ho8806⟩ := bnd ho8806
             obtain ⟨b8822, o8823, hi8827, hc8825, ha8826⟩ := arr_at (hs := [Arr v5997 256 c8704]) (k := 0) (by decide) (H.okS (by simp)) rfl r8706 hx8821
             refine dq rfl (fun _ _ => Q_idx hi8827 Tryd.underlying22 ty58 rfl rfl) rfl rfl ?_
             obtain ⟨x8828, hx8828, ho8806⟩ := bnd ho8806
             have hn8829 := idx_lt hc8825.1 hx8828
             refine dq rfl (fun _ _ => Q_idxA hn8829.1 hn8829.2 Tryd.underlying58 ty3 rfl rfl) rfl rfl ?_
             obtain ⟨x8830, hx8830, ho8806⟩ := bnd ho8806
             obtain ⟨x8831, hx8831, ho8806⟩ := bnd ho8806
             have r8832 : rdL (eA 256 (eI .i64)) ρ x8831 (setC c8704 (x8807.toNat * 256 + x8703.toNat * 1) [.int .i64 x8814]) := rdL_set2 (e := (eI .i64)) (N := 256) r8706 hc8825 hx8830 hx8831 (rfl)
             refine d1 (de rfl (E_stA (k := 3) (j := x8703.toNat * 1) (c := [.int .i64 x8814]) H rfl ty3 hi8827 rfl rfl rfl rfl (one_cons rfl one_nil) (idx_fit (N := 256) (m := 1) (idx_lt hc8825.1 hx8828))) rfl rfl ?_)
             rintro _ wd8833 H
             dsimp only [List.set] at H
             refine ⟨H.okS (by simp), ?_⟩
             refine DL_nil ?_
             replace H := H.f4
             replace H := H.f4
             replace H := H.f4
             replace H := H.f4
             replace H := H.f4
             obtain rfl := Option.some.inj ho8806
             refine x_A fun a hf => ⟨(setC c8704 (x8807.toNat * 256 + x8703.toNat * 1) [.int .i64 x8814]), x8831, rfl, r8832, hf.sub ⟨rfl, rfl, rfl, rfl, rfl, rfl, rfl, rfl, rfl, trivial⟩, H⟩
            ·rintro a wd8834 ⟨c8803, x8804, rfl, r8805, hf, H⟩
             try dsimp only at hB8772
             refine XX.at hf <| x_block <| x_then <| R_nd <| nq (Q_add rfl rfl) rfl rfl <| nq (Q_move rfl) rfl rfl <| WL_nil ?_
             replace H := H.f4
             replace H := H.f4
             replace H := H.f4
             replace H := H.f4
             replace H := H.f4
             obtain rfl := Option.some.inj hB8772
             refine x_A fun a hf => ⟨_, rfl, c8803, w64 (x8703 + 1), x8804, rfl, r8805, hf.sub ⟨rfl, rfl, rfl, rfl, rfl, rfl, rfl, rfl, rfl, trivial⟩, H⟩
           ·replace hB8772 := itF hb hB8772
            refine C_exit <| x_then_exit <| x_then_exit <| x_block_exit ?_
            replace H := H.f4
            replace H := H.f4
            replace H := H.f4
            replace H := H.f4
            replace H := H.f4
            obtain rfl := Option.some.inj hB8772
            obtain rfl := hO8773 _ rfl
            refine x_A fun a hf => ⟨c8704, x8705, rfl, r8706, hf.sub ⟨rfl, rfl, rfl, rfl, rfl, rfl, rfl, trivial⟩, H⟩
         ·rintro a wd8835 ⟨c8635, x8636, rfl, r8637, hf, H⟩
          try dsimp only at hB8426
          refine XX.at hf <| x_then ?_
          obtain ⟨o8864, ho8864, hB8426⟩ := bnd hB8426
          refine C_cutQ (fun a w' => ∃ (c8861 : (List Value)) (x8862 : (List Int)), x8862 = o8864 ∧ rdL (eI .i64) ρ x8862 c8861 ∧ Fr 137 a [(2, .pointer (some ⟨b5809, 0, none⟩)), (6, (.slice (some ⟨b5827, 0, none⟩) (x2.length : Int).toNat (x2.length : Int).toNat)), (9, .pointer (some ⟨b5996, 0, none⟩)), (62, v1), (63, .int .i64 (x2.length : Int)), (64, .int .i64 x7949)] ∧ Hp C w' ρ (Box b5809 [v1, v4, v7] :: Arr (.slice (some ⟨b5827, 0, none⟩) (x2.length : Int).toNat (x2.length : Int).toNat) 1 c5883 :: Box b5996 [v5997, v6001, .slice none 0 0] :: Arr v5997 256 c8635 :: Arr v6001 1 c8861 :: hs)) ?_ ?_
          ·refine R_dr (.take 0 (.take 1 (.take 2 (.take 3 (.take 4 (.take 5 (.take 6 (.take 7 (.take 8 (.take 9 (.take 10 (.take 11 (.one 12 .done))))))))))))) (fun w' => Ok w' ρ [Box b5809 [v1, v4, v7], Arr (.slice (some ⟨b5827, 0, none⟩) (x2.length : Int).toNat (x2.length : Int).toNat) 1 c5883, Box b5996 [v5997, v6001, .slice none 0 0], Arr v5997 256 c8635]) (by kernel_rfl) (by kernel_rfl) (by kernel_rfl) (H.drew.okS (by simp)) ?_
           replace H := H.drew
           refine dq (v := .pointer (some ⟨b5996, 1, none⟩)) rfl (fun _ _ => Q_fld Tryd.underlying25 rfl ty23 (by decide) rfl rfl) rfl rfl <| dq (v := v6001) rfl (fun _ hw => Q_ldB (k := 2) (cs := [v6001]) hw rfl ty23 rfl rfl rfl (fun _ => rfl) rfl) rfl rfl <| dq rfl (fun _ _ => Q_move rfl) rfl rfl <| dq rfl (fun _ _ => Q_move rfl) rfl rfl ?_
           obtain ⟨x8865, hx8865, ho8864⟩ := bnd ho8864
           obtain ⟨b8866, o8867, hi8871, hc8869, ha8870⟩ := arr_at (hs := [Arr (.slice (some ⟨b5827, 0, none⟩) (x2.length : Int).toNat (x2.length : Int).toNat) 1 c5883]) (k := 0) (by decide) (H.okS (by simp)) rfl r5885 hx8865
           refine dq rfl (fun _ _ => Q_idx hi8871 Tryd.underlying23 ty3 rfl rfl) rfl rfl <| dq (v := .int .i64 x8865) rfl (fun _ hw => Q_ld (show cellsAt _ _ _ [.int .i64 x8865] from (show _ = [_] from hc8869) ▸ (ha8870 _ (Ok.subS (by simp) hw))) ty3 rfl (fun _ => rfl) rfl rfl) rfl rfl <| dq (v := .pointer (some ⟨b5809, 1, none⟩)) rfl (fun _ _ => Q_fld Tryd.underlying25 rfl ty23 (by decide) rfl rfl) rfl rfl <| dq (v := v4) rfl (fun _ hw => Q_ldB (k := 0) (cs := [v4]) hw rfl ty23 rfl rfl rfl (fun _ => rfl) rfl) rfl rfl <| dq rfl (fun _ _ => Q_move rfl) rfl rfl ?_
           obtain ⟨x8872, hx8872, ho8864⟩ := bnd ho8864
           obtain ⟨b8873, o8874, c8875, hc8876, ha8877, hi8878⟩ := idxR r6 hx8872
           refine dq rfl (fun _ _ => Q_idx hi8878 Tryd.underlying23 ty3 rfl rfl) rfl rfl <| dq (v := .int .i64 x8872) rfl (fun _ hw => Q_ld (show cellsAt _ _ _ [.int .i64 x8872] from (show _ = [_] from hc8876) ▸ (ha8877.up hw.view)) ty3 rfl (fun _ => rfl) rfl rfl) rfl rfl ?_
           obtain ⟨x8879, hx8879, ho8864⟩ := bnd ho8864
           obtain ⟨b8880, o8881, hi8885, hc8883, ha8884⟩ := arr_at (hs := [Arr v6001 1 c7953]) (k := 0) (by decide) (H.okS (by simp)) rfl r7955 hx8879
           refine dq rfl (fun _ _ => Q_idx hi8885 Tryd.underlying23 ty3 rfl rfl) rfl rfl ?_
           obtain ⟨x8886, hx8886, ho8864⟩ := bnd ho8864
           obtain ⟨hs8887a, hs8887b, hs8887c⟩ := setI_some hx8886
           have r8888 : rdL (eI .i64) ρ x8886 (setC c7953 (x8865.toNat * 1 + 0) [.int .i64 x8872]) := hs8887c ▸ rdL.set r7955 hs8887b (rfl)
           refine d1 (de rfl (E_stA (k := 4) (j := 0) (c := [.int .i64 x8872]) H rfl ty3 hi8885 rfl rfl rfl rfl (one_cons rfl one_nil) (by decide)) rfl rfl ?_)
           rintro _ wd8889 H
           dsimp only [List.set] at H
           refine ⟨H.okS (by simp), ?_⟩
           refine DL_nil ?_
           replace H := H.f4
           replace H := H.f4
           replace H := H.f4
           replace H := H.f4
           replace H := H.f4
           obtain rfl := Option.some.inj ho8864
           refine x_A fun a hf => ⟨(setC c7953 (x8865.toNat * 1 + 0) [.int .i64 x8872]), x8886, rfl, r8888, hf.sub ⟨rfl, rfl, rfl, rfl, rfl, rfl, trivial⟩, H⟩
          ·rintro a wd8890 ⟨c8861, x8862, rfl, r8863, hf, H⟩
           try dsimp only at hB8426
           refine XX.at hf <| x_block <| x_then <| R_nd <| nq (Q_add rfl rfl) rfl rfl <| nq (Q_move rfl) rfl rfl <| WL_nil ?_
           replace H := H.f4
           replace H := H.f4
           replace H := H.f4
           replace H := H.f4
           replace H := H.f4
           obtain rfl := Option.some.inj hB8426
           refine x_A fun a hf => ⟨_, rfl, c8635, c8861, w64 (x7949 + 1), x8636, x8862, rfl, r8637, r8863, hf.sub ⟨rfl, rfl, rfl, rfl, rfl, rfl, trivial⟩, H⟩
        ·replace hB8426 := itF hb hB8426
         refine C_exit <| x_then_exit <| x_then_exit <| x_block_exit ?_
         replace H := H.f4
         replace H := H.f4
         replace H := H.f4
         replace H := H.f4
         replace H := H.f4
         obtain rfl := Option.some.inj hB8426
         obtain rfl := hO8427 _ rfl
         refine x_A fun a hf => ⟨c7950, c7953, x7951, x7954, rfl, r7952, r7955, hf.sub ⟨rfl, rfl, rfl, trivial⟩, H⟩
      ·rintro a wd8891 ⟨c7473, c7476, x7474, x7477, rfl, r7475, r7478, hf, H⟩
       try dsimp only at hF
       refine XX.at hf <| x_then <| C_seq <| C_seq <| R_nd <| nq (v := .pointer (some ⟨b5809, 2, none⟩)) (Q_fld Tryd.underlying25 rfl ty23 (by decide) rfl rfl) rfl rfl <| nq (v := v7) (Q_ldB (k := 0) (cs := [v7]) H.ok rfl ty23 rfl rfl rfl (fun _ => rfl) rfl) rfl rfl <| nq (Q_len Tryd.underlying23 rfl r9) rfl rfl <| nq (Q_move rfl) rfl rfl <| WL_nil <| x_then ?_
       obtain ⟨o9104, ho9104, hF⟩ := bnd hF
       refine C_cutQ (fun a w' => ∃ (v9100 : Value) (c9101 : (List Value)) (x9102 : (List Int)), x9102 = o9104 ∧ rdL (eI .i64) ρ x9102 c9101 ∧ Fr 137 a [(2, .pointer (some ⟨b5809, 0, none⟩)), (9, .pointer (some ⟨b5996, 0, none⟩))] ∧ Hp C w' ρ (Box b5809 [v1, v4, v7] :: Box b5996 [v5997, v6001, v9100] :: Arr v5997 256 c7473 :: Arr v6001 1 c7476 :: Arr v9100 1 c9101 :: hs)) ?_ ?_
       ·refine C_block ?_
        have H := H.nilArr 1
        replace H := H.f5
        replace H := H.f5
        replace H := H.f5
        replace H := H.f5
        replace H := H.f5
        refine C_iter (f := fun s => F_dofferlaw20_CanonOne_l3 N x8 x5884 s.1 s.2) ho9104 (fun s a w' => ∃ (v9174 : Value) (c9175 : (List Value)) (x9173 : Int) (x9176 : (List Int)), (x9173, x9176) = s ∧ rdL (eI .i64) ρ x9176 c9175 ∧ Fr 137 a [(2, .pointer (some ⟨b5809, 0, none⟩)), (6, (.slice (some ⟨b5827, 0, none⟩) (x2.length : Int).toNat (x2.length : Int).toNat)), (9, .pointer (some ⟨b5996, 0, none⟩)), (102, v7), (103, .int .i64 (x8.length : Int)), (104, .int .i64 x9173)] ∧ Hp C w' ρ (Box b5809 [v1, v4, v7] :: Arr (.slice (some ⟨b5827, 0, none⟩) (x2.length : Int).toNat (x2.length : Int).toNat) 1 c5883 :: Box b5996 [v5997, v6001, v9174] :: Arr v5997 256 c7473 :: Arr v6001 1 c7476 :: Arr v9174 1 c9175 :: hs)) ?_ ?_
        ·exact fun a hf => ⟨(.slice none 0 0), [], 0, [], rfl, rdL.nil, hf.sub ⟨rfl, rfl, rfl, rfl, rfl, rfl, trivial⟩, H⟩
        ·rintro s o9246 a wd9249 ⟨v9174, c9175, x9173, x9176, rfl, r9177, hf, H⟩ hB9247 hO9248
         replace hB9247 : F_dofferlaw20_CanonOne_l3 N x8 x5884 x9173 x9176 = some o9246 := hB9247
         unfold F_dofferlaw20_CanonOne_l3 at hB9247
         refine CW.at hf <| C_seq <| R_nd <| nq (Q_lss rfl rfl) rfl rfl <| WL_nil <| x_then <| C_seq ?_
         refine C_cond rfl (fun hb => ?_) (fun hb => ?_)
         ·replace hB9247 := itT hb hB9247
          refine C_skip <| x_then <| C_seq <| C_block <| C_seq <| R_nd ?_
          obtain ⟨x9250, hx9250, hB9247⟩ := bnd hB9247
          obtain ⟨b9251, o9252, c9253, hc9254, ha9255, hi9256⟩ := idxR r9 hx9250
          refine nq (Q_idx hi9256 Tryd.underlying23 ty3 rfl rfl) rfl rfl <| nq (v := .int .i64 x9250) (Q_ld (show cellsAt _ _ _ [.int .i64 x9250] from (show _ = [_] from hc9254) ▸ (ha9255.up H.ok.view)) ty3 rfl (fun _ => rfl) rfl rfl) rfl rfl <| nq (Q_assign rfl) rfl rfl <| WL_nil <| x_then ?_
          obtain ⟨o9286, ho9286, hB9247⟩ := bnd hB9247
          refine C_cutQ (fun a w' => ∃ (v9282 : Value) (c9283 : (List Value)) (x9284 : (List Int)), x9284 = o9286 ∧ rdL (eI .i64) ρ x9284 c9283 ∧ Fr 137 a [(2, .pointer (some ⟨b5809, 0, none⟩)), (6, (.slice (some ⟨b5827, 0, none⟩) (x2.length : Int).toNat (x2.length : Int).toNat)), (9, .pointer (some ⟨b5996, 0, none⟩)), (102, v7), (103, .int .i64 (x8.length : Int)), (104, .int .i64 x9173)] ∧ Hp C w' ρ (Box b5809 [v1, v4, v7] :: Arr (.slice (some ⟨b5827, 0, none⟩) (x2.length : Int).toNat (x2.length : Int).toNat) 1 c5883 :: Box b5996 [v5997, v6001, v9282] :: Arr v5997 256 c7473 :: Arr v6001 1 c7476 :: Arr v9282 1 c9283 :: hs)) ?_ ?_
          ·refine R_dr (.take 0 (.take 2 (.take 3 (.take 4 (.take 5 (.two 1 6 (.one 6 (.one 7 (.take 8 (.one 9 .done)))) (.one 1 (.one 7 (.take 8 (.one 9 .done)))))))))) (fun w' => Ok w' ρ [Box b5809 [v1, v4, v7], Arr (.slice (some ⟨b5827, 0, none⟩) (x2.length : Int).toNat (x2.length : Int).toNat) 1 c5883, Arr v5997 256 c7473, Arr v6001 1 c7476]) (by kernel_rfl) (by kernel_rfl) (by kernel_rfl) (H.drew.okS (by simp)) ?_
           replace H := H.drew
           refine dq (v := .pointer (some ⟨b5996, 2, none⟩)) rfl (fun _ _ => Q_fld Tryd.underlying25 rfl ty23 (by decide) rfl rfl) rfl rfl <| dq rfl (fun _ _ => Q_move rfl) rfl rfl <| dq rfl (fun _ _ => Q_move rfl) rfl rfl ?_
           obtain ⟨x9287, hx9287, ho9286⟩ := bnd ho9286
           obtain ⟨b9288, o9289, hi9293, hc9291, ha9292⟩ := arr_at (hs := [Arr (.slice (some ⟨b5827, 0, none⟩) (x2.length : Int).toNat (x2.length : Int).toNat) 1 c5883]) (k := 0) (by decide) (H.okS (by simp)) rfl r5885 hx9287
           refine dq rfl (fun _ _ => Q_idx hi9293 Tryd.underlying23 ty3 rfl rfl) rfl rfl <| dq (v := .int .i64 x9287) rfl (fun _ hw => Q_ld (show cellsAt _ _ _ [.int .i64 x9287] from (show _ = [_] from hc9291) ▸ (ha9292 _ (Ok.subS (by simp) hw))) ty3 rfl (fun _ => rfl) rfl rfl) rfl rfl ?_
           refine d2 ?_ ?_
           ·refine de rfl (Eff.quiet (v := v9174) (Q_ldB (k := 2) (cs := [v9174]) H.ok rfl ty23 rfl rfl rfl (fun _ => rfl) rfl)) rfl rfl ?_
            rintro _ _ ⟨rfl, rfl⟩
            refine ⟨H.okS (by simp), ?_⟩
            refine d1 (de rfl (E_bslice (xs := [.tmp 113]) (vs := [.int .i64 x9287]) H Tryd.underlying23 ty3 (by decide) (cs := [.int .i64 x9287]) rfl (sz_cons rfl sz_nil) rfl (by simp) (by simp) rfl rfl) rfl rfl ?_)
            rintro _ wd9295 ⟨b9294, rfl, H⟩
            refine ⟨H.okS (by simp), ?_⟩
            obtain ⟨x9296, hx9296, ho9286⟩ := bnd ho9286
            obtain ⟨ha9297a, ha9297b⟩ := app_some hx9296
            have r9299 : rdL (eI .i64) ρ x9296 (c9175 ++ ([.int .i64 x9287])) := ha9297b ▸ rdL.app r9177 (show rdL (eI .i64) ρ ([x9287]) ([.int .i64 x9287]) from ⟨([.int .i64 x9287]), _, rfl, rfl, rdL.nil⟩)
            refine d1 (de rfl (E_append (k := 6) H rfl Tryd.underlying23 ty3 rfl (by decide) (by decide) rfl rfl (Src.ofArr (k := 0) H.ok rfl) (rdL.one (show rdL (eI .i64) ρ ([x9287]) ([.int .i64 x9287]) from ⟨([.int .i64 x9287]), _, rfl, rfl, rdL.nil⟩)) (app_fit r9177 (show rdL (eI .i64) ρ ([x9287]) ([.int .i64 x9287]) from ⟨([.int .i64 x9287]), _, rfl, rfl, rdL.nil⟩) ha9297a)) rfl rfl ?_)
            rintro v9298 wd9301 ⟨H, hc9300⟩
            dsimp only [List.set] at H
            refine ⟨H.okS (by simp), ?_⟩
            refine dq (v := .pointer (some ⟨b5996, 2, none⟩)) rfl (fun _ _ => Q_fld Tryd.underlying25 rfl ty23 (by decide) rfl rfl) rfl rfl ?_
            refine d1 (de rfl (E_stB (k := 3) (cs := [v9298]) (vs' := [v5997, v6001, v9298]) H rfl ty23 rfl rfl (arr_cells (H.ok.get (k := 6) rfl)).1 rfl (one_cons (arr_cells (H.ok.get (k := 6) rfl)).2 one_nil) (by simp) rfl) rfl rfl ?_)
            rintro _ wd9302 H
            dsimp only [List.set] at H
            refine ⟨H.okS (by simp), ?_⟩
            refine DL_nil ?_
            replace H := H.f6
            replace H := H.f6
            replace H := H.f6
            replace H := H.f6
            replace H := H.f6
            replace H := H.f6
            replace H := H.drop 6 rfl
            dsimp only [List.eraseIdx] at H
            obtain rfl := Option.some.inj ho9286
            refine x_A fun a hf => ⟨v9298, (c9175 ++ ([.int .i64 x9287])), x9296, rfl, r9299, hf.sub ⟨rfl, rfl, rfl, rfl, rfl, rfl, trivial⟩, H⟩
           ·refine de rfl (E_bslice (xs := [.tmp 113]) (vs := [.int .i64 x9287]) H Tryd.underlying23 ty3 (by decide) (cs := [.int .i64 x9287]) rfl (sz_cons rfl sz_nil) rfl (by simp) (by simp) rfl rfl) rfl rfl ?_
            rintro _ wd9304 ⟨b9303, rfl, H⟩
            refine ⟨H.okS (by simp), ?_⟩
            refine d1 (de rfl (Eff.quiet (v := v9174) (Q_ldB (k := 3) (cs := [v9174]) H.ok rfl ty23 rfl rfl rfl (fun _ => rfl) rfl)) rfl rfl ?_)
            rintro _ _ ⟨rfl, rfl⟩
            refine ⟨H.okS (by simp), ?_⟩
            obtain ⟨x9305, hx9305, ho9286⟩ := bnd ho9286
            obtain ⟨ha9306a, ha9306b⟩ := app_some hx9305
            have r9308 : rdL (eI .i64) ρ x9305 (c9175 ++ ([.int .i64 x9287])) := ha9306b ▸ rdL.app r9177 (show rdL (eI .i64) ρ ([x9287]) ([.int .i64 x9287]) from ⟨([.int .i64 x9287]), _, rfl, rfl, rdL.nil⟩)
            refine d1 (de rfl (E_append (k := 6) H rfl Tryd.underlying23 ty3 rfl (by decide) (by decide) rfl rfl (Src.ofArr (k := 0) H.ok rfl) (rdL.one (show rdL (eI .i64) ρ ([x9287]) ([.int .i64 x9287]) from ⟨([.int .i64 x9287]), _, rfl, rfl, rdL.nil⟩)) (app_fit r9177 (show rdL (eI .i64) ρ ([x9287]) ([.int .i64 x9287]) from ⟨([.int .i64 x9287]), _, rfl, rfl, rdL.nil⟩) ha9306a)) rfl rfl ?_)
            rintro v9307 wd9310 ⟨H, hc9309⟩
            dsimp only [List.set] at H
            refine ⟨H.okS (by simp), ?_⟩
            refine dq (v := .pointer (some ⟨b5996, 2, none⟩)) rfl (fun _ _ => Q_fld Tryd.underlying25 rfl ty23 (by decide) rfl rfl) rfl rfl ?_
            refine d1 (de rfl (E_stB (k := 3) (cs := [v9307]) (vs' := [v5997, v6001, v9307]) H rfl ty23 rfl rfl (arr_cells (H.ok.get (k := 6) rfl)).1 rfl (one_cons (arr_cells (H.ok.get (k := 6) rfl)).2 one_nil) (by simp) rfl) rfl rfl ?_)
            rintro _ wd9311 H
            dsimp only [List.set] at H
            refine ⟨H.okS (by simp), ?_⟩
            refine DL_nil ?_
            replace H := H.f6
            replace H := H.f6
            replace H := H.f6
            replace H := H.f6
            replace H := H.f6
            replace H := H.f6
            replace H := H.drop 6 rfl
            dsimp only [List.eraseIdx] at H
            obtain rfl := Option.some.inj ho9286
            refine x_A fun a hf => ⟨v9307, (c9175 ++ ([.int .i64 x9287])), x9305, rfl, r9308, hf.sub ⟨rfl, rfl, rfl, rfl, rfl, rfl, trivial⟩, H⟩
          ·rintro a wd9312 ⟨v9282, c9283, x9284, rfl, r9285, hf, H⟩
           try dsimp only at hB9247
           refine XX.at hf <| x_block <| x_then <| R_nd <| nq (Q_add rfl rfl) rfl rfl <| nq (Q_move rfl) rfl rfl <| WL_nil ?_
           replace H := H.f5
           replace H := H.f5
           replace H := H.f5
           replace H := H.f5
           replace H := H.f5
           replace H := H.f5
           obtain rfl := Option.some.inj hB9247
           refine x_A fun a hf => ⟨_, rfl, v9282, c9283, w64 (x9173 + 1), x9284, rfl, r9285, hf.sub ⟨rfl, rfl, rfl, rfl, rfl, rfl, trivial⟩, H⟩
         ·replace hB9247 := itF hb hB9247
          refine C_exit <| x_then_exit <| x_then_exit <| x_block_exit ?_
          replace H := H.f5
          replace H := H.f5
          replace H := H.f5
          replace H := H.f5
          replace H := H.f4
          replace H := H.drop 5 rfl
          dsimp only [List.eraseIdx] at H
          obtain rfl := Option.some.inj hB9247
          obtain rfl := hO9248 _ rfl
          refine x_A fun a hf => ⟨v9174, c9175, x9176, rfl, r9177, hf.sub ⟨rfl, rfl, trivial⟩, H⟩
       ·rintro a wd9313 ⟨v9100, c9101, x9102, rfl, r9103, hf, H⟩
        try dsimp only at hF
        refine XX.at hf <| x_then ?_
        obtain ⟨o10440, ho10440, hF⟩ := bnd hF
        refine C_cut (fun a w' => ∃ (b10414 : Nat) (v10415 : Value) (c10416 : (List Value)) (v10419 : Value) (c10420 : (List Value)) (v10423 : Value) (c10424 : (List Value)) (b10427 : Nat) (v10428 : Value) (c10429 : (List Value)) (v10432 : Value) (c10433 : (List Value)) (v10436 : Value) (c10437 : (List Value)) (x10417 : (List (List Int))) (x10421 : (List Int)) (x10425 : (List Int)) (x10430 : (List (List Int))) (x10434 : (List Int)) (x10438 : (List Int)), (x10417, x10421, x10425, x10430, x10434, x10438) = o10440 ∧ rdL (eA 256 (eI .i64)) ρ x10417 c10416 ∧ rdL (eI .i64) ρ x10421 c10420 ∧ rdL (eI .i64) ρ x10425 c10424 ∧ rdL (eA 256 (eI .i64)) ρ x10430 c10429 ∧ rdL (eI .i64) ρ x10434 c10433 ∧ rdL (eI .i64) ρ x10438 c10437 ∧ Fr 137 a [(9, .pointer (some ⟨b5996, 0, none⟩)), (16, .pointer (some ⟨b10414, 0, none⟩)), (17, .pointer (some ⟨b10427, 0, none⟩))] ∧ Hp C w' ρ (Box b10414 [v10415, v10419, v10423] :: Arr v10415 256 c10416 :: Arr v10419 1 c10420 :: Arr v10423 1 c10424 :: Box b10427 [v10428, v10432, v10436] :: Arr v10428 256 c10429 :: Arr v10432 1 c10433 :: Arr v10436 1 c10437 :: Box b5996 [v5997, v6001, v9100] :: Arr v5997 256 c7473 :: Arr v6001 1 c7476 :: Arr v9100 1 c9101 :: hs)) ?_ ?_
        ·refine R_dr (.take 0 (.take 3 (.three 1 6 7 (.three 2 6 7 (.three 4 6 7 (.three 5 6 7 (.two 6 7 (.one 7 (.one 8 (.one 9 .done))) (.one 6 (.one 8 (.one 9 .done)))) (.two 5 7 (.one 7 (.one 8 (.one 9 .done))) (.one 5 (.one 8 (.one 9 .done)))) (.two 5 6 (.one 6 (.one 8 (.one 9 .done))) (.one 5 (.one 8 (.one 9 .done))))) (.two 4 7 (.two 5 7 (.one 7 (.one 8 (.one 9 .done))) (.one 5 (.one 8 (.one 9 .done)))) (.one 4 (.one 5 (.one 8 (.one 9 .done))))) (.two 4 6 (.two 5 6 (.one 6 (.one 8 (.one 9 .done))) (.one 5 (.one 8 (.one 9 .done)))) (.one 4 (.one 5 (.one 8 (.one 9 .done)))))) (.two 2 7 (.two 4 7 (.two 5 7 (.one 7 (.one 8 (.one 9 .done))) (.one 5 (.one 8 (.one 9 .done)))) (.one 4 (.one 5 (.one 8 (.one 9 .done))))) (.one 2 (.one 4 (.one 5 (.one 8 (.one 9 .done)))))) (.two 2 6 (.two 4 6 (.two 5 6 (.one 6 (.one 8 (.one 9 .done))) (.one 5 (.one 8 (.one 9 .done)))) (.one 4 (.one 5 (.one 8 (.one 9 .done))))) (.one 2 (.one 4 (.one 5 (.one 8 (.one 9 .done))))))) (.two 1 7 (.two 2 7 (.two 4 7 (.two 5 7 (.one 7 (.one 8 (.one 9 .done))) (.one 5 (.one 8 (.one 9 .done)))) (.one 4 (.one 5 (.one 8 (.one 9 .done))))) (.one 2 (.one 4 (.one 5 (.one 8 (.one 9 .done)))))) (.one 1 (.one 2 (.one 4 (.one 5 (.one 8 (.one 9 .done))))))) (.two 1 6 (.two 2 6 (.two 4 6 (.two 5 6 (.one 6 (.one 8 (.one 9 .done))) (.one 5 (.one 8 (.one 9 .done)))) (.one 4 (.one 5 (.one 8 (.one 9 .done))))) (.one 2 (.one 4 (.one 5 (.one 8 (.one 9 .done)))))) (.one 1 (.one 2 (.one 4 (.one 5 (.one 8 (.one 9 .done)))))))))) (fun w' => Ok w' ρ [Box b5809 [v1, v4, v7], Box b5996 [v5997, v6001, v9100], Arr v5997 256 c7473, Arr v6001 1 c7476, Arr v9100 1 c9101]) (by kernel_rfl) (by kernel_rfl) (by kernel_rfl) (H.drew.okS (by simp)) ?_
         replace H := H.drew
         refine dq (v := .agg #[v1, v4, v7]) rfl (fun _ hw => Q_ldB (k := 0) (cs := [v1, v4, v7]) hw rfl ty25 rfl rfl rfl (fun h => nomatch h) rfl) rfl rfl <| dq (v := .agg #[v5997, v6001, v9100]) rfl (fun _ hw => Q_ldB (k := 1) (cs := [v5997, v6001, v9100]) hw rfl ty25 rfl rfl rfl (fun h => nomatch h) rfl) rfl rfl ?_
         refine d3 ?_ ?_ ?_
         ·obtain ⟨q10441, hq10441, ho10440⟩ := bnd ho10440
          refine de rfl (E_call fn45 rfl (c_45 H gl0 gl1 r3 r6 r9 hq10441)) rfl rfl ?_
          rintro _ wd10455 ⟨v10443, c10444, v10445, c10446, v10447, c10448, x10449, x10450, x10451, rfl, rfl, r10452, r10453, r10454, H⟩
          try dsimp only at ho10440
          refine ⟨H.okS (by simp), ?_⟩
          refine d3 ?_ ?_ ?_
          ·replace H := H.f2
           replace H := H.f2
           replace H := H.f2
           obtain ⟨q10456, hq10456, ho10440⟩ := bnd ho10440
           obtain ⟨C', ρ', hl10457, HA, hL, hback⟩ := Hp.lend (A := []) (L := [Arr v10443 256 c10444, Arr v10445 1 c10446, Arr v10447 1 c10448]) (F := Box b5809 [v1, v4, v7] :: Box b5996 [v5997, v6001, v9100] :: Arr v5997 256 c7473 :: Arr v6001 1 c7476 :: Arr v9100 1 c9101 :: hs) H
           refine de rfl (E_call fn16 rfl (c_16 HA (gl0.up hl10457) (arr_rd (by decide) hl10457 (hL (Arr v10443 256 c10444) (by simp)) r10452) (arr_rd (by decide) hl10457 (hL (Arr v10445 1 c10446) (by simp)) r10453) (arr_rd (by decide) hl10457 (hL (Arr v10447 1 c10448) (by simp)) r10454) hq10456)) rfl rfl ?_
           rintro _ wd10470 ⟨v10458, c10459, v10460, c10461, v10462, c10463, x10464, x10465, x10466, rfl, rfl, r10467, r10468, r10469, H⟩
           try dsimp only at ho10440
           replace H := hback H
           replace r10467 := rdL.flat (ρ := ρ') (ρ' := ρ) (flat_A _ (flat_I _)) r10467
           replace r10468 := rdL.flat (ρ := ρ') (ρ' := ρ) (flat_I _) r10468
           replace r10469 := rdL.flat (ρ := ρ') (ρ' := ρ) (flat_I _) r10469
           dsimp only [List.cons_append, List.nil_append] at H
           refine ⟨H.okS (by simp), ?_⟩
           refine d3 ?_ ?_ ?_
           ·replace H := H.f10
            replace H := H.f10
            replace H := H.f10
            obtain ⟨q10471, hq10471, ho10440⟩ := bnd ho10440
            obtain ⟨C', ρ', hl10472, HA, hL, hback⟩ := Hp.lend (A := []) (L := [Arr v5997 256 c7473, Arr v6001 1 c7476, Arr v9100 1 c9101]) (F := Arr v10458 256 c10459 :: Arr v10460 1 c10461 :: Arr v10462 1 c10463 :: Arr v10443 256 c10444 :: Arr v10445 1 c10446 :: Arr v10447 1 c10448 :: Box b5809 [v1, v4, v7] :: Box b5996 [v5997, v6001, v9100] :: hs) H
            refine de rfl (E_call fn45 rfl (c_45 HA (gl0.up hl10472) (GTab.up hl10472 gl1) (arr_rd (by decide) hl10472 (hL (Arr v5997 256 c7473) (by simp)) r7475) (arr_rd (by decide) hl10472 (hL (Arr v6001 1 c7476) (by simp)) r7478) (arr_rd (by decide) hl10472 (hL (Arr v9100 1 c9101) (by simp)) r9103) hq10471)) rfl rfl ?_
            rintro _ wd10485 ⟨v10473, c10474, v10475, c10476, v10477, c10478, x10479, x10480, x10481, rfl, rfl, r10482, r10483, r10484, H⟩
            try dsimp only at ho10440
            replace H := hback H
            replace r10482 := rdL.flat (ρ := ρ') (ρ' := ρ) (flat_A _ (flat_I _)) r10482
            replace r10483 := rdL.flat (ρ := ρ') (ρ' := ρ) (flat_I _) r10483
            replace r10484 := rdL.flat (ρ := ρ') (ρ' := ρ) (flat_I _) r10484
            dsimp only [List.cons_append, List.nil_append] at H
            refine ⟨H.okS (by simp), ?_⟩
            refine d3 ?_ ?_ ?_
            ·replace H := H.f2
             replace H := H.f2
             replace H := H.f2
             obtain ⟨q10486, hq10486, ho10440⟩ := bnd ho10440
             obtain ⟨C', ρ', hl10487, HA, hL, hback⟩ := Hp.lend (A := []) (L := [Arr v10473 256 c10474, Arr v10475 1 c10476, Arr v10477 1 c10478]) (F := Arr v5997 256 c7473 :: Arr v6001 1 c7476 :: Arr v9100 1 c9101 :: Arr v10458 256 c10459 :: Arr v10460 1 c10461 :: Arr v10462 1 c10463 :: Arr v10443 256 c10444 :: Arr v10445 1 c10446 :: Arr v10447 1 c10448 :: Box b5809 [v1, v4, v7] :: Box b5996 [v5997, v6001, v9100] :: hs) H
             refine de rfl (E_call fn16 rfl (c_16 HA (gl0.up hl10487) (arr_rd (by decide) hl10487 (hL (Arr v10473 256 c10474) (by simp)) r10482) (arr_rd (by decide) hl10487 (hL (Arr v10475 1 c10476) (by simp)) r10483) (arr_rd (by decide) hl10487 (hL (Arr v10477 1 c10478) (by simp)) r10484) hq10486)) rfl rfl ?_
             rintro _ wd10500 ⟨v10488, c10489, v10490, c10491, v10492, c10493, x10494, x10495, x10496, rfl, rfl, r10497, r10498, r10499, H⟩
             try dsimp only at ho10440
             replace H := hback H
             replace r10497 := rdL.flat (ρ := ρ') (ρ' := ρ) (flat_A _ (flat_I _)) r10497
             replace r10498 := rdL.flat (ρ := ρ') (ρ' := ρ) (flat_I _) r10498
             replace r10499 := rdL.flat (ρ := ρ') (ρ' := ρ) (flat_I _) r10499
             dsimp only [List.cons_append, List.nil_append] at H
             refine ⟨H.okS (by simp), ?_⟩
             refine d2 ?_ ?_
             ·refine de rfl (E_alloc H ty25 (zs := [.slice none 0 0, .slice none 0 0, .slice none 0 0]) rfl) rfl rfl ?_
              rintro _ wd10502 ⟨b10501, rfl, H⟩
              refine ⟨H.okS (by simp), ?_⟩
              refine d1 (de rfl (E_alloc H ty25 (zs := [.slice none 0 0, .slice none 0 0, .slice none 0 0]) rfl) rfl rfl ?_)
              rintro _ wd10504 ⟨b10503, rfl, H⟩
              refine ⟨H.okS (by simp), ?_⟩
              refine d1 (de rfl (E_stB (k := 1) (cs := [v10458, v10460, v10462]) (vs' := [v10458, v10460, v10462]) H rfl ty25 rfl rfl rfl rfl (one_cons (arr_cells (H.ok.get (k := 11) rfl)).2 (one_cons (arr_cells (H.ok.get (k := 12) rfl)).2 (one_cons (arr_cells (H.ok.get (k := 13) rfl)).2 one_nil))) (by simp) rfl) rfl rfl ?_)
              rintro _ wd10505 H
              dsimp only [List.set] at H
              refine ⟨H.okS (by simp), ?_⟩
              refine d1 (de rfl (E_stB (k := 0) (cs := [v10488, v10490, v10492]) (vs' := [v10488, v10490, v10492]) H rfl ty25 rfl rfl rfl rfl (one_cons (arr_cells (H.ok.get (k := 2) rfl)).2 (one_cons (arr_cells (H.ok.get (k := 3) rfl)).2 (one_cons (arr_cells (H.ok.get (k := 4) rfl)).2 one_nil))) (by simp) rfl) rfl rfl ?_)
              rintro _ wd10506 H
              dsimp only [List.set] at H
              refine ⟨H.okS (by simp), ?_⟩
              refine DL_nil ?_
              replace H := H.f10
              replace H := H.f10
              replace H := H.f10
              replace H := H.front 18 rfl
              dsimp only [List.eraseIdx] at H
              replace H := H.f8
              replace H := H.f8
              replace H := H.f8
              replace H := H.f7
              replace H := H.f14
              replace H := H.f14
              replace H := H.f14
              replace H := H.f11
              replace H := H.drop 12 rfl
              dsimp only [List.eraseIdx] at H
              replace H := H.drop 12 rfl
              dsimp only [List.eraseIdx] at H
              replace H := H.drop 12 rfl
              dsimp only [List.eraseIdx] at H
              replace H := H.drop 12 rfl
              dsimp only [List.eraseIdx] at H
              replace H := H.drop 12 rfl
              dsimp only [List.eraseIdx] at H
              replace H := H.drop 12 rfl
              dsimp only [List.eraseIdx] at H
              replace H := H.drop 12 rfl
              dsimp only [List.eraseIdx] at H
              obtain rfl := Option.some.inj ho10440
              refine x_A fun a hf => ⟨b10501, v10458, c10459, v10460, c10461, v10462, c10463, b10503, v10488, c10489, v10490, c10491, v10492, c10493, x10464, x10465, x10466, x10494, x10495, x10496, rfl, r10467, r10468, r10469, r10497, r10498, r10499, hf.sub ⟨rfl, rfl, rfl, trivial⟩, H⟩
             ·refine de rfl (E_alloc H ty25 (zs := [.slice none 0 0, .slice none 0 0, .slice none 0 0]) rfl) rfl rfl ?_
              rintro _ wd10508 ⟨b10507, rfl, H⟩
              refine ⟨H.okS (by simp), ?_⟩
              refine d1 (de rfl (E_alloc H ty25 (zs := [.slice none 0 0, .slice none 0 0, .slice none 0 0]) rfl) rfl rfl ?_)
              rintro _ wd10510 ⟨b10509, rfl, H⟩
              refine ⟨H.okS (by simp), ?_⟩
              refine d1 (de rfl (E_stB (k := 0) (cs := [v10458, v10460, v10462]) (vs' := [v10458, v10460, v10462]) H rfl ty25 rfl rfl rfl rfl (one_cons (arr_cells (H.ok.get (k := 11) rfl)).2 (one_cons (arr_cells (H.ok.get (k := 12) rfl)).2 (one_cons (arr_cells (H.ok.get (k := 13) rfl)).2 one_nil))) (by simp) rfl) rfl rfl ?_)
              rintro _ wd10511 H
              dsimp only [List.set] at H
              refine ⟨H.okS (by simp), ?_⟩
              refine d1 (de rfl (E_stB (k := 1) (cs := [v10488, v10490, v10492]) (vs' := [v10488, v10490, v10492]) H rfl ty25 rfl rfl rfl rfl (one_cons (arr_cells (H.ok.get (k := 2) rfl)).2 (one_cons (arr_cells (H.ok.get (k := 3) rfl)).2 (one_cons (arr_cells (H.ok.get (k := 4) rfl)).2 one_nil))) (by simp) rfl) rfl rfl ?_)
              rintro _ wd10512 H
              dsimp only [List.set] at H
              refine ⟨H.okS (by simp), ?_⟩
              refine DL_nil ?_
              replace H := H.f10
              replace H := H.f10
              replace H := H.f10
              replace H := H.front 18 rfl
              dsimp only [List.eraseIdx] at H
              replace H := H.f8
              replace H := H.f8
              replace H := H.f8
              replace H := H.f8
              replace H := H.f14
              replace H := H.f14
              replace H := H.f14
              replace H := H.f11
              replace H := H.drop 12 rfl
              dsimp only [List.eraseIdx] at H
              replace H := H.drop 12 rfl
              dsimp only [List.eraseIdx] at H
              replace H := H.drop 12 rfl
              dsimp only [List.eraseIdx] at H
              replace H := H.drop 12 rfl
              dsimp only [List.eraseIdx] at H
              replace H := H.drop 12 rfl
              dsimp only [List.eraseIdx] at H
              replace H := H.drop 12 rfl
              dsimp only [List.eraseIdx] at H
              replace H := H.drop 12 rfl
              dsimp only [List.eraseIdx] at H
              obtain rfl := Option.some.inj ho10440
              refine x_A fun a hf => ⟨b10509, v10458, c10459, v10460, c10461, v10462, c10463, b10507, v10488, c10489, v10490, c10491, v10492, c10493, x10464, x10465, x10466, x10494, x10495, x10496, rfl, r10467, r10468, r10469, r10497, r10498, r10499, hf.sub ⟨rfl, rfl, rfl, trivial⟩, H⟩
            ·refine de rfl (E_alloc H ty25 (zs := [.slice none 0 0, .slice none 0 0, .slice none 0 0]) rfl) rfl rfl ?_
             rintro _ wd10514 ⟨b10513, rfl, H⟩
             refine ⟨H.okS (by simp), ?_⟩
             refine d2 ?_ ?_
             ·replace H := H.f3
              replace H := H.f3
              replace H := H.f3
              obtain ⟨q10515, hq10515, ho10440⟩ := bnd ho10440
              obtain ⟨C', ρ', hl10516, HA, hL, hback⟩ := Hp.lend (A := []) (L := [Arr v10473 256 c10474, Arr v10475 1 c10476, Arr v10477 1 c10478]) (F := Box b10513 [.slice none 0 0, .slice none 0 0, .slice none 0 0] :: Arr v5997 256 c7473 :: Arr v6001 1 c7476 :: Arr v9100 1 c9101 :: Arr v10458 256 c10459 :: Arr v10460 1 c10461 :: Arr v10462 1 c10463 :: Arr v10443 256 c10444 :: Arr v10445 1 c10446 :: Arr v10447 1 c10448 :: Box b5809 [v1, v4, v7] :: Box b5996 [v5997, v6001, v9100] :: hs) H
              refine de rfl (E_call fn16 rfl (c_16 HA (gl0.up hl10516) (arr_rd (by decide) hl10516 (hL (Arr v10473 256 c10474) (by simp)) r10482) (arr_rd (by decide) hl10516 (hL (Arr v10475 1 c10476) (by simp)) r10483) (arr_rd (by decide) hl10516 (hL (Arr v10477 1 c10478) (by simp)) r10484) hq10515)) rfl rfl ?_
              rintro _ wd10529 ⟨v10517, c10518, v10519, c10520, v10521, c10522, x10523, x10524, x10525, rfl, rfl, r10526, r10527, r10528, H⟩
              try dsimp only at ho10440
              replace H := hback H
              replace r10526 := rdL.flat (ρ := ρ') (ρ' := ρ) (flat_A _ (flat_I _)) r10526
              replace r10527 := rdL.flat (ρ := ρ') (ρ' := ρ) (flat_I _) r10527
              replace r10528 := rdL.flat (ρ := ρ') (ρ' := ρ) (flat_I _) r10528
              dsimp only [List.cons_append, List.nil_append] at H
              refine ⟨H.okS (by simp), ?_⟩
              refine d1 (de rfl (E_alloc H ty25 (zs := [.slice none 0 0, .slice none 0 0, .slice none 0 0]) rfl) rfl rfl ?_)
              rintro _ wd10531 ⟨b10530, rfl, H⟩
              refine ⟨H.okS (by simp), ?_⟩
              refine d1 (de rfl (E_stB (k := 7) (cs := [v10458, v10460, v10462]) (vs' := [v10458, v10460, v10462]) H rfl ty25 rfl rfl rfl rfl (one_cons (arr_cells (H.ok.get (k := 11) rfl)).2 (one_cons (arr_cells (H.ok.get (k := 12) rfl)).2 (one_cons (arr_cells (H.ok.get (k := 13) rfl)).2 one_nil))) (by simp) rfl) rfl rfl ?_)
              rintro _ wd10532 H
              dsimp only [List.set] at H
              refine ⟨H.okS (by simp), ?_⟩
              refine d1 (de rfl (E_stB (k := 0) (cs := [v10517, v10519, v10521]) (vs' := [v10517, v10519, v10521]) H rfl ty25 rfl rfl rfl rfl (one_cons (arr_cells (H.ok.get (k := 1) rfl)).2 (one_cons (arr_cells (H.ok.get (k := 2) rfl)).2 (one_cons (arr_cells (H.ok.get (k := 3) rfl)).2 one_nil))) (by simp) rfl) rfl rfl ?_)
              rintro _ wd10533 H
              dsimp only [List.set] at H
              refine ⟨H.okS (by simp), ?_⟩
              refine DL_nil ?_
              replace H := H.f10
              replace H := H.f10
              replace H := H.f10
              replace H := H.front 18 rfl
              dsimp only [List.eraseIdx] at H
              replace H := H.f7
              replace H := H.f7
              replace H := H.f7
              replace H := H.f7
              replace H := H.f14
              replace H := H.f14
              replace H := H.f14
              replace H := H.f14
              replace H := H.drop 12 rfl
              dsimp only [List.eraseIdx] at H
              replace H := H.drop 12 rfl
              dsimp only [List.eraseIdx] at H
              replace H := H.drop 12 rfl
              dsimp only [List.eraseIdx] at H
              replace H := H.drop 12 rfl
              dsimp only [List.eraseIdx] at H
              replace H := H.drop 12 rfl
              dsimp only [List.eraseIdx] at H
              replace H := H.drop 12 rfl
              dsimp only [List.eraseIdx] at H
              replace H := H.drop 12 rfl
              dsimp only [List.eraseIdx] at H
              obtain rfl := Option.some.inj ho10440
              refine x_A fun a hf => ⟨b10513, v10458, c10459, v10460, c10461, v10462, c10463, b10530, v10517, c10518, v10519, c10520, v10521, c10522, x10464, x10465, x10466, x10523, x10524, x10525, rfl, r10467, r10468, r10469, r10526, r10527, r10528, hf.sub ⟨rfl, rfl, rfl, trivial⟩, H⟩
             ·refine de rfl (E_alloc H ty25 (zs := [.slice none 0 0, .slice none 0 0, .slice none 0 0]) rfl) rfl rfl ?_
              rintro _ wd10535 ⟨b10534, rfl, H⟩
              refine ⟨H.okS (by simp), ?_⟩
              replace H := H.f4
              replace H := H.f4
              replace H := H.f4
              obtain ⟨q10536, hq10536, ho10440⟩ := bnd ho10440
              obtain ⟨C', ρ', hl10537, HA, hL, hback⟩ := Hp.lend (A := []) (L := [Arr v10473 256 c10474, Arr v10475 1 c10476, Arr v10477 1 c10478]) (F := Box b10534 [.slice none 0 0, .slice none 0 0, .slice none 0 0] :: Box b10513 [.slice none 0 0, .slice none 0 0, .slice none 0 0] :: Arr v5997 256 c7473 :: Arr v6001 1 c7476 :: Arr v9100 1 c9101 :: Arr v10458 256 c10459 :: Arr v10460 1 c10461 :: Arr v10462 1 c10463 :: Arr v10443 256 c10444 :: Arr v10445 1 c10446 :: Arr v10447 1 c10448 :: Box b5809 [v1, v4, v7] :: Box b5996 [v5997, v6001, v9100] :: hs) H
              refine d1 (de rfl (E_call fn16 rfl (c_16 HA (gl0.up hl10537) (arr_rd (by decide) hl10537 (hL (Arr v10473 256 c10474) (by simp)) r10482) (arr_rd (by decide) hl10537 (hL (Arr v10475 1 c10476) (by simp)) r10483) (arr_rd (by decide) hl10537 (hL (Arr v10477 1 c10478) (by simp)) r10484) hq10536)) rfl rfl ?_)
              rintro _ wd10550 ⟨v10538, c10539, v10540, c10541, v10542, c10543, x10544, x10545, x10546, rfl, rfl, r10547, r10548, r10549, H⟩
              try dsimp only at ho10440
              replace H := hback H
              replace r10547 := rdL.flat (ρ := ρ') (ρ' := ρ) (flat_A _ (flat_I _)) r10547
              replace r10548 := rdL.flat (ρ := ρ') (ρ' := ρ) (flat_I _) r10548
              replace r10549 := rdL.flat (ρ := ρ') (ρ' := ρ) (flat_I _) r10549
              dsimp only [List.cons_append, List.nil_append] at H
              refine ⟨H.okS (by simp), ?_⟩
              refine d1 (de rfl (E_stB (k := 7) (cs := [v10458, v10460, v10462]) (vs' := [v10458, v10460, v10462]) H rfl ty25 rfl rfl rfl rfl (one_cons (arr_cells (H.ok.get (k := 11) rfl)).2 (one_cons (arr_cells (H.ok.get (k := 12) rfl)).2 (one_cons (arr_cells (H.ok.get (k := 13) rfl)).2 one_nil))) (by simp) rfl) rfl rfl ?_)
              rintro _ wd10551 H
              dsimp only [List.set] at H
              refine ⟨H.okS (by simp), ?_⟩
              refine d1 (de rfl (E_stB (k := 6) (cs := [v10538, v10540, v10542]) (vs' := [v10538, v10540, v10542]) H rfl ty25 rfl rfl rfl rfl (one_cons (arr_cells (H.ok.get (k := 0) rfl)).2 (one_cons (arr_cells (H.ok.get (k := 1) rfl)).2 (one_cons (arr_cells (H.ok.get (k := 2) rfl)).2 one_nil))) (by simp) rfl) rfl rfl ?_)
              rintro _ wd10552 H
              dsimp only [List.set] at H
              refine ⟨H.okS (by simp), ?_⟩
              refine DL_nil ?_
              replace H := H.f10
              replace H := H.f10
              replace H := H.f10
              replace H := H.front 18 rfl
              dsimp only [List.eraseIdx] at H
              replace H := H.f6
              replace H := H.f6
              replace H := H.f6
              replace H := H.f10
              replace H := H.f14
              replace H := H.f14
              replace H := H.f14
              replace H := H.f14
              replace H := H.drop 12 rfl
              dsimp only [List.eraseIdx] at H
              replace H := H.drop 12 rfl
              dsimp only [List.eraseIdx] at H
              replace H := H.drop 12 rfl
              dsimp only [List.eraseIdx] at H
              replace H := H.drop 12 rfl
              dsimp only [List.eraseIdx] at H
              replace H := H.drop 12 rfl
              dsimp only [List.eraseIdx] at H
              replace H := H.drop 12 rfl
              dsimp only [List.eraseIdx] at H
              replace H := H.drop 12 rfl
              dsimp only [List.eraseIdx] at H
              obtain rfl := Option.some.inj ho10440
              refine x_A fun a hf => ⟨b10513, v10458, c10459, v10460, c10461, v10462, c10463, b10534, v10538, c10539, v10540, c10541, v10542, c10543, x10464, x10465, x10466, x10544, x10545, x10546, rfl, r10467, r10468, r10469, r10547, r10548, r10549, hf.sub ⟨rfl, rfl, rfl, trivial⟩, H⟩
            ·refine de rfl (E_alloc H ty25 (zs := [.slice none 0 0, .slice none 0 0, .slice none 0 0]) rfl) rfl rfl ?_
             rintro _ wd10554 ⟨b10553, rfl, H⟩
             refine ⟨H.okS (by simp), ?_⟩
             refine d2 ?_ ?_
             ·replace H := H.f3
              replace H := H.f3
              replace H := H.f3
              obtain ⟨q10555, hq10555, ho10440⟩ := bnd ho10440
              obtain ⟨C', ρ', hl10556, HA, hL, hback⟩ := Hp.lend (A := []) (L := [Arr v10473 256 c10474, Arr v10475 1 c10476, Arr v10477 1 c10478]) (F := Box b10553 [.slice none 0 0, .slice none 0 0, .slice none 0 0] :: Arr v5997 256 c7473 :: Arr v6001 1 c7476 :: Arr v9100 1 c9101 :: Arr v10458 256 c10459 :: Arr v10460 1 c10461 :: Arr v10462 1 c10463 :: Arr v10443 256 c10444 :: Arr v10445 1 c10446 :: Arr v10447 1 c10448 :: Box b5809 [v1, v4, v7] :: Box b5996 [v5997, v6001, v9100] :: hs) H
              refine de rfl (E_call fn16 rfl (c_16 HA (gl0.up hl10556) (arr_rd (by decide) hl10556 (hL (Arr v10473 256 c10474) (by simp)) r10482) (arr_rd (by decide) hl10556 (hL (Arr v10475 1 c10476) (by simp)) r10483) (arr_rd (by decide) hl10556 (hL (Arr v10477 1 c10478) (by simp)) r10484) hq10555)) rfl rfl ?_
              rintro _ wd10569 ⟨v10557, c10558, v10559, c10560, v10561, c10562, x10563, x10564, x10565, rfl, rfl, r10566, r10567, r10568, H⟩
              try dsimp only at ho10440
              replace H := hback H
              replace r10566 := rdL.flat (ρ := ρ') (ρ' := ρ) (flat_A _ (flat_I _)) r10566
              replace r10567 := rdL.flat (ρ := ρ') (ρ' := ρ) (flat_I _) r10567
              replace r10568 := rdL.flat (ρ := ρ') (ρ' := ρ) (flat_I _) r10568
              dsimp only [List.cons_append, List.nil_append] at H
              refine ⟨H.okS (by simp), ?_⟩
              refine d1 (de rfl (E_alloc H ty25 (zs := [.slice none 0 0, .slice none 0 0, .slice none 0 0]) rfl) rfl rfl ?_)
              rintro _ wd10571 ⟨b10570, rfl, H⟩
              refine ⟨H.okS (by simp), ?_⟩
              refine d1 (de rfl (E_stB (k := 0) (cs := [v10458, v10460, v10462]) (vs' := [v10458, v10460, v10462]) H rfl ty25 rfl rfl rfl rfl (one_cons (arr_cells (H.ok.get (k := 11) rfl)).2 (one_cons (arr_cells (H.ok.get (k := 12) rfl)).2 (one_cons (arr_cells (H.ok.get (k := 13) rfl)).2 one_nil))) (by simp) rfl) rfl rfl ?_)
              rintro _ wd10572 H
              dsimp only [List.set] at H
              refine ⟨H.okS (by simp), ?_⟩
              refine d1 (de rfl (E_stB (k := 7) (cs := [v10557, v10559, v10561]) (vs' := [v10557, v10559, v10561]) H rfl ty25 rfl rfl rfl rfl (one_cons (arr_cells (H.ok.get (k := 1) rfl)).2 (one_cons (arr_cells (H.ok.get (k := 2) rfl)).2 (one_cons (arr_cells (H.ok.get (k := 3) rfl)).2 one_nil))) (by simp) rfl) rfl rfl ?_)
              rintro _ wd10573 H
              dsimp only [List.set] at H
              refine ⟨H.okS (by simp), ?_⟩
              refine DL_nil ?_
              replace H := H.f10
              replace H := H.f10
              replace H := H.f10
              replace H := H.front 18 rfl
              dsimp only [List.eraseIdx] at H
              replace H := H.f7
              replace H := H.f7
              replace H := H.f7
              replace H := H.f11
              replace H := H.f14
              replace H := H.f14
              replace H := H.f14
              replace H := H.f11
              replace H := H.drop 12 rfl
              dsimp only [List.eraseIdx] at H
              replace H := H.drop 12 rfl
              dsimp only [List.eraseIdx] at H
              replace H := H.drop 12 rfl
              dsimp only [List.eraseIdx] at H
              replace H := H.drop 12 rfl
              dsimp only [List.eraseIdx] at H
              replace H := H.drop 12 rfl
              dsimp only [List.eraseIdx] at H
              replace H := H.drop 12 rfl
              dsimp only [List.eraseIdx] at H
              replace H := H.drop 12 rfl
              dsimp only [List.eraseIdx] at H
              obtain rfl := Option.some.inj ho10440
              refine x_A fun a hf => ⟨b10570, v10458, c10459, v10460, c10461, v10462, c10463, b10553, v10557, c10558, v10559, c10560, v10561, c10562, x10464, x10465, x10466, x10563, x10564, x10565, rfl, r10467, r10468, r10469, r10566, r10567, r10568, hf.sub ⟨rfl, rfl, rfl, trivial⟩, H⟩
             ·refine de rfl (E_alloc H ty25 (zs := [.slice none 0 0, .slice none 0 0, .slice none 0 0]) rfl) rfl rfl ?_
              rintro _ wd10575 ⟨b10574, rfl, H⟩
              refine ⟨H.okS (by simp), ?_⟩
              replace H := H.f4
              replace H := H.f4
              replace H := H.f4
              obtain ⟨q10576, hq10576, ho10440⟩ := bnd ho10440
              obtain ⟨C', ρ', hl10577, HA, hL, hback⟩ := Hp.lend (A := []) (L := [Arr v10473 256 c10474, Arr v10475 1 c10476, Arr v10477 1 c10478]) (F := Box b10574 [.slice none 0 0, .slice none 0 0, .slice none 0 0] :: Box b10553 [.slice none 0 0, .slice none 0 0, .slice none 0 0] :: Arr v5997 256 c7473 :: Arr v6001 1 c7476 :: Arr v9100 1 c9101 :: Arr v10458 256 c10459 :: Arr v10460 1 c10461 :: Arr v10462 1 c10463 :: Arr v10443 256 c10444 :: Arr v10445 1 c10446 :: Arr v10447 1 c10448 :: Box b5809 [v1, v4, v7] :: Box b5996 [v5997, v6001, v9100] :: hs) H
              refine d1 (de rfl (E_call fn16 rfl (c_16 HA (gl0.up hl10577) (arr_rd (by decide) hl10577 (hL (Arr v10473 256 c10474) (by simp)) r10482) (arr_rd (by decide) hl10577 (hL (Arr v10475 1 c10476) (by simp)) r10483) (arr_rd (by decide) hl10577 (hL (Arr v10477 1 c10478) (by simp)) r10484) hq10576)) rfl rfl ?_)
              rintro _ wd10590 ⟨v10578, c10579, v10580, c10581, v10582, c10583, x10584, x10585, x10586, rfl, rfl, r10587, r10588, r10589, H⟩
              try dsimp only at ho10440
              replace H := hback H
              replace r10587 := rdL.flat (ρ := ρ') (ρ' := ρ) (flat_A _ (flat_I _)) r10587
              replace r10588 := rdL.flat (ρ := ρ') (ρ' := ρ) (flat_I _) r10588
              replace r10589 := rdL.flat (ρ := ρ') (ρ' := ρ) (flat_I _) r10589
              dsimp only [List.cons_append, List.nil_append] at H
              refine ⟨H.okS (by simp), ?_⟩
              refine d1 (de rfl (E_stB (k := 6) (cs := [v10458, v10460, v10462]) (vs' := [v10458, v10460, v10462]) H rfl ty25 rfl rfl rfl rfl (one_cons (arr_cells (H.ok.get (k := 11) rfl)).2 (one_cons (arr_cells (H.ok.get (k := 12) rfl)).2 (one_cons (arr_cells (H.ok.get (k := 13) rfl)).2 one_nil))) (by simp) rfl) rfl rfl ?_)
              rintro _ wd10591 H
              dsimp only [List.set] at H
              refine ⟨H.okS (by simp), ?_⟩
              refine d1 (de rfl (E_stB (k := 7) (cs := [v10578, v10580, v10582]) (vs' := [v10578, v10580, v10582]) H rfl ty25 rfl rfl rfl rfl (one_cons (arr_cells (H.ok.get (k := 0) rfl)).2 (one_cons (arr_cells (H.ok.get (k := 1) rfl)).2 (one_cons (arr_cells (H.ok.get (k := 2) rfl)).2 one_nil))) (by simp) rfl) rfl rfl ?_)
              rintro _ wd10592 H
              dsimp only [List.set] at H
              refine ⟨H.okS (by simp), ?_⟩
              refine DL_nil ?_
              replace H := H.f10
              replace H := H.f10
              replace H := H.f10
              replace H := H.front 18 rfl
              dsimp only [List.eraseIdx] at H
              replace H := H.f6
              replace H := H.f6
              replace H := H.f6
              replace H := H.f11
              replace H := H.f14
              replace H := H.f14
              replace H := H.f14
              replace H := H.f14
              replace H := H.drop 12 rfl
              dsimp only [List.eraseIdx] at H
              replace H := H.drop 12 rfl
              dsimp only [List.eraseIdx] at H
              replace H := H.drop 12 rfl
              dsimp only [List.eraseIdx] at H
              replace H := H.drop 12 rfl
              dsimp only [List.eraseIdx] at H
              replace H := H.drop 12 rfl
              dsimp only [List.eraseIdx] at H
              replace H := H.drop 12 rfl
              dsimp only [List.eraseIdx] at H
              replace H := H.drop 12 rfl
              dsimp only [List.eraseIdx] at H
              obtain rfl := Option.some.inj ho10440
              refine x_A fun a hf => ⟨b10574, v10458, c10459, v10460, c10461, v10462, c10463, b10553, v10578, c10579, v10580, c10581, v10582, c10583, x10464, x10465, x10466, x10584, x10585, x10586, rfl, r10467, r10468, r10469, r10587, r10588, r10589, hf.sub ⟨rfl, rfl, rfl, trivial⟩, H⟩
           ·refine de rfl (E_alloc H ty25 (zs := [.slice none 0 0, .slice none 0 0, .slice none 0 0]) rfl) rfl rfl ?_
            rintro _ wd10594 ⟨b10593, rfl, H⟩
            refine ⟨H.okS (by simp), ?_⟩
            refine d2 ?_ ?_
            ·replace H := H.f11
             replace H := H.f11
             replace H := H.f11
             obtain ⟨q10595, hq10595, ho10440⟩ := bnd ho10440
             obtain ⟨C', ρ', hl10596, HA, hL, hback⟩ := Hp.lend (A := []) (L := [Arr v5997 256 c7473, Arr v6001 1 c7476, Arr v9100 1 c9101]) (F := Box b10593 [.slice none 0 0, .slice none 0 0, .slice none 0 0] :: Arr v10458 256 c10459 :: Arr v10460 1 c10461 :: Arr v10462 1 c10463 :: Arr v10443 256 c10444 :: Arr v10445 1 c10446 :: Arr v10447 1 c10448 :: Box b5809 [v1, v4, v7] :: Box b5996 [v5997, v6001, v9100] :: hs) H
             refine de rfl (E_call fn45 rfl (c_45 HA (gl0.up hl10596) (GTab.up hl10596 gl1) (arr_rd (by decide) hl10596 (hL (Arr v5997 256 c7473) (by simp)) r7475) (arr_rd (by decide) hl10596 (hL (Arr v6001 1 c7476) (by simp)) r7478) (arr_rd (by decide) hl10596 (hL (Arr v9100 1 c9101) (by simp)) r9103) hq10595)) rfl rfl ?_
             rintro _ wd10609 ⟨v10597, c10598, v10599, c10600, v10601, c10602, x10603, x10604, x10605, rfl, rfl, r10606, r10607, r10608, H⟩
             try dsimp only at ho10440
             replace H := hback H
             replace r10606 := rdL.flat (ρ := ρ') (ρ' := ρ) (flat_A _ (flat_I _)) r10606
             replace r10607 := rdL.flat (ρ := ρ') (ρ' := ρ) (flat_I _) r10607
             replace r10608 := rdL.flat (ρ := ρ') (ρ' := ρ) (flat_I _) r10608
             dsimp only [List.cons_append, List.nil_append] at H
             refine ⟨H.okS (by simp), ?_⟩
             refine d2 ?_ ?_
             ·replace H := H.f2
              replace H := H.f2
              replace H := H.f2
              obtain ⟨q10610, hq10610, ho10440⟩ := bnd ho10440
              obtain ⟨C', ρ', hl10611, HA, hL, hback⟩ := Hp.lend (A := []) (L := [Arr v10597 256 c10598, Arr v10599 1 c10600, Arr v10601 1 c10602]) (F := Arr v5997 256 c7473 :: Arr v6001 1 c7476 :: Arr v9100 1 c9101 :: Box b10593 [.slice none 0 0, .slice none 0 0, .slice none 0 0] :: Arr v10458 256 c10459 :: Arr v10460 1 c10461 :: Arr v10462 1 c10463 :: Arr v10443 256 c10444 :: Arr v10445 1 c10446 :: Arr v10447 1 c10448 :: Box b5809 [v1, v4, v7] :: Box b5996 [v5997, v6001, v9100] :: hs) H
              refine de rfl (E_call fn16 rfl (c_16 HA (gl0.up hl10611) (arr_rd (by decide) hl10611 (hL (Arr v10597 256 c10598) (by simp)) r10606) (arr_rd (by decide) hl10611 (hL (Arr v10599 1 c10600) (by simp)) r10607) (arr_rd (by decide) hl10611 (hL (Arr v10601 1 c10602) (by simp)) r10608) hq10610)) rfl rfl ?_
              rintro _ wd10624 ⟨v10612, c10613, v10614, c10615, v10616, c10617, x10618, x10619, x10620, rfl, rfl, r10621, r10622, r10623, H⟩
              try dsimp only at ho10440
              replace H := hback H
              replace r10621 := rdL.flat (ρ := ρ') (ρ' := ρ) (flat_A _ (flat_I _)) r10621
              replace r10622 := rdL.flat (ρ := ρ') (ρ' := ρ) (flat_I _) r10622
              replace r10623 := rdL.flat (ρ := ρ') (ρ' := ρ) (flat_I _) r10623
              dsimp only [List.cons_append, List.nil_append] at H
              refine ⟨H.okS (by simp), ?_⟩
              refine d1 (de rfl (E_alloc H ty25 (zs := [.slice none 0 0, .slice none 0 0, .slice none 0 0]) rfl) rfl rfl ?_)
              rintro _ wd10626 ⟨b10625, rfl, H⟩
              refine ⟨H.okS (by simp), ?_⟩
              refine d1 (de rfl (E_stB (k := 10) (cs := [v10458, v10460, v10462]) (vs' := [v10458, v10460, v10462]) H rfl ty25 rfl rfl rfl rfl (one_cons (arr_cells (H.ok.get (k := 11) rfl)).2 (one_cons (arr_cells (H.ok.get (k := 12) rfl)).2 (one_cons (arr_cells (H.ok.get (k := 13) rfl)).2 one_nil))) (by simp) rfl) rfl rfl ?_)
              rintro _ wd10627 H
              dsimp only [List.set] at H
              refine ⟨H.okS (by simp), ?_⟩
              refine d1 (de rfl (E_stB (k := 0) (cs := [v10612, v10614, v10616]) (vs' := [v10612, v10614, v10616]) H rfl ty25 rfl rfl rfl rfl (one_cons (arr_cells (H.ok.get (k := 1) rfl)).2 (one_cons (arr_cells (H.ok.get (k := 2) rfl)).2 (one_cons (arr_cells (H.ok.get (k := 3) rfl)).2 one_nil))) (by simp) rfl) rfl rfl ?_)
              rintro _ wd10628 H
              dsimp only [List.set] at H
              refine ⟨H.okS (by simp), ?_⟩
              refine DL_nil ?_
              replace H := H.f9
              replace H := H.f9
              replace H := H.f9
              replace H := H.front 18 rfl
              dsimp only [List.eraseIdx] at H
              replace H := H.f7
              replace H := H.f7
              replace H := H.f7
              replace H := H.f7
              replace H := H.f14
              replace H := H.f14
              replace H := H.f14
              replace H := H.f14
              replace H := H.drop 12 rfl
              dsimp only [List.eraseIdx] at H
              replace H := H.drop 12 rfl
              dsimp only [List.eraseIdx] at H
              replace H := H.drop 12 rfl
              dsimp only [List.eraseIdx] at H
              replace H := H.drop 12 rfl
              dsimp only [List.eraseIdx] at H
              replace H := H.drop 12 rfl
              dsimp only [List.eraseIdx] at H
              replace H := H.drop 12 rfl
              dsimp only [List.eraseIdx] at H
              replace H := H.drop 12 rfl
              dsimp only [List.eraseIdx] at H
              obtain rfl := Option.some.inj ho10440
              refine x_A fun a hf => ⟨b10593, v10458, c10459, v10460, c10461, v10462, c10463, b10625, v10612, c10613, v10614, c10615, v10616, c10617, x10464, x10465, x10466, x10618, x10619, x10620, rfl, r10467, r10468, r10469, r10621, r10622, r10623, hf.sub ⟨rfl, rfl, rfl, trivial⟩, H⟩
             ·refine de rfl (E_alloc H ty25 (zs := [.slice none 0 0, .slice none 0 0, .slice none 0 0]) rfl) rfl rfl ?_
              rintro _ wd10630 ⟨b10629, rfl, H⟩
              refine ⟨H.okS (by simp), ?_⟩
              replace H := H.f3
              replace H := H.f3
              replace H := H.f3
              obtain ⟨q10631, hq10631, ho10440⟩ := bnd ho10440
              obtain ⟨C', ρ', hl10632, HA, hL, hback⟩ := Hp.lend (A := []) (L := [Arr v10597 256 c10598, Arr v10599 1 c10600, Arr v10601 1 c10602]) (F := Box b10629 [.slice none 0 0, .slice none 0 0, .slice none 0 0] :: Arr v5997 256 c7473 :: Arr v6001 1 c7476 :: Arr v9100 1 c9101 :: Box b10593 [.slice none 0 0, .slice none 0 0, .slice none 0 0] :: Arr v10458 256 c10459 :: Arr v10460 1 c10461 :: Arr v10462 1 c10463 :: Arr v10443 256 c10444 :: Arr v10445 1 c10446 :: Arr v10447 1 c10448 :: Box b5809 [v1, v4, v7] :: Box b5996 [v5997, v6001, v9100] :: hs) H
              refine d1 (de rfl (E_call fn16 rfl (c_16 HA (gl0.up hl10632) (arr_rd (by decide) hl10632 (hL (Arr v10597 256 c10598) (by simp)) r10606) (arr_rd (by decide) hl10632 (hL (Arr v10599 1 c10600) (by simp)) r10607) (arr_rd (by decide) hl10632 (hL (Arr v10601 1 c10602) (by simp)) r10608) hq10631)) rfl rfl ?_)
              rintro _ wd10645 ⟨v10633, c10634, v10635, c10636, v10637, c10638, x10639, x10640, x10641, rfl, rfl, r10642, r10643, r10644, H⟩
              try dsimp only at ho10440
              replace H := hback H
              replace r10642 := rdL.flat (ρ := ρ') (ρ' := ρ) (flat_A _ (flat_I _)) r10642
              replace r10643 := rdL.flat (ρ := ρ') (ρ' := ρ) (flat_I _) r10643
              replace r10644 := rdL.flat (ρ := ρ') (ρ' := ρ) (flat_I _) r10644
              dsimp only [List.cons_append, List.nil_append] at H
              refine ⟨H.okS (by simp), ?_⟩
              refine d1 (de rfl (E_stB (k := 10) (cs := [v10458, v10460, v10462]) (vs' := [v10458, v10460, v10462]) H rfl ty25 rfl rfl rfl rfl (one_cons (arr_cells (H.ok.get (k := 11) rfl)).2 (one_cons (arr_cells (H.ok.get (k := 12) rfl)).2 (one_cons (arr_cells (H.ok.get (k := 13) rfl)).2 one_nil))) (by simp) rfl) rfl rfl ?_)
              rintro _ wd10646 H
              dsimp only [List.set] at H
              refine ⟨H.okS (by simp), ?_⟩
              refine d1 (de rfl (E_stB (k := 6) (cs := [v10633, v10635, v10637]) (vs' := [v10633, v10635, v10637]) H rfl ty25 rfl rfl rfl rfl (one_cons (arr_cells (H.ok.get (k := 0) rfl)).2 (one_cons (arr_cells (H.ok.get (k := 1) rfl)).2 (one_cons (arr_cells (H.ok.get (k := 2) rfl)).2 one_nil))) (by simp) rfl) rfl rfl ?_)
              rintro _ wd10647 H
              dsimp only [List.set] at H
              refine ⟨H.okS (by simp), ?_⟩
              refine DL_nil ?_
              replace H := H.f9
              replace H := H.f9
              replace H := H.f9
              replace H := H.front 18 rfl
              dsimp only [List.eraseIdx] at H
              replace H := H.f6
              replace H := H.f6
              replace H := H.f6
              replace H := H.f10
              replace H := H.f14
              replace H := H.f14
              replace H := H.f14
              replace H := H.f14
              replace H := H.drop 12 rfl
              dsimp only [List.eraseIdx] at H
              replace H := H.drop 12 rfl
              dsimp only [List.eraseIdx] at H
              replace H := H.drop 12 rfl
              dsimp only [List.eraseIdx] at H
              replace H := H.drop 12 rfl
              dsimp only [List.eraseIdx] at H
              replace H := H.drop 12 rfl
              dsimp only [List.eraseIdx] at H
              replace H := H.drop 12 rfl
              dsimp only [List.eraseIdx] at H
              replace H := H.drop 12 rfl
              dsimp only [List.eraseIdx] at H
              obtain rfl := Option.some.inj ho10440
              refine x_A fun a hf => ⟨b10593, v10458, c10459, v10460, c10461, v10462, c10463, b10629, v10633, c10634, v10635, c10636, v10637, c10638, x10464, x10465, x10466, x10639, x10640, x10641, rfl, r10467, r10468, r10469, r10642, r10643, r10644, hf.sub ⟨rfl, rfl, rfl, trivial⟩, H⟩
            ·refine de rfl (E_alloc H ty25 (zs := [.slice none 0 0, .slice none 0 0, .slice none 0 0]) rfl) rfl rfl ?_
             rintro _ wd10649 ⟨b10648, rfl, H⟩
             refine ⟨H.okS (by simp), ?_⟩
             replace H := H.f12
             replace H := H.f12
             replace H := H.f12
             obtain ⟨q10650, hq10650, ho10440⟩ := bnd ho10440
             obtain ⟨C', ρ', hl10651, HA, hL, hback⟩ := Hp.lend (A := []) (L := [Arr v5997 256 c7473, Arr v6001 1 c7476, Arr v9100 1 c9101]) (F := Box b10648 [.slice none 0 0, .slice none 0 0, .slice none 0 0] :: Box b10593 [.slice none 0 0, .slice none 0 0, .slice none 0 0] :: Arr v10458 256 c10459 :: Arr v10460 1 c10461 :: Arr v10462 1 c10463 :: Arr v10443 256 c10444 :: Arr v10445 1 c10446 :: Arr v10447 1 c10448 :: Box b5809 [v1, v4, v7] :: Box b5996 [v5997, v6001, v9100] :: hs) H
             refine d1 (de rfl (E_call fn45 rfl (c_45 HA (gl0.up hl10651) (GTab.up hl10651 gl1) (arr_rd (by decide) hl10651 (hL (Arr v5997 256 c7473) (by simp)) r7475) (arr_rd (by decide) hl10651 (hL (Arr v6001 1 c7476) (by simp)) r7478) (arr_rd (by decide) hl10651 (hL (Arr v9100 1 c9101) (by simp)) r9103) hq10650)) rfl rfl ?_)
             rintro _ wd10664 ⟨v10652, c10653, v10654, c10655, v10656, c10657, x10658, x10659, x10660, rfl, rfl, r10661, r10662, r10663, H⟩
             try dsimp only at ho10440
             replace H := hback H
             replace r10661 := rdL.flat (ρ := ρ') (ρ' := ρ) (flat_A _ (flat_I _)) r10661
             replace r10662 := rdL.flat (ρ := ρ') (ρ' := ρ) (flat_I _) r10662
             replace r10663 := rdL.flat (ρ := ρ') (ρ' := ρ) (flat_I _) r10663
             dsimp only [List.cons_append, List.nil_append] at H
             refine ⟨H.okS (by simp), ?_⟩
             replace H := H.f2
             replace H := H.f2
             replace H := H.f2
             obtain ⟨q10665, hq10665, ho10440⟩ := bnd ho10440
             obtain ⟨C', ρ', hl10666, HA, hL, hback⟩ := Hp.lend (A := []) (L := [Arr v10652 256 c10653, Arr v10654 1 c10655, Arr v10656 1 c10657]) (F := Arr v5997 256 c7473 :: Arr v6001 1 c7476 :: Arr v9100 1 c9101 :: Box b10648 [.slice none 0 0, .slice none 0 0, .slice none 0 0] :: Box b10593 [.slice none 0 0, .slice none 0 0, .slice none 0 0] :: Arr v10458 256 c10459 :: Arr v10460 1 c10461 :: Arr v10462 1 c10463 :: Arr v10443 256 c10444 :: Arr v10445 1 c10446 :: Arr v10447 1 c10448 :: Box b5809 [v1, v4, v7] :: Box b5996 [v5997, v6001, v9100] :: hs) H
             refine d1 (de rfl (E_call fn16 rfl (c_16 HA (gl0.up hl10666) (arr_rd (by decide) hl10666 (hL (Arr v10652 256 c10653) (by simp)) r10661) (arr_rd (by decide) hl10666 (hL (Arr v10654 1 c10655) (by simp)) r10662) (arr_rd (by decide) hl10666 (hL (Arr v10656 1 c10657) (by simp)) r10663) hq10665)) rfl rfl ?_)
             rintro _ wd10679 ⟨v10667, c10668, v10669, c10670, v10671, c10672, x10673, x10674, x10675, rfl, rfl, r10676, r10677, r10678, H⟩
             try dsimp only at ho10440
             replace H := hback H
             replace r10676 := rdL.flat (ρ := ρ') (ρ' := ρ) (flat_A _ (flat_I _)) r10676
             replace r10677 := rdL.flat (ρ := ρ') (ρ' := ρ) (flat_I _) r10677
             replace r10678 := rdL.flat (ρ := ρ') (ρ' := ρ) (flat_I _) r10678
             dsimp only [List.cons_append, List.nil_append] at H
             refine ⟨H.okS (by simp), ?_⟩
             refine d1 (de rfl (E_stB (k := 10) (cs := [v10458, v10460, v10462]) (vs' := [v10458, v10460, v10462]) H rfl ty25 rfl rfl rfl rfl (one_cons (arr_cells (H.ok.get (k := 11) rfl)).2 (one_cons (arr_cells (H.ok.get (k := 12) rfl)).2 (one_cons (arr_cells (H.ok.get (k := 13) rfl)).2 one_nil))) (by simp) rfl) rfl rfl ?_)
             rintro _ wd10680 H
             dsimp only [List.set] at H
             refine ⟨H.okS (by simp), ?_⟩
             refine d1 (de rfl (E_stB (k := 9) (cs := [v10667, v10669, v10671]) (vs' := [v10667, v10669, v10671]) H rfl ty25 rfl rfl rfl rfl (one_cons (arr_cells (H.ok.get (k := 0) rfl)).2 (one_cons (arr_cells (H.ok.get (k := 1) rfl)).2 (one_cons (arr_cells (H.ok.get (k := 2) rfl)).2 one_nil))) (by simp) rfl) rfl rfl ?_)
             rintro _ wd10681 H
             dsimp only [List.set] at H
             refine ⟨H.okS (by simp), ?_⟩
             refine DL_nil ?_
             replace H := H.f8
             replace H := H.f8
             replace H := H.f8
             replace H := H.front 18 rfl
             dsimp only [List.eraseIdx] at H
             replace H := H.f6
             replace H := H.f6
             replace H := H.f6
             replace H := H.f10
             replace H := H.f14
             replace H := H.f14
             replace H := H.f14
             replace H := H.f14
             replace H := H.drop 12 rfl
             dsimp only [List.eraseIdx] at H
             replace H := H.drop 12 rfl
             dsimp only [List.eraseIdx] at H
             replace H := H.drop 12 rfl
             dsimp only [List.eraseIdx] at H
             replace H := H.drop 12 rfl
             dsimp only [List.eraseIdx] at H
             replace H := H.drop 12 rfl
             dsimp only [List.eraseIdx] at H
             replace H := H.drop 12 rfl
             dsimp only [List.eraseIdx] at H
             replace H := H.drop 12 rfl
             dsimp only [List.eraseIdx] at H
             obtain rfl := Option.some.inj ho10440
             refine x_A fun a hf => ⟨b10593, v10458, c10459, v10460, c10461, v10462, c10463, b10648, v10667, c10668, v10669, c10670, v10671, c10672, x10464, x10465, x10466, x10673, x10674, x10675, rfl, r10467, r10468, r10469, r10676, r10677, r10678, hf.sub ⟨rfl, rfl, rfl, trivial⟩, H⟩
           ·refine de rfl (E_alloc H ty25 (zs := [.slice none 0 0, .slice none 0 0, .slice none 0 0]) rfl) rfl rfl ?_
            rintro _ wd10683 ⟨b10682, rfl, H⟩
            refine ⟨H.okS (by simp), ?_⟩
            refine d2 ?_ ?_
            ·replace H := H.f11
             replace H := H.f11
             replace H := H.f11
             obtain ⟨q10684, hq10684, ho10440⟩ := bnd ho10440
             obtain ⟨C', ρ', hl10685, HA, hL, hback⟩ := Hp.lend (A := []) (L := [Arr v5997 256 c7473, Arr v6001 1 c7476, Arr v9100 1 c9101]) (F := Box b10682 [.slice none 0 0, .slice none 0 0, .slice none 0 0] :: Arr v10458 256 c10459 :: Arr v10460 1 c10461 :: Arr v10462 1 c10463 :: Arr v10443 256 c10444 :: Arr v10445 1 c10446 :: Arr v10447 1 c10448 :: Box b5809 [v1, v4, v7] :: Box b5996 [v5997, v6001, v9100] :: hs) H
             refine de rfl (E_call fn45 rfl (c_45 HA (gl0.up hl10685) (GTab.up hl10685 gl1) (arr_rd (by decide) hl10685 (hL (Arr v5997 256 c7473) (by simp)) r7475) (arr_rd (by decide) hl10685 (hL (Arr v6001 1 c7476) (by simp)) r7478) (arr_rd (by decide) hl10685 (hL (Arr v9100 1 c9101) (by simp)) r9103) hq10684)) rfl rfl ?_
             rintro _ wd10698 ⟨v10686, c10687, v10688, c10689, v10690, c10691, x10692, x10693, x10694, rfl, rfl, r10695, r10696, r10697, H⟩
             try dsimp only at ho10440
             replace H := hback H
             replace r10695 := rdL.flat (ρ := ρ') (ρ' := ρ) (flat_A _ (flat_I _)) r10695
             replace r10696 := rdL.flat (ρ := ρ') (ρ' := ρ) (flat_I _) r10696
             replace r10697 := rdL.flat (ρ := ρ') (ρ' := ρ) (flat_I _) r10697
             dsimp only [List.cons_append, List.nil_append] at H
             refine ⟨H.okS (by simp), ?_⟩
             refine d2 ?_ ?_
             ·replace H := H.f2
              replace H := H.f2
              replace H := H.f2
              obtain ⟨q10699, hq10699, ho10440⟩ := bnd ho10440
              obtain ⟨C', ρ', hl10700, HA, hL, hback⟩ := Hp.lend (A := []) (L := [Arr v10686 256 c10687, Arr v10688 1 c10689, Arr v10690 1 c10691]) (F := Arr v5997 256 c7473 :: Arr v6001 1 c7476 :: Arr v9100 1 c9101 :: Box b10682 [.slice none 0 0, .slice none 0 0, .slice none 0 0] :: Arr v10458 256 c10459 :: Arr v10460 1 c10461 :: Arr v10462 1 c10463 :: Arr v10443 256 c10444 :: Arr v10445 1 c10446 :: Arr v10447 1 c10448 :: Box b5809 [v1, v4, v7] :: Box b5996 [v5997, v6001, v9100] :: hs) H
              refine de rfl (E_call fn16 rfl (c_16 HA (gl0.up hl10700) (arr_rd (by decide) hl10700 (hL (Arr v10686 256 c10687) (by simp)) r10695) (arr_rd (by decide) hl10700 (hL (Arr v10688 1 c10689) (by simp)) r10696) (arr_rd (by decide) hl10700 (hL (Arr v10690 1 c10691) (by simp)) r10697) hq10699)) rfl rfl ?_
              rintro _ wd10713 ⟨v10701, c10702, v10703, c10704, v10705, c10706, x10707, x10708, x10709, rfl, rfl, r10710, r10711, r10712, H⟩
              try dsimp only at ho10440
              replace H := hback H
              replace r10710 := rdL.flat (ρ := ρ') (ρ' := ρ) (flat_A _ (flat_I _)) r10710
              replace r10711 := rdL.flat (ρ := ρ') (ρ' := ρ) (flat_I _) r10711
              replace r10712 := rdL.flat (ρ := ρ') (ρ' := ρ) (flat_I _) r10712
              dsimp only [List.cons_append, List.nil_append] at H
              refine ⟨H.okS (by simp), ?_⟩
              refine d1 (de rfl (E_alloc H ty25 (zs := [.slice none 0 0, .slice none 0 0, .slice none 0 0]) rfl) rfl rfl ?_)
              rintro _ wd10715 ⟨b10714, rfl, H⟩
              refine ⟨H.okS (by simp), ?_⟩
              refine d1 (de rfl (E_stB (k := 0) (cs := [v10458, v10460, v10462]) (vs' := [v10458, v10460, v10462]) H rfl ty25 rfl rfl rfl rfl (one_cons (arr_cells (H.ok.get (k := 11) rfl)).2 (one_cons (arr_cells (H.ok.get (k := 12) rfl)).2 (one_cons (arr_cells (H.ok.get (k := 13) rfl)).2 one_nil))) (by simp) rfl) rfl rfl ?_)
              rintro _ wd10716 H
              dsimp only [List.set] at H
              refine ⟨H.okS (by simp), ?_⟩
              refine d1 (de rfl (E_stB (k := 10) (cs := [v10701, v10703, v10705]) (vs' := [v10701, v10703, v10705]) H rfl ty25 rfl rfl rfl rfl (one_cons (arr_cells (H.ok.get (k := 1) rfl)).2 (one_cons (arr_cells (H.ok.get (k := 2) rfl)).2 (one_cons (arr_cells (H.ok.get (k := 3) rfl)).2 one_nil))) (by simp) rfl) rfl rfl ?_)
              rintro _ wd10717 H
              dsimp only [List.set] at H
              refine ⟨H.okS (by simp), ?_⟩
              refine DL_nil ?_
              replace H := H.f9
              replace H := H.f9
              replace H := H.f9
              replace H := H.front 18 rfl
              dsimp only [List.eraseIdx] at H
              replace H := H.f7
              replace H := H.f7
              replace H := H.f7
              replace H := H.f11
              replace H := H.f14
              replace H := H.f14
              replace H := H.f14
              replace H := H.f11
              replace H := H.drop 12 rfl
              dsimp only [List.eraseIdx] at H
              replace H := H.drop 12 rfl
              dsimp only [List.eraseIdx] at H
              replace H := H.drop 12 rfl
              dsimp only [List.eraseIdx] at H
              replace H := H.drop 12 rfl
              dsimp only [List.eraseIdx] at H
              replace H := H.drop 12 rfl
              dsimp only [List.eraseIdx] at H
              replace H := H.drop 12 rfl
              dsimp only [List.eraseIdx] at H
              replace H := H.drop 12 rfl
              dsimp only [List.eraseIdx] at H
              obtain rfl := Option.some.inj ho10440
              refine x_A fun a hf => ⟨b10714, v10458, c10459, v10460, c10461, v10462, c10463, b10682, v10701, c10702, v10703, c10704, v10705, c10706, x10464, x10465, x10466, x10707, x10708, x10709, rfl, r10467, r10468, r10469, r10710, r10711, r10712, hf.sub ⟨rfl, rfl, rfl, trivial⟩, H⟩
             ·refine de rfl (E_alloc H ty25 (zs := [.slice none 0 0, .slice none 0 0, .slice none 0 0]) rfl) rfl rfl ?_
              rintro _ wd10719 ⟨b10718, rfl, H⟩
              refine ⟨H.okS (by simp), ?_⟩
              replace H := H.f3
              replace H := H.f3
              replace H := H.f3
              obtain ⟨q10720, hq10720, ho10440⟩ := bnd ho10440
              obtain ⟨C', ρ', hl10721, HA, hL, hback⟩ := Hp.lend (A := []) (L := [Arr v10686 256 c10687, Arr v10688 1 c10689, Arr v10690 1 c10691]) (F := Box b10718 [.slice none 0 0, .slice none 0 0, .slice none 0 0] :: Arr v5997 256 c7473 :: Arr v6001 1 c7476 :: Arr v9100 1 c9101 :: Box b10682 [.slice none 0 0, .slice none 0 0, .slice none 0 0] :: Arr v10458 256 c10459 :: Arr v10460 1 c10461 :: Arr v10462 1 c10463 :: Arr v10443 256 c10444 :: Arr v10445 1 c10446 :: Arr v10447 1 c10448 :: Box b5809 [v1, v4, v7] :: Box b5996 [v5997, v6001, v9100] :: hs) H
              refine d1 (de rfl (E_call fn16 rfl (c_16 HA (gl0.up hl10721) (arr_rd (by decide) hl10721 (hL (Arr v10686 256 c10687) (by simp)) r10695) (arr_rd (by decide) hl10721 (hL (Arr v10688 1 c10689) (by simp)) r10696) (arr_rd (by decide) hl10721 (hL (Arr v10690 1 c10691) (by simp)) r10697) hq10720)) rfl rfl ?_)
              rintro _ wd10734 ⟨v10722, c10723, v10724, c10725, v10726, c10727, x10728, x10729, x10730, rfl, rfl, r10731, r10732, r10733, H⟩
              try dsimp only at ho10440
              replace H := hback H
              replace r10731 := rdL.flat (ρ := ρ') (ρ' := ρ) (flat_A _ (flat_I _)) r10731
              replace r10732 := rdL.flat (ρ := ρ') (ρ' := ρ) (flat_I _) r10732
              replace r10733 := rdL.flat (ρ := ρ') (ρ' := ρ) (flat_I _) r10733
              dsimp only [List.cons_append, List.nil_append] at H
              refine ⟨H.okS (by simp), ?_⟩
              refine d1 (de rfl (E_stB (k := 6) (cs := [v10458, v10460, v10462]) (vs' := [v10458, v10460, v10462]) H rfl ty25 rfl rfl rfl rfl (one_cons (arr_cells (H.ok.get (k := 11) rfl)).2 (one_cons (arr_cells (H.ok.get (k := 12) rfl)).2 (one_cons (arr_cells (H.ok.get (k := 13) rfl)).2 one_nil))) (by simp) rfl) rfl rfl ?_)
              rintro _ wd10735 H
              dsimp only [List.set] at H
              refine ⟨H.okS (by simp), ?_⟩
              refine d1 (de rfl (E_stB (k := 10) (cs := [v10722, v10724, v10726]) (vs' := [v10722, v10724, v10726]) H rfl ty25 rfl rfl rfl rfl (one_cons (arr_cells (H.ok.get (k := 0) rfl)).2 (one_cons (arr_cells (H.ok.get (k := 1) rfl)).2 (one_cons (arr_cells (H.ok.get (k := 2) rfl)).2 one_nil))) (by simp) rfl) rfl rfl ?_)
              rintro _ wd10736 H
              dsimp only [List.set] at H
              refine ⟨H.okS (by simp), ?_⟩
              refine DL_nil ?_
              replace H := H.f9
              replace H := H.f9
              replace H := H.f9
              replace H := H.front 18 rfl
              dsimp only [List.eraseIdx] at H
              replace H := H.f6
              replace H := H.f6
              replace H := H.f6
              replace H := H.f11
              replace H := H.f14
              replace H := H.f14
              replace H := H.f14
              replace H := H.f14
              replace H := H.drop 12 rfl
              dsimp only [List.eraseIdx] at H
              replace H := H.drop 12 rfl
              dsimp only [List.eraseIdx] at H
              replace H := H.drop 12 rfl
              dsimp only [List.eraseIdx] at H
              replace H := H.drop 12 rfl
              dsimp only [List.eraseIdx] at H
              replace H := H.drop 12 rfl
              dsimp only [List.eraseIdx] at H
              replace H := H.drop 12 rfl
              dsimp only [List.eraseIdx] at H
              replace H := H.drop 12 rfl
              dsimp only [List.eraseIdx] at H
              obtain rfl := Option.some.inj ho10440
              refine x_A fun a hf => ⟨b10718, v10458, c10459, v10460, c10461, v10462, c10463, b10682, v10722, c10723, v10724, c10725, v10726, c10727, x10464, x10465, x10466, x10728, x10729, x10730, rfl, r10467, r10468, r10469, r10731, r10732, r10733, hf.sub ⟨rfl, rfl, rfl, trivial⟩, H⟩
            ·refine de rfl (E_alloc H ty25 (zs := [.slice none 0 0, .slice none 0 0, .slice none 0 0]) rfl) rfl rfl ?_
             rintro _ wd10738 ⟨b10737, rfl, H⟩
             refine ⟨H.okS (by simp), ?_⟩
             replace H := H.f12
             replace H := H.f12
             replace H := H.f12
             obtain ⟨q10739, hq10739, ho10440⟩ := bnd ho10440
             obtain ⟨C', ρ', hl10740, HA, hL, hback⟩ := Hp.lend (A := []) (L := [Arr v5997 256 c7473, Arr v6001 1 c7476, Arr v9100 1 c9101]) (F := Box b10737 [.slice none 0 0, .slice none 0 0, .slice none 0 0] :: Box b10682 [.slice none 0 0, .slice none 0 0, .slice none 0 0] :: Arr v10458 256 c10459 :: Arr v10460 1 c10461 :: Arr v10462 1 c10463 :: Arr v10443 256 c10444 :: Arr v10445 1 c10446 :: Arr v10447 1 c10448 :: Box b5809 [v1, v4, v7] :: Box b5996 [v5997, v6001, v9100] :: hs) H
             refine d1 (de rfl (E_call fn45 rfl (c_45 HA (gl0.up hl10740) (GTab.up hl10740 gl1) (arr_rd (by decide) hl10740 (hL (Arr v5997 256 c7473) (by simp)) r7475) (arr_rd (by decide) hl10740 (hL (Arr v6001 1 c7476) (by simp)) r7478) (arr_rd (by decide) hl10740 (hL (Arr v9100 1 c9101) (by simp)) r9103) hq10739)) rfl rfl ?_)
             rintro _ wd10753 ⟨v10741, c10742, v10743, c10744, v10745, c10746, x10747, x10748, x10749, rfl, rfl, r10750, r10751, r10752, H⟩
             try dsimp only at ho10440
             replace H := hback H
             replace r10750 := rdL.flat (ρ := ρ') (ρ' := ρ) (flat_A _ (flat_I _)) r10750
             replace r10751 := rdL.flat (ρ := ρ') (ρ' := ρ) (flat_I _) r10751
             replace r10752 := rdL.flat (ρ := ρ') (ρ' := ρ) (flat_I _) r10752
             dsimp only [List.cons_append, List.nil_append] at H
             refine ⟨H.okS (by simp), ?_⟩
             replace H := H.f2
             replace H := H.f2
             replace H := H.f2
             obtain ⟨q10754, hq10754, ho10440⟩ := bnd ho10440
             obtain ⟨C', ρ', hl10755, HA, hL, hback⟩ := Hp.lend (A := []) (L := [Arr v10741 256 c10742, Arr v10743 1 c10744, Arr v10745 1 c10746]) (F := Arr v5997 256 c7473 :: Arr v6001 1 c7476 :: Arr v9100 1 c9101 :: Box b10737 [.slice none 0 0, .slice none 0 0, .slice none 0 0] :: Box b10682 [.slice none 0 0, .slice none 0 0, .slice none 0 0] :: Arr v10458 256 c10459 :: Arr v10460 1 c10461 :: Arr v10462 1 c10463 :: Arr v10443 256 c10444 :: Arr v10445 1 c10446 :: Arr v10447 1 c10448 :: Box b5809 [v1, v4, v7] :: Box b5996 [v5997, v6001, v9100] :: hs) H
             refine d1 (de rfl (E_call fn16 rfl (c_16 HA (gl0.up hl10755) (arr_rd (by decide) hl10755 (hL (Arr v10741 256 c10742) (by simp)) r10750) (arr_rd (by decide) hl10755 (hL (Arr v10743 1 c10744) (by simp)) r10751) (arr_rd (by decide) hl10755 (hL (Arr v10745 1 c10746) (by simp)) r10752) hq10754)) rfl rfl ?_)
             rintro _ wd10768 ⟨v10756, c10757, v10758, c10759, v10760, c10761, x10762, x10763, x10764, rfl, rfl, r10765, r10766, r10767, H⟩
             try dsimp only at ho10440
             replace H := hback H
             replace r10765 := rdL.flat (ρ := ρ') (ρ' := ρ) (flat_A _ (flat_I _)) r10765
             replace r10766 := rdL.flat (ρ := ρ') (ρ' := ρ) (flat_I _) r10766
             replace r10767 := rdL.flat (ρ := ρ') (ρ' := ρ) (flat_I _) r10767
             dsimp only [List.cons_append, List.nil_append] at H
             refine ⟨H.okS (by simp), ?_⟩
             refine d1 (de rfl (E_stB (k := 9) (cs := [v10458, v10460, v10462]) (vs' := [v10458, v10460, v10462]) H rfl ty25 rfl rfl rfl rfl (one_cons (arr_cells (H.ok.get (k := 11) rfl)).2 (one_cons (arr_cells (H.ok.get (k := 12) rfl)).2 (one_cons (arr_cells (H.ok.get (k := 13) rfl)).2 one_nil))) (by simp) rfl) rfl rfl ?_)
             rintro _ wd10769 H
             dsimp only [List.set] at H
             refine ⟨H.okS (by simp), ?_⟩
             refine d1 (de rfl (E_stB (k := 10) (cs := [v10756, v10758, v10760]) (vs' := [v10756, v10758, v10760]) H rfl ty25 rfl rfl rfl rfl (one_cons (arr_cells (H.ok.get (k := 0) rfl)).2 (one_cons (arr_cells (H.ok.get (k := 1) rfl)).2 (one_cons (arr_cells (H.ok.get (k := 2) rfl)).2 one_nil))) (by simp) rfl) rfl rfl ?_)
             rintro _ wd10770 H
             dsimp only [List.set] at H
             refine ⟨H.okS (by simp), ?_⟩
             refine DL_nil ?_
             replace H := H.f8
             replace H := H.f8
             replace H := H.f8
             replace H := H.front 18 rfl
             dsimp only [List.eraseIdx] at H
             replace H := H.f6
             replace H := H.f6
             replace H := H.f6
             replace H := H.f11
             replace H := H.f14
             replace H := H.f14
             replace H := H.f14
             replace H := H.f14
             replace H := H.drop 12 rfl
             dsimp only [List.eraseIdx] at H
             replace H := H.drop 12 rfl
             dsimp only [List.eraseIdx] at H
             replace H := H.drop 12 rfl
             dsimp only [List.eraseIdx] at H
             replace H := H.drop 12 rfl
             dsimp only [List.eraseIdx] at H
             replace H := H.drop 12 rfl
             dsimp only [List.eraseIdx] at H
             replace H := H.drop 12 rfl
             dsimp only [List.eraseIdx] at H
             replace H := H.drop 12 rfl
             dsimp only [List.eraseIdx] at H
             obtain rfl := Option.some.inj ho10440
             refine x_A fun a hf => ⟨b10737, v10458, c10459, v10460, c10461, v10462, c10463, b10682, v10756, c10757, v10758, c10759, v10760, c10761, x10464, x10465, x10466, x10762, x10763, x10764, rfl, r10467, r10468, r10469, r10765, r10766, r10767, hf.sub ⟨rfl, rfl, rfl, trivial⟩, H⟩
          ·refine de rfl (E_alloc H ty25 (zs := [.slice none 0 0, .slice none 0 0, .slice none 0 0]) rfl) rfl rfl ?_
           rintro _ wd10772 ⟨b10771, rfl, H⟩
           refine ⟨H.okS (by simp), ?_⟩
           refine d2 ?_ ?_
           ·replace H := H.f3
            replace H := H.f3
            replace H := H.f3
            obtain ⟨q10773, hq10773, ho10440⟩ := bnd ho10440
            obtain ⟨C', ρ', hl10774, HA, hL, hback⟩ := Hp.lend (A := []) (L := [Arr v10443 256 c10444, Arr v10445 1 c10446, Arr v10447 1 c10448]) (F := Box b10771 [.slice none 0 0, .slice none 0 0, .slice none 0 0] :: Box b5809 [v1, v4, v7] :: Box b5996 [v5997, v6001, v9100] :: Arr v5997 256 c7473 :: Arr v6001 1 c7476 :: Arr v9100 1 c9101 :: hs) H
            refine de rfl (E_call fn16 rfl (c_16 HA (gl0.up hl10774) (arr_rd (by decide) hl10774 (hL (Arr v10443 256 c10444) (by simp)) r10452) (arr_rd (by decide) hl10774 (hL (Arr v10445 1 c10446) (by simp)) r10453) (arr_rd (by decide) hl10774 (hL (Arr v10447 1 c10448) (by simp)) r10454) hq10773)) rfl rfl ?_
            rintro _ wd10787 ⟨v10775, c10776, v10777, c10778, v10779, c10780, x10781, x10782, x10783, rfl, rfl, r10784, r10785, r10786, H⟩
            try dsimp only at ho10440
            replace H := hback H
            replace r10784 := rdL.flat (ρ := ρ') (ρ' := ρ) (flat_A _ (flat_I _)) r10784
            replace r10785 := rdL.flat (ρ := ρ') (ρ' := ρ) (flat_I _) r10785
            replace r10786 := rdL.flat (ρ := ρ') (ρ' := ρ) (flat_I _) r10786
            dsimp only [List.cons_append, List.nil_append] at H
            refine ⟨H.okS (by simp), ?_⟩
            refine d2 ?_ ?_
            ·replace H := H.f11
             replace H := H.f11
             replace H := H.f11
             obtain ⟨q10788, hq10788, ho10440⟩ := bnd ho10440
             obtain ⟨C', ρ', hl10789, HA, hL, hback⟩ := Hp.lend (A := []) (L := [Arr v5997 256 c7473, Arr v6001 1 c7476, Arr v9100 1 c9101]) (F := Arr v10775 256 c10776 :: Arr v10777 1 c10778 :: Arr v10779 1 c10780 :: Arr v10443 256 c10444 :: Arr v10445 1 c10446 :: Arr v10447 1 c10448 :: Box b10771 [.slice none 0 0, .slice none 0 0, .slice none 0 0] :: Box b5809 [v1, v4, v7] :: Box b5996 [v5997, v6001, v9100] :: hs) H
             refine de rfl (E_call fn45 rfl (c_45 HA (gl0.up hl10789) (GTab.up hl10789 gl1) (arr_rd (by decide) hl10789 (hL (Arr v5997 256 c7473) (by simp)) r7475) (arr_rd (by decide) hl10789 (hL (Arr v6001 1 c7476) (by simp)) r7478) (arr_rd (by decide) hl10789 (hL (Arr v9100 1 c9101) (by simp)) r9103) hq10788)) rfl rfl ?_
             rintro _ wd10802 ⟨v10790, c10791, v10792, c10793, v10794, c10795, x10796, x10797, x10798, rfl, rfl, r10799, r10800, r10801, H⟩
             try dsimp only at ho10440
             replace H := hback H
             replace r10799 := rdL.flat (ρ := ρ') (ρ' := ρ) (flat_A _ (flat_I _)) r10799
             replace r10800 := rdL.flat (ρ := ρ') (ρ' := ρ) (flat_I _) r10800
             replace r10801 := rdL.flat (ρ := ρ') (ρ' := ρ) (flat_I _) r10801
             dsimp only [List.cons_append, List.nil_append] at H
             refine ⟨H.okS (by simp), ?_⟩
             refine d2 ?_ ?_
             ·replace H := H.f2
              replace H := H.f2
              replace H := H.f2
              obtain ⟨q10803, hq10803, ho10440⟩ := bnd ho10440
              obtain ⟨C', ρ', hl10804, HA, hL, hback⟩ := Hp.lend (A := []) (L := [Arr v10790 256 c10791, Arr v10792 1 c10793, Arr v10794 1 c10795]) (F := Arr v5997 256 c7473 :: Arr v6001 1 c7476 :: Arr v9100 1 c9101 :: Arr v10775 256 c10776 :: Arr v10777 1 c10778 :: Arr v10779 1 c10780 :: Arr v10443 256 c10444 :: Arr v10445 1 c10446 :: Arr v10447 1 c10448 :: Box b10771 [.slice none 0 0, .slice none 0 0, .slice none 0 0] :: Box b5809 [v1, v4, v7] :: Box b5996 [v5997, v6001, v9100] :: hs) H
              refine de rfl (E_call fn16 rfl (c_16 HA (gl0.up hl10804) (arr_rd (by decide) hl10804 (hL (Arr v10790 256 c10791) (by simp)) r10799) (arr_rd (by decide) hl10804 (hL (Arr v10792 1 c10793) (by simp)) r10800) (arr_rd (by decide) hl10804 (hL (Arr v10794 1 c10795) (by simp)) r10801) hq10803)) rfl rfl ?_
              rintro _ wd10817 ⟨v10805, c10806, v10807, c10808, v10809, c10810, x10811, x10812, x10813, rfl, rfl, r10814, r10815, r10816, H⟩
              try dsimp only at ho10440
              replace H := hback H
              replace r10814 := rdL.flat (ρ := ρ') (ρ' := ρ) (flat_A _ (flat_I _)) r10814
              replace r10815 := rdL.flat (ρ := ρ') (ρ' := ρ) (flat_I _) r10815
              replace r10816 := rdL.flat (ρ := ρ') (ρ' := ρ) (flat_I _) r10816
              dsimp only [List.cons_append, List.nil_append] at H
              refine ⟨H.okS (by simp), ?_⟩
              refine d1 (de rfl (E_alloc H ty25 (zs := [.slice none 0 0, .slice none 0 0, .slice none 0 0]) rfl) rfl rfl ?_)
              rintro _ wd10819 ⟨b10818, rfl, H⟩
              refine ⟨H.okS (by simp), ?_⟩
              refine d1 (de rfl (E_stB (k := 16) (cs := [v10775, v10777, v10779]) (vs' := [v10775, v10777, v10779]) H rfl ty25 rfl rfl rfl rfl (one_cons (arr_cells (H.ok.get (k := 10) rfl)).2 (one_cons (arr_cells (H.ok.get (k := 11) rfl)).2 (one_cons (arr_cells (H.ok.get (k := 12) rfl)).2 one_nil))) (by simp) rfl) rfl rfl ?_)
              rintro _ wd10820 H
              dsimp only [List.set] at H
              refine ⟨H.okS (by simp), ?_⟩
              refine d1 (de rfl (E_stB (k := 0) (cs := [v10805, v10807, v10809]) (vs' := [v10805, v10807, v10809]) H rfl ty25 rfl rfl rfl rfl (one_cons (arr_cells (H.ok.get (k := 1) rfl)).2 (one_cons (arr_cells (H.ok.get (k := 2) rfl)).2 (one_cons (arr_cells (H.ok.get (k := 3) rfl)).2 one_nil))) (by simp) rfl) rfl rfl ?_)
              rintro _ wd10821 H
              dsimp only [List.set] at H
              refine ⟨H.okS (by simp), ?_⟩
              refine DL_nil ?_
              replace H := H.f9
              replace H := H.f9
              replace H := H.f9
              replace H := H.front 18 rfl
              dsimp only [List.eraseIdx] at H
              replace H := H.f7
              replace H := H.f7
              replace H := H.f7
              replace H := H.f7
              replace H := H.f13
              replace H := H.f13
              replace H := H.f13
              replace H := H.front 17 rfl
              dsimp only [List.eraseIdx] at H
              replace H := H.drop 12 rfl
              dsimp only [List.eraseIdx] at H
              replace H := H.drop 12 rfl
              dsimp only [List.eraseIdx] at H
              replace H := H.drop 12 rfl
              dsimp only [List.eraseIdx] at H
              replace H := H.drop 12 rfl
              dsimp only [List.eraseIdx] at H
              replace H := H.drop 12 rfl
              dsimp only [List.eraseIdx] at H
              replace H := H.drop 12 rfl
              dsimp only [List.eraseIdx] at H
              replace H := H.drop 12 rfl
              dsimp only [List.eraseIdx] at H
              obtain rfl := Option.some.inj ho10440
              refine x_A fun a hf => ⟨b10771, v10775, c10776, v10777, c10778, v10779, c10780, b10818, v10805, c10806, v10807, c10808, v10809, c10810, x10781, x10782, x10783, x10811, x10812, x10813, rfl, r10784, r10785, r10786, r10814, r10815, r10816, hf.sub ⟨rfl, rfl, rfl, trivial⟩, H⟩
             ·refine de rfl (E_alloc H ty25 (zs := [.slice none 0 0, .slice none 0 0, .slice none 0 0]) rfl) rfl rfl ?_
              rintro _ wd10823 ⟨b10822, rfl, H⟩
              refine ⟨H.okS (by simp), ?_⟩
              replace H := H.f3
              replace H := H.f3
              replace H := H.f3
              obtain ⟨q10824, hq10824, ho10440⟩ := bnd ho10440
              obtain ⟨C', ρ', hl10825, HA, hL, hback⟩ := Hp.lend (A := []) (L := [Arr v10790 256 c10791, Arr v10792 1 c10793, Arr v10794 1 c10795]) (F := Box b10822 [.slice none 0 0, .slice none 0 0, .slice none 0 0] :: Arr v5997 256 c7473 :: Arr v6001 1 c7476 :: Arr v9100 1 c9101 :: Arr v10775 256 c10776 :: Arr v10777 1 c10778 :: Arr v10779 1 c10780 :: Arr v10443 256 c10444 :: Arr v10445 1 c10446 :: Arr v10447 1 c10448 :: Box b10771 [.slice none 0 0, .slice none 0 0, .slice none 0 0] :: Box b5809 [v1, v4, v7] :: Box b5996 [v5997, v6001, v9100] :: hs) H
              refine d1 (de rfl (E_call fn16 rfl (c_16 HA (gl0.up hl10825) (arr_rd (by decide) hl10825 (hL (Arr v10790 256 c10791) (by simp)) r10799) (arr_rd (by decide) hl10825 (hL (Arr v10792 1 c10793) (by simp)) r10800) (arr_rd (by decide) hl10825 (hL (Arr v10794 1 c10795) (by simp)) r10801) hq10824)) rfl rfl ?_)
              rintro _ wd10838 ⟨v10826, c10827, v10828, c10829, v10830, c10831, x10832, x10833, x10834, rfl, rfl, r10835, r10836, r10837, H⟩
              try dsimp only at ho10440
              replace H := hback H
              replace r10835 := rdL.flat (ρ := ρ') (ρ' := ρ) (flat_A _ (flat_I _)) r10835
              replace r10836 := rdL.flat (ρ := ρ') (ρ' := ρ) (flat_I _) r10836
              replace r10837 := rdL.flat (ρ := ρ') (ρ' := ρ) (flat_I _) r10837
              dsimp only [List.cons_append, List.nil_append] at H
              refine ⟨H.okS (by simp), ?_⟩
              refine d1 (de rfl (E_stB (k := 16) (cs := [v10775, v10777, v10779]) (vs' := [v10775, v10777, v10779]) H rfl ty25 rfl rfl rfl rfl (one_cons (arr_cells (H.ok.get (k := 10) rfl)).2 (one_cons (arr_cells (H.ok.get (k := 11) rfl)).2 (one_cons (arr_cells (H.ok.get (k := 12) rfl)).2 one_nil))) (by simp) rfl) rfl rfl ?_)
              rintro _ wd10839 H
              dsimp only [List.set] at H
              refine ⟨H.okS (by simp), ?_⟩
              refine d1 (de rfl (E_stB (k := 6) (cs := [v10826, v10828, v10830]) (vs' := [v10826, v10828, v10830]) H rfl ty25 rfl rfl rfl rfl (one_cons (arr_cells (H.ok.get (k := 0) rfl)).2 (one_cons (arr_cells (H.ok.get (k := 1) rfl)).2 (one_cons (arr_cells (H.ok.get (k := 2) rfl)).2 one_nil))) (by simp) rfl) rfl rfl ?_)
              rintro _ wd10840 H
              dsimp only [List.set] at H
              refine ⟨H.okS (by simp), ?_⟩
              refine DL_nil ?_
              replace H := H.f9
              replace H := H.f9
              replace H := H.f9
              replace H := H.front 18 rfl
              dsimp only [List.eraseIdx] at H
              replace H := H.f6
              replace H := H.f6
              replace H := H.f6
              replace H := H.f10
              replace H := H.f13
              replace H := H.f13
              replace H := H.f13
              replace H := H.front 17 rfl
              dsimp only [List.eraseIdx] at H
              replace H := H.drop 12 rfl
              dsimp only [List.eraseIdx] at H
              replace H := H.drop 12 rfl
              dsimp only [List.eraseIdx] at H
              replace H := H.drop 12 rfl
              dsimp only [List.eraseIdx] at H
              replace H := H.drop 12 rfl
              dsimp only [List.eraseIdx] at H
              replace H := H.drop 12 rfl
              dsimp only [List.eraseIdx] at H
              replace H := H.drop 12 rfl
              dsimp only [List.eraseIdx] at H
              replace H := H.drop 12 rfl
              dsimp only [List.eraseIdx] at H
              obtain rfl := Option.some.inj ho10440
              refine x_A fun a hf => ⟨b10771, v10775, c10776, v10777, c10778, v10779, c10780, b10822, v10826, c10827, v10828, c10829, v10830, c10831, x10781, x10782, x10783, x10832, x10833, x10834, rfl, r10784, r10785, r10786, r10835, r10836, r10837, hf.sub ⟨rfl, rfl, rfl, trivial⟩, H⟩
            ·refine de rfl (E_alloc H ty25 (zs := [.slice none 0 0, .slice none 0 0, .slice none 0 0]) rfl) rfl rfl ?_
             rintro _ wd10842 ⟨b10841, rfl, H⟩
             refine ⟨H.okS (by simp), ?_⟩
             replace H := H.f12
             replace H := H.f12
             replace H := H.f12
             obtain ⟨q10843, hq10843, ho10440⟩ := bnd ho10440
             obtain ⟨C', ρ', hl10844, HA, hL, hback⟩ := Hp.lend (A := []) (L := [Arr v5997 256 c7473, Arr v6001 1 c7476, Arr v9100 1 c9101]) (F := Box b10841 [.slice none 0 0, .slice none 0 0, .slice none 0 0] :: Arr v10775 256 c10776 :: Arr v10777 1 c10778 :: Arr v10779 1 c10780 :: Arr v10443 256 c10444 :: Arr v10445 1 c10446 :: Arr v10447 1 c10448 :: Box b10771 [.slice none 0 0, .slice none 0 0, .slice none 0 0] :: Box b5809 [v1, v4, v7] :: Box b5996 [v5997, v6001, v9100] :: hs) H
             refine d1 (de rfl (E_call fn45 rfl (c_45 HA (gl0.up hl10844) (GTab.up hl10844 gl1) (arr_rd (by decide) hl10844 (hL (Arr v5997 256 c7473) (by simp)) r7475) (arr_rd (by decide) hl10844 (hL (Arr v6001 1 c7476) (by simp)) r7478) (arr_rd (by decide) hl10844 (hL (Arr v9100 1 c9101) (by simp)) r9103) hq10843)) rfl rfl ?_)
             rintro _ wd10857 ⟨v10845, c10846, v10847, c10848, v10849, c10850, x10851, x10852, x10853, rfl, rfl, r10854, r10855, r10856, H⟩
             try dsimp only at ho10440
             replace H := hback H
             replace r10854 := rdL.flat (ρ := ρ') (ρ' := ρ) (flat_A _ (flat_I _)) r10854
             replace r10855 := rdL.flat (ρ := ρ') (ρ' := ρ) (flat_I _) r10855
             replace r10856 := rdL.flat (ρ := ρ') (ρ' := ρ) (flat_I _) r10856
             dsimp only [List.cons_append, List.nil_append] at H
             refine ⟨H.okS (by simp), ?_⟩
             replace H := H.f2
             replace H := H.f2
             replace H := H.f2
             obtain ⟨q10858, hq10858, ho10440⟩ := bnd ho10440
             obtain ⟨C', ρ', hl10859, HA, hL, hback⟩ := Hp.lend (A := []) (L := [Arr v10845 256 c10846, Arr v10847 1 c10848, Arr v10849 1 c10850]) (F := Arr v5997 256 c7473 :: Arr v6001 1 c7476 :: Arr v9100 1 c9101 :: Box b10841 [.slice none 0 0, .slice none 0 0, .slice none 0 0] :: Arr v10775 256 c10776 :: Arr v10777 1 c10778 :: Arr v10779 1 c10780 :: Arr v10443 256 c10444 :: Arr v10445 1 c10446 :: Arr v10447 1 c10448 :: Box b10771 [.slice none 0 0, .slice none 0 0, .slice none 0 0] :: Box b5809 [v1, v4, v7] :: Box b5996 [v5997, v6001, v9100] :: hs) H
             refine d1 (de rfl (E_call fn16 rfl (c_16 HA (gl0.up hl10859) (arr_rd (by decide) hl10859 (hL (Arr v10845 256 c10846) (by simp)) r10854) (arr_rd (by decide) hl10859 (hL (Arr v10847 1 c10848) (by simp)) r10855) (arr_rd (by decide) hl10859 (hL (Arr v10849 1 c10850) (by simp)) r10856) hq10858)) rfl rfl ?_)
             rintro _ wd10872 ⟨v10860, c10861, v10862, c10863, v10864, c10865, x10866, x10867, x10868, rfl, rfl, r10869, r10870, r10871, H⟩
             try dsimp only at ho10440
             replace H := hback H
             replace r10869 := rdL.flat (ρ := ρ') (ρ' := ρ) (flat_A _ (flat_I _)) r10869
             replace r10870 := rdL.flat (ρ := ρ') (ρ' := ρ) (flat_I _) r10870
             replace r10871 := rdL.flat (ρ := ρ') (ρ' := ρ) (flat_I _) r10871
             dsimp only [List.cons_append, List.nil_append] at H
             refine ⟨H.okS (by simp), ?_⟩
             refine d1 (de rfl (E_stB (k := 16) (cs := [v10775, v10777, v10779]) (vs' := [v10775, v10777, v10779]) H rfl ty25 rfl rfl rfl rfl (one_cons (arr_cells (H.ok.get (k := 10) rfl)).2 (one_cons (arr_cells (H.ok.get (k := 11) rfl)).2 (one_cons (arr_cells (H.ok.get (k := 12) rfl)).2 one_nil))) (by simp) rfl) rfl rfl ?_)
             rintro _ wd10873 H
             dsimp only [List.set] at H
             refine ⟨H.okS (by simp), ?_⟩
             refine d1 (de rfl (E_stB (k := 9) (cs := [v10860, v10862, v10864]) (vs' := [v10860, v10862, v10864]) H rfl ty25 rfl rfl rfl rfl (one_cons (arr_cells (H.ok.get (k := 0) rfl)).2 (one_cons (arr_cells (H.ok.get (k := 1) rfl)).2 (one_cons (arr_cells (H.ok.get (k := 2) rfl)).2 one_nil))) (by simp) rfl) rfl rfl ?_)
             rintro _ wd10874 H
             dsimp only [List.set] at H
             refine ⟨H.okS (by simp), ?_⟩
             refine DL_nil ?_
             replace H := H.f8
             replace H := H.f8
             replace H := H.f8
             replace H := H.front 18 rfl
             dsimp only [List.eraseIdx] at H
             replace H := H.f6
             replace H := H.f6
             replace H := H.f6
             replace H := H.f10
             replace H := H.f13
             replace H := H.f13
             replace H := H.f13
             replace H := H.front 17 rfl
             dsimp only [List.eraseIdx] at H
             replace H := H.drop 12 rfl
             dsimp only [List.eraseIdx] at H
             replace H := H.drop 12 rfl
             dsimp only [List.eraseIdx] at H
             replace H := H.drop 12 rfl
             dsimp only [List.eraseIdx] at H
             replace H := H.drop 12 rfl
             dsimp only [List.eraseIdx] at H
             replace H := H.drop 12 rfl
             dsimp only [List.eraseIdx] at H
             replace H := H.drop 12 rfl
             dsimp only [List.eraseIdx] at H
             replace H := H.drop 12 rfl
             dsimp only [List.eraseIdx] at H
             obtain rfl := Option.some.inj ho10440
             refine x_A fun a hf => ⟨b10771, v10775, c10776, v10777, c10778, v10779, c10780, b10841, v10860, c10861, v10862, c10863, v10864, c10865, x10781, x10782, x10783, x10866, x10867, x10868, rfl, r10784, r10785, r10786, r10869, r10870, r10871, hf.sub ⟨rfl, rfl, rfl, trivial⟩, H⟩
           ·refine de rfl (E_alloc H ty25 (zs := [.slice none 0 0, .slice none 0 0, .slice none 0 0]) rfl) rfl rfl ?_
            rintro _ wd10876 ⟨b10875, rfl, H⟩
            refine ⟨H.okS (by simp), ?_⟩
            replace H := H.f4
            replace H := H.f4
            replace H := H.f4
            obtain ⟨q10877, hq10877, ho10440⟩ := bnd ho10440
            obtain ⟨C', ρ', hl10878, HA, hL, hback⟩ := Hp.lend (A := []) (L := [Arr v10443 256 c10444, Arr v10445 1 c10446, Arr v10447 1 c10448]) (F := Box b10875 [.slice none 0 0, .slice none 0 0, .slice none 0 0] :: Box b10771 [.slice none 0 0, .slice none 0 0, .slice none 0 0] :: Box b5809 [v1, v4, v7] :: Box b5996 [v5997, v6001, v9100] :: Arr v5997 256 c7473 :: Arr v6001 1 c7476 :: Arr v9100 1 c9101 :: hs) H
            refine d1 (de rfl (E_call fn16 rfl (c_16 HA (gl0.up hl10878) (arr_rd (by decide) hl10878 (hL (Arr v10443 256 c10444) (by simp)) r10452) (arr_rd (by decide) hl10878 (hL (Arr v10445 1 c10446) (by simp)) r10453) (arr_rd (by decide) hl10878 (hL (Arr v10447 1 c10448) (by simp)) r10454) hq10877)) rfl rfl ?_)
            rintro _ wd10891 ⟨v10879, c10880, v10881, c10882, v10883, c10884, x10885, x10886, x10887, rfl, rfl, r10888, r10889, r10890, H⟩
            try dsimp only at ho10440
            replace H := hback H
            replace r10888 := rdL.flat (ρ := ρ') (ρ' := ρ) (flat_A _ (flat_I _)) r10888
            replace r10889 := rdL.flat (ρ := ρ') (ρ' := ρ) (flat_I _) r10889
            replace r10890 := rdL.flat (ρ := ρ') (ρ' := ρ) (flat_I _) r10890
            dsimp only [List.cons_append, List.nil_append] at H
            refine ⟨H.okS (by simp), ?_⟩
            replace H := H.f12
            replace H := H.f12
            replace H := H.f12
            obtain ⟨q10892, hq10892, ho10440⟩ := bnd ho10440
            obtain ⟨C', ρ', hl10893, HA, hL, hback⟩ := Hp.lend (A := []) (L := [Arr v5997 256 c7473, Arr v6001 1 c7476, Arr v9100 1 c9101]) (F := Arr v10879 256 c10880 :: Arr v10881 1 c10882 :: Arr v10883 1 c10884 :: Arr v10443 256 c10444 :: Arr v10445 1 c10446 :: Arr v10447 1 c10448 :: Box b10875 [.slice none 0 0, .slice none 0 0, .slice none 0 0] :: Box b10771 [.slice none 0 0, .slice none 0 0, .slice none 0 0] :: Box b5809 [v1, v4, v7] :: Box b5996 [v5997, v6001, v9100] :: hs) H
            refine d1 (de rfl (E_call fn45 rfl (c_45 HA (gl0.up hl10893) (GTab.up hl10893 gl1) (arr_rd (by decide) hl10893 (hL (Arr v5997 256 c7473) (by simp)) r7475) (arr_rd (by decide) hl10893 (hL (Arr v6001 1 c7476) (by simp)) r7478) (arr_rd (by decide) hl10893 (hL (Arr v9100 1 c9101) (by simp)) r9103) hq10892)) rfl rfl ?_)
            rintro _ wd10906 ⟨v10894, c10895, v10896, c10897, v10898, c10899, x10900, x10901, x10902, rfl, rfl, r10903, r10904, r10905, H⟩
            try dsimp only at ho10440
            replace H := hback H
            replace r10903 := rdL.flat (ρ := ρ') (ρ' := ρ) (flat_A _ (flat_I _)) r10903
            replace r10904 := rdL.flat (ρ := ρ') (ρ' := ρ) (flat_I _) r10904
            replace r10905 := rdL.flat (ρ := ρ') (ρ' := ρ) (flat_I _) r10905
            dsimp only [List.cons_append, List.nil_append] at H
            refine ⟨H.okS (by simp), ?_⟩
            replace H := H.f2
            replace H := H.f2
            replace H := H.f2
            obtain ⟨q10907, hq10907, ho10440⟩ := bnd ho10440
            obtain ⟨C', ρ', hl10908, HA, hL, hback⟩ := Hp.lend (A := []) (L := [Arr v10894 256 c10895, Arr v10896 1 c10897, Arr v10898 1 c10899]) (F := Arr v5997 256 c7473 :: Arr v6001 1 c7476 :: Arr v9100 1 c9101 :: Arr v10879 256 c10880 :: Arr v10881 1 c10882 :: Arr v10883 1 c10884 :: Arr v10443 256 c10444 :: Arr v10445 1 c10446 :: Arr v10447 1 c10448 :: Box b10875 [.slice none 0 0, .slice none 0 0, .slice none 0 0] :: Box b10771 [.slice none 0 0, .slice none 0 0, .slice none 0 0] :: Box b5809 [v1, v4, v7] :: Box b5996 [v5997, v6001, v9100] :: hs) H
            refine d1 (de rfl (E_call fn16 rfl (c_16 HA (gl0.up hl10908) (arr_rd (by decide) hl10908 (hL (Arr v10894 256 c10895) (by simp)) r10903) (arr_rd (by decide) hl10908 (hL (Arr v10896 1 c10897) (by simp)) r10904) (arr_rd (by decide) hl10908 (hL (Arr v10898 1 c10899) (by simp)) r10905) hq10907)) rfl rfl ?_)
            rintro _ wd10921 ⟨v10909, c10910, v10911, c10912, v10913, c10914, x10915, x10916, x10917, rfl, rfl, r10918, r10919, r10920, H⟩
            try dsimp only at ho10440
            replace H := hback H
            replace r10918 := rdL.flat (ρ := ρ') (ρ' := ρ) (flat_A _ (flat_I _)) r10918
            replace r10919 := rdL.flat (ρ := ρ') (ρ' := ρ) (flat_I _) r10919
            replace r10920 := rdL.flat (ρ := ρ') (ρ' := ρ) (flat_I _) r10920
            dsimp only [List.cons_append, List.nil_append] at H
            refine ⟨H.okS (by simp), ?_⟩
            refine d1 (de rfl (E_stB (k := 16) (cs := [v10879, v10881, v10883]) (vs' := [v10879, v10881, v10883]) H rfl ty25 rfl rfl rfl rfl (one_cons (arr_cells (H.ok.get (k := 9) rfl)).2 (one_cons (arr_cells (H.ok.get (k := 10) rfl)).2 (one_cons (arr_cells (H.ok.get (k := 11) rfl)).2 one_nil))) (by simp) rfl) rfl rfl ?_)
            rintro _ wd10922 H
            dsimp only [List.set] at H
            refine ⟨H.okS (by simp), ?_⟩
            refine d1 (de rfl (E_stB (k := 15) (cs := [v10909, v10911, v10913]) (vs' := [v10909, v10911, v10913]) H rfl ty25 rfl rfl rfl rfl (one_cons (arr_cells (H.ok.get (k := 0) rfl)).2 (one_cons (arr_cells (H.ok.get (k := 1) rfl)).2 (one_cons (arr_cells (H.ok.get (k := 2) rfl)).2 one_nil))) (by simp) rfl) rfl rfl ?_)
            rintro _ wd10923 H
            dsimp only [List.set] at H
            refine ⟨H.okS (by simp), ?_⟩
            refine DL_nil ?_
            replace H := H.f8
            replace H := H.f8
            replace H := H.f8
            replace H := H.front 18 rfl
            dsimp only [List.eraseIdx] at H
            replace H := H.f6
            replace H := H.f6
            replace H := H.f6
            replace H := H.front 16 rfl
            dsimp only [List.eraseIdx] at H
            replace H := H.f13
            replace H := H.f13
            replace H := H.f13
            replace H := H.front 17 rfl
            dsimp only [List.eraseIdx] at H
            replace H := H.drop 12 rfl
            dsimp only [List.eraseIdx] at H
            replace H := H.drop 12 rfl
            dsimp only [List.eraseIdx] at H
            replace H := H.drop 12 rfl
            dsimp only [List.eraseIdx] at H
            replace H := H.drop 12 rfl
            dsimp only [List.eraseIdx] at H
            replace H := H.drop 12 rfl
            dsimp only [List.eraseIdx] at H
            replace H := H.drop 12 rfl
            dsimp only [List.eraseIdx] at H
            replace H := H.drop 12 rfl
            dsimp only [List.eraseIdx] at H
            obtain rfl := Option.some.inj ho10440
            refine x_A fun a hf => ⟨b10771, v10879, c10880, v10881, c10882, v10883, c10884, b10875, v10909, c10910, v10911, c10912, v10913, c10914, x10885, x10886, x10887, x10915, x10916, x10917, rfl, r10888, r10889, r10890, r10918, r10919, r10920, hf.sub ⟨rfl, rfl, rfl, trivial⟩, H⟩
          ·refine de rfl (E_alloc H ty25 (zs := [.slice none 0 0, .slice none 0 0, .slice none 0 0]) rfl) rfl rfl ?_
           rintro _ wd10925 ⟨b10924, rfl, H⟩
           refine ⟨H.okS (by simp), ?_⟩
           refine d2 ?_ ?_
           ·replace H := H.f3
            replace H := H.f3
            replace H := H.f3
            obtain ⟨q10926, hq10926, ho10440⟩ := bnd ho10440
            obtain ⟨C', ρ', hl10927, HA, hL, hback⟩ := Hp.lend (A := []) (L := [Arr v10443 256 c10444, Arr v10445 1 c10446, Arr v10447 1 c10448]) (F := Box b10924 [.slice none 0 0, .slice none 0 0, .slice none 0 0] :: Box b5809 [v1, v4, v7] :: Box b5996 [v5997, v6001, v9100] :: Arr v5997 256 c7473 :: Arr v6001 1 c7476 :: Arr v9100 1 c9101 :: hs) H
            refine de rfl (E_call fn16 rfl (c_16 HA (gl0.up hl10927) (arr_rd (by decide) hl10927 (hL (Arr v10443 256 c10444) (by simp)) r10452) (arr_rd (by decide) hl10927 (hL (Arr v10445 1 c10446) (by simp)) r10453) (arr_rd (by decide) hl10927 (hL (Arr v10447 1 c10448) (by simp)) r10454) hq10926)) rfl rfl ?_
            rintro _ wd10940 ⟨v10928, c10929, v10930, c10931, v10932, c10933, x10934, x10935, x10936, rfl, rfl, r10937, r10938, r10939, H⟩
            try dsimp only at ho10440
            replace H := hback H
            replace r10937 := rdL.flat (ρ := ρ') (ρ' := ρ) (flat_A _ (flat_I _)) r10937
            replace r10938 := rdL.flat (ρ := ρ') (ρ' := ρ) (flat_I _) r10938
            replace r10939 := rdL.flat (ρ := ρ') (ρ' := ρ) (flat_I _) r10939
            dsimp only [List.cons_append, List.nil_append] at H
            refine ⟨H.okS (by simp), ?_⟩
            refine d2 ?_ ?_
            ·replace H := H.f11
             replace H := H.f11
             replace H := H.f11
             obtain ⟨q10941, hq10941, ho10440⟩ := bnd ho10440
             obtain ⟨C', ρ', hl10942, HA, hL, hback⟩ := Hp.lend (A := []) (L := [Arr v5997 256 c7473, Arr v6001 1 c7476, Arr v9100 1 c9101]) (F := Arr v10928 256 c10929 :: Arr v10930 1 c10931 :: Arr v10932 1 c10933 :: Arr v10443 256 c10444 :: Arr v10445 1 c10446 :: Arr v10447 1 c10448 :: Box b10924 [.slice none 0 0, .slice none 0 0, .slice none 0 0] :: Box b5809 [v1, v4, v7] :: Box b5996 [v5997, v6001, v9100] :: hs) H
             refine de rfl (E_call fn45 rfl (c_45 HA (gl0.up hl10942) (GTab.up hl10942 gl1) (arr_rd (by decide) hl10942 (hL (Arr v5997 256 c7473) (by simp)) r7475) (arr_rd (by decide) hl10942 (hL (Arr v6001 1 c7476) (by simp)) r7478) (arr_rd (by decide) hl10942 (hL (Arr v9100 1 c9101) (by simp)) r9103) hq10941)) rfl rfl ?_
             rintro _ wd10955 ⟨v10943, c10944, v10945, c10946, v10947, c10948, x10949, x10950, x10951, rfl, rfl, r10952, r10953, r10954, H⟩
             try dsimp only at ho10440
             replace H := hback H
             replace r10952 := rdL.flat (ρ := ρ') (ρ' := ρ) (flat_A _ (flat_I _)) r10952
             replace r10953 := rdL.flat (ρ := ρ') (ρ' := ρ) (flat_I _) r10953
             replace r10954 := rdL.flat (ρ := ρ') (ρ' := ρ) (flat_I _) r10954
             dsimp only [List.cons_append, List.nil_append] at H
             refine ⟨H.okS (by simp), ?_⟩
             refine d2 ?_ ?_
             ·replace H := H.f2
              replace H := H.f2
              replace H := H.f2
              obtain ⟨q10956, hq10956, ho10440⟩ := bnd ho10440
              obtain ⟨C', ρ', hl10957, HA, hL, hback⟩ := Hp.lend (A := []) (L := [Arr v10943 256 c10944, Arr v10945 1 c10946, Arr v10947 1 c10948]) (F := Arr v5997 256 c7473 :: Arr v6001 1 c7476 :: Arr v9100 1 c9101 :: Arr v10928 256 c10929 :: Arr v10930 1 c10931 :: Arr v10932 1 c10933 :: Arr v10443 256 c10444 :: Arr v10445 1 c10446 :: Arr v10447 1 c10448 :: Box b10924 [.slice none 0 0, .slice none 0 0, .slice none 0 0] :: Box b5809 [v1, v4, v7] :: Box b5996 [v5997, v6001, v9100] :: hs) H
              refine de rfl (E_call fn16 rfl (c_16 HA (gl0.up hl10957) (arr_rd (by decide) hl10957 (hL (Arr v10943 256 c10944) (by simp)) r10952) (arr_rd (by decide) hl10957 (hL (Arr v10945 1 c10946) (by simp)) r10953) (arr_rd (by decide) hl10957 (hL (Arr v10947 1 c10948) (by simp)) r10954) hq10956)) rfl rfl ?_
              rintro _ wd10970 ⟨v10958, c10959, v10960, c10961, v10962, c10963, x10964, x10965, x10966, rfl, rfl, r10967, r10968, r10969, H⟩
              try dsimp only at ho10440
              replace H := hback H
              replace r10967 := rdL.flat (ρ := ρ') (ρ' := ρ) (flat_A _ (flat_I _)) r10967
              replace r10968 := rdL.flat (ρ := ρ') (ρ' := ρ) (flat_I _) r10968
              replace r10969 := rdL.flat (ρ := ρ') (ρ' := ρ) (flat_I _) r10969
              dsimp only [List.cons_append, List.nil_append] at H
              refine ⟨H.okS (by simp), ?_⟩
              refine d1 (de rfl (E_alloc H ty25 (zs := [.slice none 0 0, .slice none 0 0, .slice none 0 0]) rfl) rfl rfl ?_)
              rintro _ wd10972 ⟨b10971, rfl, H⟩
              refine ⟨H.okS (by simp), ?_⟩
              refine d1 (de rfl (E_stB (k := 0) (cs := [v10928, v10930, v10932]) (vs' := [v10928, v10930, v10932]) H rfl ty25 rfl rfl rfl rfl (one_cons (arr_cells (H.ok.get (k := 10) rfl)).2 (one_cons (arr_cells (H.ok.get (k := 11) rfl)).2 (one_cons (arr_cells (H.ok.get (k := 12) rfl)).2 one_nil))) (by simp) rfl) rfl rfl ?_)
              rintro _ wd10973 H
              dsimp only [List.set] at H
              refine ⟨H.okS (by simp), ?_⟩
              refine d1 (de rfl (E_stB (k := 16) (cs := [v10958, v10960, v10962]) (vs' := [v10958, v10960, v10962]) H rfl ty25 rfl rfl rfl rfl (one_cons (arr_cells (H.ok.get (k := 1) rfl)).2 (one_cons (arr_cells (H.ok.get (k := 2) rfl)).2 (one_cons (arr_cells (H.ok.get (k := 3) rfl)).2 one_nil))) (by simp) rfl) rfl rfl ?_)
              rintro _ wd10974 H
              dsimp only [List.set] at H
              refine ⟨H.okS (by simp), ?_⟩
              refine DL_nil ?_
              replace H := H.f9
              replace H := H.f9
              replace H := H.f9
              replace H := H.front 18 rfl
              dsimp only [List.eraseIdx] at H
              replace H := H.f7
              replace H := H.f7
              replace H := H.f7
              replace H := H.front 17 rfl
              dsimp only [List.eraseIdx] at H
              replace H := H.f14
              replace H := H.f14
              replace H := H.f14
              replace H := H.f11
              replace H := H.drop 12 rfl
              dsimp only [List.eraseIdx] at H
              replace H := H.drop 12 rfl
              dsimp only [List.eraseIdx] at H
              replace H := H.drop 12 rfl
              dsimp only [List.eraseIdx] at H
              replace H := H.drop 12 rfl
              dsimp only [List.eraseIdx] at H
              replace H := H.drop 12 rfl
              dsimp only [List.eraseIdx] at H
              replace H := H.drop 12 rfl
              dsimp only [List.eraseIdx] at H
              replace H := H.drop 12 rfl
              dsimp only [List.eraseIdx] at H
              obtain rfl := Option.some.inj ho10440
              refine x_A fun a hf => ⟨b10971, v10928, c10929, v10930, c10931, v10932, c10933, b10924, v10958, c10959, v10960, c10961, v10962, c10963, x10934, x10935, x10936, x10964, x10965, x10966, rfl, r10937, r10938, r10939, r10967, r10968, r10969, hf.sub ⟨rfl, rfl, rfl, trivial⟩, H⟩
             ·refine de rfl (E_alloc H ty25 (zs := [.slice none 0 0, .slice none 0 0, .slice none 0 0]) rfl) rfl rfl ?_
              rintro _ wd10976 ⟨b10975, rfl, H⟩
              refine ⟨H.okS (by simp), ?_⟩
              replace H := H.f3
              replace H := H.f3
              replace H := H.f3
              obtain ⟨q10977, hq10977, ho10440⟩ := bnd ho10440
              obtain ⟨C', ρ', hl10978, HA, hL, hback⟩ := Hp.lend (A := []) (L := [Arr v10943 256 c10944, Arr v10945 1 c10946, Arr v10947 1 c10948]) (F := Box b10975 [.slice none 0 0, .slice none 0 0, .slice none 0 0] :: Arr v5997 256 c7473 :: Arr v6001 1 c7476 :: Arr v9100 1 c9101 :: Arr v10928 256 c10929 :: Arr v10930 1 c10931 :: Arr v10932 1 c10933 :: Arr v10443 256 c10444 :: Arr v10445 1 c10446 :: Arr v10447 1 c10448 :: Box b10924 [.slice none 0 0, .slice none 0 0, .slice none 0 0] :: Box b5809 [v1, v4, v7] :: Box b5996 [v5997, v6001, v9100] :: hs) H
              refine d1 (de rfl (E_call fn16 rfl (c_16 HA (gl0.up hl10978) (arr_rd (by decide) hl10978 (hL (Arr v10943 256 c10944) (by simp)) r10952) (arr_rd (by decide) hl10978 (hL (Arr v10945 1 c10946) (by simp)) r10953) (arr_rd (by decide) hl10978 (hL (Arr v10947 1 c10948) (by simp)) r10954) hq10977)) rfl rfl ?_)
              rintro _ wd10991 ⟨v10979, c10980, v10981, c10982, v10983, c10984, x10985, x10986, x10987, rfl, rfl, r10988, r10989, r10990, H⟩
              try dsimp only at ho10440
              replace H := hback H
              replace r10988 := rdL.flat (ρ := ρ') (ρ' := ρ) (flat_A _ (flat_I _)) r10988
              replace r10989 := rdL.flat (ρ := ρ') (ρ' := ρ) (flat_I _) r10989
              replace r10990 := rdL.flat (ρ := ρ') (ρ' := ρ) (flat_I _) r10990
              dsimp only [List.cons_append, List.nil_append] at H
              refine ⟨H.okS (by simp), ?_⟩
              refine d1 (de rfl (E_stB (k := 6) (cs := [v10928, v10930, v10932]) (vs' := [v10928, v10930, v10932]) H rfl ty25 rfl rfl rfl rfl (one_cons (arr_cells (H.ok.get (k := 10) rfl)).2 (one_cons (arr_cells (H.ok.get (k := 11) rfl)).2 (one_cons (arr_cells (H.ok.get (k := 12) rfl)).2 one_nil))) (by simp) rfl) rfl rfl ?_)
              rintro _ wd10992 H
              dsimp only [List.set] at H
              refine ⟨H.okS (by simp), ?_⟩
              refine d1 (de rfl (E_stB (k := 16) (cs := [v10979, v10981, v10983]) (vs' := [v10979, v10981, v10983]) H rfl ty25 rfl rfl rfl rfl (one_cons (arr_cells (H.ok.get (k := 0) rfl)).2 (one_cons (arr_cells (H.ok.get (k := 1) rfl)).2 (one_cons (arr_cells (H.ok.get (k := 2) rfl)).2 one_nil))) (by simp) rfl) rfl rfl ?_)
              rintro _ wd10993 H
              dsimp only [List.set] at H
              refine ⟨H.okS (by simp), ?_⟩
              refine DL_nil ?_
              replace H := H.f9
              replace H := H.f9
              replace H := H.f9
              replace H := H.front 18 rfl
              dsimp only [List.eraseIdx] at H
              replace H := H.f6
              replace H := H.f6
              replace H := H.f6
              replace H := H.front 17 rfl
              dsimp only [List.eraseIdx] at H
              replace H := H.f14
              replace H := H.f14
              replace H := H.f14
              replace H := H.f14
              replace H := H.drop 12 rfl
              dsimp only [List.eraseIdx] at H
              replace H := H.drop 12 rfl
              dsimp only [List.eraseIdx] at H
              replace H := H.drop 12 rfl
              dsimp only [List.eraseIdx] at H
              replace H := H.drop 12 rfl
              dsimp only [List.eraseIdx] at H
              replace H := H.drop 12 rfl
              dsimp only [List.eraseIdx] at H
              replace H := H.drop 12 rfl
              dsimp only [List.eraseIdx] at H
              replace H := H.drop 12 rfl
              dsimp only [List.eraseIdx] at H
              obtain rfl := Option.some.inj ho10440
              refine x_A fun a hf => ⟨b10975, v10928, c10929, v10930, c10931, v10932, c10933, b10924, v10979, c10980, v10981, c10982, v10983, c10984, x10934, x10935, x10936, x10985, x10986, x10987, rfl, r10937, r10938, r10939, r10988, r10989, r10990, hf.sub ⟨rfl, rfl, rfl, trivial⟩, H⟩
            ·refine de rfl (E_alloc H ty25 (zs := [.slice none 0 0, .slice none 0 0, .slice none 0 0]) rfl) rfl rfl ?_
             rintro _ wd10995 ⟨b10994, rfl, H⟩
             refine ⟨H.okS (by simp), ?_⟩
             replace H := H.f12
             replace H := H.f12
             replace H := H.f12
             obtain ⟨q10996, hq10996, ho10440⟩ := bnd ho10440
             obtain ⟨C', ρ', hl10997, HA, hL, hback⟩ := Hp.lend (A := []) (L := [Arr v5997 256 c7473, Arr v6001 1 c7476, Arr v9100 1 c9101]) (F := Box b10994 [.slice none 0 0, .slice none 0 0, .slice none 0 0] :: Arr v10928 256 c10929 :: Arr v10930 1 c10931 :: Arr v10932 1 c10933 :: Arr v10443 256 c10444 :: Arr v10445 1 c10446 :: Arr v10447 1 c10448 :: Box b10924 [.slice none 0 0, .slice none 0 0, .slice none 0 0] :: Box b5809 [v1, v4, v7] :: Box b5996 [v5997, v6001, v9100] :: hs) H
             refine d1 (de rfl (E_call fn45 rfl (c_45 HA (gl0.up hl10997) (GTab.up hl10997 gl1) (arr_rd (by decide) hl10997 (hL (Arr v5997 256 c7473) (by simp)) r7475) (arr_rd (by decide) hl10997 (hL (Arr v6001 1 c7476) (by simp)) r7478) (arr_rd (by decide) hl10997 (hL (Arr v9100 1 c9101) (by simp)) r9103) hq10996)) rfl rfl ?_)
             rintro _ wd11010 ⟨v10998, c10999, v11000, c11001, v11002, c11003, x11004, x11005, x11006, rfl, rfl, r11007, r11008, r11009, H⟩
             try dsimp only at ho10440
             replace H := hback H
             replace r11007 := rdL.flat (ρ := ρ') (ρ' := ρ) (flat_A _ (flat_I _)) r11007
             replace r11008 := rdL.flat (ρ := ρ') (ρ' := ρ) (flat_I _) r11008
             replace r11009 := rdL.flat (ρ := ρ') (ρ' := ρ) (flat_I _) r11009
             dsimp only [List.cons_append, List.nil_append] at H
             refine ⟨H.okS (by simp), ?_⟩
             replace H := H.f2
             replace H := H.f2
             replace H := H.f2
             obtain ⟨q11011, hq11011, ho10440⟩ := bnd ho10440
             obtain ⟨C', ρ', hl11012, HA, hL, hback⟩ := Hp.lend (A := []) (L := [Arr v10998 256 c10999, Arr v11000 1 c11001, Arr v11002 1 c11003]) (F := Arr v5997 256 c7473 :: Arr v6001 1 c7476 :: Arr v9100 1 c9101 :: Box b10994 [.slice none 0 0, .slice none 0 0, .slice none 0 0] :: Arr v10928 256 c10929 :: Arr v10930 1 c10931 :: Arr v10932 1 c10933 :: Arr v10443 256 c10444 :: Arr v10445 1 c10446 :: Arr v10447 1 c10448 :: Box b10924 [.slice none 0 0, .slice none 0 0, .slice none 0 0] :: Box b5809 [v1, v4, v7] :: Box b5996 [v5997, v6001, v9100] :: hs) H
             refine d1 (de rfl (E_call fn16 rfl (c_16 HA (gl0.up hl11012) (arr_rd (by decide) hl11012 (hL (Arr v10998 256 c10999) (by simp)) r11007) (arr_rd (by decide) hl11012 (hL (Arr v11000 1 c11001) (by simp)) r11008) (arr_rd (by decide) hl11012 (hL (Arr v11002 1 c11003) (by simp)) r11009) hq11011)) rfl rfl ?_)
             rintro _ wd11025 ⟨v11013, c11014, v11015, c11016, v11017, c11018, x11019, x11020, x11021, rfl, rfl, r11022, r11023, r11024, H⟩
             try dsimp only at ho10440
             replace H := hback H
             replace r11022 := rdL.flat (ρ := ρ') (ρ' := ρ) (flat_A _ (flat_I _)) r11022
             replace r11023 := rdL.flat (ρ := ρ') (ρ' := ρ) (flat_I _) r11023
             replace r11024 := rdL.flat (ρ := ρ') (ρ' := ρ) (flat_I _) r11024
             dsimp only [List.cons_append, List.nil_append] at H
             refine ⟨H.okS (by simp), ?_⟩
             refine d1 (de rfl (E_stB (k := 9) (cs := [v10928, v10930, v10932]) (vs' := [v10928, v10930, v10932]) H rfl ty25 rfl rfl rfl rfl (one_cons (arr_cells (H.ok.get (k := 10) rfl)).2 (one_cons (arr_cells (H.ok.get (k := 11) rfl)).2 (one_cons (arr_cells (H.ok.get (k := 12) rfl)).2 one_nil))) (by simp) rfl) rfl rfl ?_)
             rintro _ wd11026 H
             dsimp only [List.set] at H
             refine ⟨H.okS (by simp), ?_⟩
             refine d1 (de rfl (E_stB (k := 16) (cs := [v11013, v11015, v11017]) (vs' := [v11013, v11015, v11017]) H rfl ty25 rfl rfl rfl rfl (one_cons (arr_cells (H.ok.get (k := 0) rfl)).2 (one_cons (arr_cells (H.ok.get (k := 1) rfl)).2 (one_cons (arr_cells (H.ok.get (k := 2) rfl)).2 one_nil))) (by simp) rfl) rfl rfl ?_)
             rintro _ wd11027 H
             dsimp only [List.set] at H
             refine ⟨H.okS (by simp), ?_⟩
             refine DL_nil ?_
             replace H := H.f8
             replace H := H.f8
             replace H := H.f8
             replace H := H.front 18 rfl
             dsimp only [List.eraseIdx] at H
             replace H := H.f6
             replace H := H.f6
             replace H := H.f6
             replace H := H.front 17 rfl
             dsimp only [List.eraseIdx] at H
             replace H := H.f14
             replace H := H.f14
             replace H := H.f14
             replace H := H.f14
             replace H := H.drop 12 rfl
             dsimp only [List.eraseIdx] at H
             replace H := H.drop 12 rfl
             dsimp only [List.eraseIdx] at H
             replace H := H.drop 12 rfl
             dsimp only [List.eraseIdx] at H
             replace H := H.drop 12 rfl
             dsimp only [List.eraseIdx] at H
             replace H := H.drop 12 rfl
             dsimp only [List.eraseIdx] at H
             replace H := H.drop 12 rfl
             dsimp only [List.eraseIdx] at H
             replace H := H.drop 12 rfl
             dsimp only [List.eraseIdx] at H
             obtain rfl := Option.some.inj ho10440
             refine x_A fun a hf => ⟨b10994, v10928, c10929, v10930, c10931, v10932, c10933, b10924, v11013, c11014, v11015, c11016, v11017, c11018, x10934, x10935, x10936, x11019, x11020, x11021, rfl, r10937, r10938, r10939, r11022, r11023, r11024, hf.sub ⟨rfl, rfl, rfl, trivial⟩, H⟩
           ·refine de rfl (E_alloc H ty25 (zs := [.slice none 0 0, .slice none 0 0, .slice none 0 0]) rfl) rfl rfl ?_
            rintro _ wd11029 ⟨b11028, rfl, H⟩
            refine ⟨H.okS (by simp), ?_⟩
            replace H := H.f4
            replace H := H.f4
            replace H := H.f4
            obtain ⟨q11030, hq11030, ho10440⟩ := bnd ho10440
            obtain ⟨C', ρ', hl11031, HA, hL, hback⟩ := Hp.lend (A := []) (L := [Arr v10443 256 c10444, Arr v10445 1 c10446, Arr v10447 1 c10448]) (F := Box b11028 [.slice none 0 0, .slice none 0 0, .slice none 0 0] :: Box b10924 [.slice none 0 0, .slice none 0 0, .slice none 0 0] :: Box b5809 [v1, v4, v7] :: Box b5996 [v5997, v6001, v9100] :: Arr v5997 256 c7473 :: Arr v6001 1 c7476 :: Arr v9100 1 c9101 :: hs) H
            refine d1 (de rfl (E_call fn16 rfl (c_16 HA (gl0.up hl11031) (arr_rd (by decide) hl11031 (hL (Arr v10443 256 c10444) (by simp)) r10452) (arr_rd (by decide) hl11031 (hL (Arr v10445 1 c10446) (by simp)) r10453) (arr_rd (by decide) hl11031 (hL (Arr v10447 1 c10448) (by simp)) r10454) hq11030)) rfl rfl ?_)
            rintro _ wd11044 ⟨v11032, c11033, v11034, c11035, v11036, c11037, x11038, x11039, x11040, rfl, rfl, r11041, r11042, r11043, H⟩
            try dsimp only at ho10440
            replace H := hback H
            replace r11041 := rdL.flat (ρ := ρ') (ρ' := ρ) (flat_A _ (flat_I _)) r11041
            replace r11042 := rdL.flat (ρ := ρ') (ρ' := ρ) (flat_I _) r11042
            replace r11043 := rdL.flat (ρ := ρ') (ρ' := ρ) (flat_I _) r11043
            dsimp only [List.cons_append, List.nil_append] at H
            refine ⟨H.okS (by simp), ?_⟩
            replace H := H.f12
            replace H := H.f12
            replace H := H.f12
            obtain ⟨q11045, hq11045, ho10440⟩ := bnd ho10440
            obtain ⟨C', ρ', hl11046, HA, hL, hback⟩ := Hp.lend (A := []) (L := [Arr v5997 256 c7473, Arr v6001 1 c7476, Arr v9100 1 c9101]) (F := Arr v11032 256 c11033 :: Arr v11034 1 c11035 :: Arr v11036 1 c11037 :: Arr v10443 256 c10444 :: Arr v10445 1 c10446 :: Arr v10447 1 c10448 :: Box b11028 [.slice none 0 0, .slice none 0 0, .slice none 0 0] :: Box b10924 [.slice none 0 0, .slice none 0 0, .slice none 0 0] :: Box b5809 [v1, v4, v7] :: Box b5996 [v5997, v6001, v9100] :: hs) H
            refine d1 (de rfl (E_call fn45 rfl (c_45 HA (gl0.up hl11046) (GTab.up hl11046 gl1) (arr_rd (by decide) hl11046 (hL (Arr v5997 256 c7473) (by simp)) r7475) (arr_rd (by decide) hl11046 (hL (Arr v6001 1 c7476) (by simp)) r7478) (arr_rd (by decide) hl11046 (hL (Arr v9100 1 c9101) (by simp)) r9103) hq11045)) rfl rfl ?_)
            rintro _ wd11059 ⟨v11047, c11048, v11049, c11050, v11051, c11052, x11053, x11054, x11055, rfl, rfl, r11056, r11057, r11058, H⟩
            try dsimp only at ho10440
            replace H := hback H
            replace r11056 := rdL.flat (ρ := ρ') (ρ' := ρ) (flat_A _ (flat_I _)) r11056
            replace r11057 := rdL.flat (ρ := ρ') (ρ' := ρ) (flat_I _) r11057
            replace r11058 := rdL.flat (ρ := ρ') (ρ' := ρ) (flat_I _) r11058
            dsimp only [List.cons_append, List.nil_append] at H
            refine ⟨H.okS (by simp), ?_⟩
            replace H := H.f2
            replace H := H.f2
            replace H := H.f2
            obtain ⟨q11060, hq11060, ho10440⟩ := bnd ho10440
            obtain ⟨C', ρ', hl11061, HA, hL, hback⟩ := Hp.lend (A := []) (L := [Arr v11047 256 c11048, Arr v11049 1 c11050, Arr v11051 1 c11052]) (F := Arr v5997 256 c7473 :: Arr v6001 1 c7476 :: Arr v9100 1 c9101 :: Arr v11032 256 c11033 :: Arr v11034 1 c11035 :: Arr v11036 1 c11037 :: Arr v10443 256 c10444 :: Arr v10445 1 c10446 :: Arr v10447 1 c10448 :: Box b11028 [.slice none 0 0, .slice none 0 0, .slice none 0 0] :: Box b10924 [.slice none 0 0, .slice none 0 0, .slice none 0 0] :: Box b5809 [v1, v4, v7] :: Box b5996 [v5997, v6001, v9100] :: hs) H
            refine d1 (de rfl (E_call fn16 rfl (c_16 HA (gl0.up hl11061) (arr_rd (by decide) hl11061 (hL (Arr v11047 256 c11048) (by simp)) r11056) (arr_rd (by decide) hl11061 (hL (Arr v11049 1 c11050) (by simp)) r11057) (arr_rd (by decide) hl11061 (hL (Arr v11051 1 c11052) (by simp)) r11058) hq11060)) rfl rfl ?_)
            rintro _ wd11074 ⟨v11062, c11063, v11064, c11065, v11066, c11067, x11068, x11069, x11070, rfl, rfl, r11071, r11072, r11073, H⟩
            try dsimp only at ho10440
            replace H := hback H
            replace r11071 := rdL.flat (ρ := ρ') (ρ' := ρ) (flat_A _ (flat_I _)) r11071
            replace r11072 := rdL.flat (ρ := ρ') (ρ' := ρ) (flat_I _) r11072
            replace r11073 := rdL.flat (ρ := ρ') (ρ' := ρ) (flat_I _) r11073
            dsimp only [List.cons_append, List.nil_append] at H
            refine ⟨H.okS (by simp), ?_⟩
            refine d1 (de rfl (E_stB (k := 15) (cs := [v11032, v11034, v11036]) (vs' := [v11032, v11034, v11036]) H rfl ty25 rfl rfl rfl rfl (one_cons (arr_cells (H.ok.get (k := 9) rfl)).2 (one_cons (arr_cells (H.ok.get (k := 10) rfl)).2 (one_cons (arr_cells (H.ok.get (k := 11) rfl)).2 one_nil))) (by simp) rfl) rfl rfl ?_)
            rintro _ wd11075 H
            dsimp only [List.set] at H
            refine ⟨H.okS (by simp), ?_⟩
            refine d1 (de rfl (E_stB (k := 16) (cs := [v11062, v11064, v11066]) (vs' := [v11062, v11064, v11066]) H rfl ty25 rfl rfl rfl rfl (one_cons (arr_cells (H.ok.get (k := 0) rfl)).2 (one_cons (arr_cells (H.ok.get (k := 1) rfl)).2 (one_cons (arr_cells (H.ok.get (k := 2) rfl)).2 one_nil))) (by simp) rfl) rfl rfl ?_)
            rintro _ wd11076 H
            dsimp only [List.set] at H
            refine ⟨H.okS (by simp), ?_⟩
            refine DL_nil ?_
            replace H := H.f8
            replace H := H.f8
            replace H := H.f8
            replace H := H.front 18 rfl
            dsimp only [List.eraseIdx] at H
            replace H := H.f6
            replace H := H.f6
            replace H := H.f6
            replace H := H.front 17 rfl
            dsimp only [List.eraseIdx] at H
            replace H := H.f13
            replace H := H.f13
            replace H := H.f13
            replace H := H.front 17 rfl
            dsimp only [List.eraseIdx] at H
            replace H := H.drop 12 rfl
            dsimp only [List.eraseIdx] at H
            replace H := H.drop 12 rfl
            dsimp only [List.eraseIdx] at H
            replace H := H.drop 12 rfl
            dsimp only [List.eraseIdx] at H
            replace H := H.drop 12 rfl
            dsimp only [List.eraseIdx] at H
            replace H := H.drop 12 rfl
            dsimp only [List.eraseIdx] at H
            replace H := H.drop 12 rfl
            dsimp only [List.eraseIdx] at H
            replace H := H.drop 12 rfl
            dsimp only [List.eraseIdx] at H
            obtain rfl := Option.some.inj ho10440
            refine x_A fun a hf => ⟨b11028, v11032, c11033, v11034, c11035, v11036, c11037, b10924, v11062, c11063, v11064, c11065, v11066, c11067, x11038, x11039, x11040, x11068, x11069, x11070, rfl, r11041, r11042, r11043, r11071, r11072, r11073, hf.sub ⟨rfl, rfl, rfl, trivial⟩, H⟩
         ·refine de rfl (E_alloc H ty25 (zs := [.slice none 0 0, .slice none 0 0, .slice none 0 0]) rfl) rfl rfl ?_
          rintro _ wd11078 ⟨b11077, rfl, H⟩
          refine ⟨H.okS (by simp), ?_⟩
          refine d2 ?_ ?_
          ·obtain ⟨q11079, hq11079, ho10440⟩ := bnd ho10440
           refine de rfl (E_call fn45 rfl (c_45 H gl0 gl1 r3 r6 r9 hq11079)) rfl rfl ?_
           rintro _ wd11093 ⟨v11081, c11082, v11083, c11084, v11085, c11086, x11087, x11088, x11089, rfl, rfl, r11090, r11091, r11092, H⟩
           try dsimp only at ho10440
           refine ⟨H.okS (by simp), ?_⟩
           refine d2 ?_ ?_
           ·replace H := H.f2
            replace H := H.f2
            replace H := H.f2
            obtain ⟨q11094, hq11094, ho10440⟩ := bnd ho10440
            obtain ⟨C', ρ', hl11095, HA, hL, hback⟩ := Hp.lend (A := []) (L := [Arr v11081 256 c11082, Arr v11083 1 c11084, Arr v11085 1 c11086]) (F := Box b11077 [.slice none 0 0, .slice none 0 0, .slice none 0 0] :: Box b5809 [v1, v4, v7] :: Box b5996 [v5997, v6001, v9100] :: Arr v5997 256 c7473 :: Arr v6001 1 c7476 :: Arr v9100 1 c9101 :: hs) H
            refine de rfl (E_call fn16 rfl (c_16 HA (gl0.up hl11095) (arr_rd (by decide) hl11095 (hL (Arr v11081 256 c11082) (by simp)) r11090) (arr_rd (by decide) hl11095 (hL (Arr v11083 1 c11084) (by simp)) r11091) (arr_rd (by decide) hl11095 (hL (Arr v11085 1 c11086) (by simp)) r11092) hq11094)) rfl rfl ?_
            rintro _ wd11108 ⟨v11096, c11097, v11098, c11099, v11100, c11101, x11102, x11103, x11104, rfl, rfl, r11105, r11106, r11107, H⟩
            try dsimp only at ho10440
            replace H := hback H
            replace r11105 := rdL.flat (ρ := ρ') (ρ' := ρ) (flat_A _ (flat_I _)) r11105
            replace r11106 := rdL.flat (ρ := ρ') (ρ' := ρ) (flat_I _) r11106
            replace r11107 := rdL.flat (ρ := ρ') (ρ' := ρ) (flat_I _) r11107
            dsimp only [List.cons_append, List.nil_append] at H
            refine ⟨H.okS (by simp), ?_⟩
            refine d2 ?_ ?_
            ·replace H := H.f11
             replace H := H.f11
             replace H := H.f11
             obtain ⟨q11109, hq11109, ho10440⟩ := bnd ho10440
             obtain ⟨C', ρ', hl11110, HA, hL, hback⟩ := Hp.lend (A := []) (L := [Arr v5997 256 c7473, Arr v6001 1 c7476, Arr v9100 1 c9101]) (F := Arr v11096 256 c11097 :: Arr v11098 1 c11099 :: Arr v11100 1 c11101 :: Arr v11081 256 c11082 :: Arr v11083 1 c11084 :: Arr v11085 1 c11086 :: Box b11077 [.slice none 0 0, .slice none 0 0, .slice none 0 0] :: Box b5809 [v1, v4, v7] :: Box b5996 [v5997, v6001, v9100] :: hs) H
             refine de rfl (E_call fn45 rfl (c_45 HA (gl0.up hl11110) (GTab.up hl11110 gl1) (arr_rd (by decide) hl11110 (hL (Arr v5997 256 c7473) (by simp)) r7475) (arr_rd (by decide) hl11110 (hL (Arr v6001 1 c7476) (by simp)) r7478) (arr_rd (by decide) hl11110 (hL (Arr v9100 1 c9101) (by simp)) r9103) hq11109)) rfl rfl ?_
             rintro _ wd11123 ⟨v11111, c11112, v11113, c11114, v11115, c11116, x11117, x11118, x11119, rfl, rfl, r11120, r11121, r11122, H⟩
             try dsimp only at ho10440
             replace H := hback H
             replace r11120 := rdL.flat (ρ := ρ') (ρ' := ρ) (flat_A _ (flat_I _)) r11120
             replace r11121 := rdL.flat (ρ := ρ') (ρ' := ρ) (flat_I _) r11121
             replace r11122 := rdL.flat (ρ := ρ') (ρ' := ρ) (flat_I _) r11122
             dsimp only [List.cons_append, List.nil_append] at H
             refine ⟨H.okS (by simp), ?_⟩
             refine d2 ?_ ?_
             ·replace H := H.f2
              replace H := H.f2
              replace H := H.f2
              obtain ⟨q11124, hq11124, ho10440⟩ := bnd ho10440
              obtain ⟨C', ρ', hl11125, HA, hL, hback⟩ := Hp.lend (A := []) (L := [Arr v11111 256 c11112, Arr v11113 1 c11114, Arr v11115 1 c11116]) (F := Arr v5997 256 c7473 :: Arr v6001 1 c7476 :: Arr v9100 1 c9101 :: Arr v11096 256 c11097 :: Arr v11098 1 c11099 :: Arr v11100 1 c11101 :: Arr v11081 256 c11082 :: Arr v11083 1 c11084 :: Arr v11085 1 c11086 :: Box b11077 [.slice none 0 0, .slice none 0 0, .slice none 0 0] :: Box b5809 [v1, v4, v7] :: Box b5996 [v5997, v6001, v9100] :: hs) H
              refine de rfl (E_call fn16 rfl (c_16 HA (gl0.up hl11125) (arr_rd (by decide) hl11125 (hL (Arr v11111 256 c11112) (by simp)) r11120) (arr_rd (by decide) hl11125 (hL (Arr v11113 1 c11114) (by simp)) r11121) (arr_rd (by decide) hl11125 (hL (Arr v11115 1 c11116) (by simp)) r11122) hq11124)) rfl rfl ?_
              rintro _ wd11138 ⟨v11126, c11127, v11128, c11129, v11130, c11131, x11132, x11133, x11134, rfl, rfl, r11135, r11136, r11137, H⟩
              try dsimp only at ho10440
              replace H := hback H
              replace r11135 := rdL.flat (ρ := ρ') (ρ' := ρ) (flat_A _ (flat_I _)) r11135
              replace r11136 := rdL.flat (ρ := ρ') (ρ' := ρ) (flat_I _) r11136
              replace r11137 := rdL.flat (ρ := ρ') (ρ' := ρ) (flat_I _) r11137
              dsimp only [List.cons_append, List.nil_append] at H
              refine ⟨H.okS (by simp), ?_⟩
              refine d1 (de rfl (E_alloc H ty25 (zs := [.slice none 0 0, .slice none 0 0, .slice none 0 0]) rfl) rfl rfl ?_)
              rintro _ wd11140 ⟨b11139, rfl, H⟩
              refine ⟨H.okS (by simp), ?_⟩
              refine d1 (de rfl (E_stB (k := 16) (cs := [v11096, v11098, v11100]) (vs' := [v11096, v11098, v11100]) H rfl ty25 rfl rfl rfl rfl (one_cons (arr_cells (H.ok.get (k := 10) rfl)).2 (one_cons (arr_cells (H.ok.get (k := 11) rfl)).2 (one_cons (arr_cells (H.ok.get (k := 12) rfl)).2 one_nil))) (by simp) rfl) rfl rfl ?_)
              rintro _ wd11141 H
              dsimp only [List.set] at H
              refine ⟨H.okS (by simp), ?_⟩
              refine d1 (de rfl (E_stB (k := 0) (cs := [v11126, v11128, v11130]) (vs' := [v11126, v11128, v11130]) H rfl ty25 rfl rfl rfl rfl (one_cons (arr_cells (H.ok.get (k := 1) rfl)).2 (one_cons (arr_cells (H.ok.get (k := 2) rfl)).2 (one_cons (arr_cells (H.ok.get (k := 3) rfl)).2 one_nil))) (by simp) rfl) rfl rfl ?_)
              rintro _ wd11142 H
              dsimp only [List.set] at H
              refine ⟨H.okS (by simp), ?_⟩
              refine DL_nil ?_
              replace H := H.f9
              replace H := H.f9
              replace H := H.f9
              replace H := H.front 18 rfl
              dsimp only [List.eraseIdx] at H
              replace H := H.f7
              replace H := H.f7
              replace H := H.f7
              replace H := H.f7
              replace H := H.f13
              replace H := H.f13
              replace H := H.f13
              replace H := H.front 17 rfl
              dsimp only [List.eraseIdx] at H
              replace H := H.drop 12 rfl
              dsimp only [List.eraseIdx] at H
              replace H := H.drop 12 rfl
              dsimp only [List.eraseIdx] at H
              replace H := H.drop 12 rfl
              dsimp only [List.eraseIdx] at H
              replace H := H.drop 12 rfl
              dsimp only [List.eraseIdx] at H
              replace H := H.drop 12 rfl
              dsimp only [List.eraseIdx] at H
              replace H := H.drop 12 rfl
              dsimp only [List.eraseIdx] at H
              replace H := H.drop 12 rfl
              dsimp only [List.eraseIdx] at H
              obtain rfl := Option.some.inj ho10440
              refine x_A fun a hf => ⟨b11077, v11096, c11097, v11098, c11099, v11100, c11101, b11139, v11126, c11127, v11128, c11129, v11130, c11131, x11102, x11103, x11104, x11132, x11133, x11134, rfl, r11105, r11106, r11107, r11135, r11136, r11137, hf.sub ⟨rfl, rfl, rfl, trivial⟩, H⟩
             ·refine de rfl (E_alloc H ty25 (zs := [.slice none 0 0, .slice none 0 0, .slice none 0 0]) rfl) rfl rfl ?_
              rintro _ wd11144 ⟨b11143, rfl, H⟩
              refine ⟨H.okS (by simp), ?_⟩
              replace H := H.f3
              replace H := H.f3
              replace H := H.f3
              obtain ⟨q11145, hq11145, ho10440⟩ := bnd ho10440
              obtain ⟨C', ρ', hl11146, HA, hL, hback⟩ := Hp.lend (A := []) (L := [Arr v11111 256 c11112, Arr v11113 1 c11114, Arr v11115 1 c11116]) (F := Box b11143 [.slice none 0 0, .slice none 0 0, .slice none 0 0] :: Arr v5997 256 c7473 :: Arr v6001 1 c7476 :: Arr v9100 1 c9101 :: Arr v11096 256 c11097 :: Arr v11098 1 c11099 :: Arr v11100 1 c11101 :: Arr v11081 256 c11082 :: Arr v11083 1 c11084 :: Arr v11085 1 c11086 :: Box b11077 [.slice none 0 0, .slice none 0 0, .slice none 0 0] :: Box b5809 [v1, v4, v7] :: Box b5996 [v5997, v6001, v9100] :: hs) H
              refine d1 (de rfl (E_call fn16 rfl (c_16 HA (gl0.up hl11146) (arr_rd (by decide) hl11146 (hL (Arr v11111 256 c11112) (by simp)) r11120) (arr_rd (by decide) hl11146 (hL (Arr v11113 1 c11114) (by simp)) r11121) (arr_rd (by decide) hl11146 (hL (Arr v11115 1 c11116) (by simp)) r11122) hq11145)) rfl rfl ?_)
              rintro _ wd11159 ⟨v11147, c11148, v11149, c11150, v11151, c11152, x11153, x11154, x11155, rfl, rfl, r11156, r11157, r11158, H⟩
              try dsimp only at ho10440
              replace H := hback H
              replace r11156 := rdL.flat (ρ := ρ') (ρ' := ρ) (flat_A _ (flat_I _)) r11156
              replace r11157 := rdL.flat (ρ := ρ') (ρ' := ρ) (flat_I _) r11157
              replace r11158 := rdL.flat (ρ := ρ') (ρ' := ρ) (flat_I _) r11158
              dsimp only [List.cons_append, List.nil_append] at H
              refine ⟨H.okS (by simp), ?_⟩
              refine d1 (de rfl (E_stB (k := 16) (cs := [v11096, v11098, v11100]) (vs' := [v11096, v11098, v11100]) H rfl ty25 rfl rfl rfl rfl (one_cons (arr_cells (H.ok.get (k := 10) rfl)).2 (one_cons (arr_cells (H.ok.get (k := 11) rfl)).2 (one_cons (arr_cells (H.ok.get (k := 12) rfl)).2 one_nil))) (by simp) rfl) rfl rfl ?_)
              rintro _ wd11160 H
              dsimp only [List.set] at H
              refine ⟨H.okS (by simp), ?_⟩
              refine d1 (de rfl (E_stB (k := 6) (cs := [v11147, v11149, v11151]) (vs' := [v11147, v11149, v11151]) H rfl ty25 rfl rfl rfl rfl (one_cons (arr_cells (H.ok.get (k := 0) rfl)).2 (one_cons (arr_cells (H.ok.get (k := 1) rfl)).2 (one_cons (arr_cells (H.ok.get (k := 2) rfl)).2 one_nil))) (by simp) rfl) rfl rfl ?_)
              rintro _ wd11161 H
              dsimp only [List.set] at H
              refine ⟨H.okS (by simp), ?_⟩
              refine DL_nil ?_
              replace H := H.f9
              replace H := H.f9
              replace H := H.f9
              replace H := H.front 18 rfl
              dsimp only [List.eraseIdx] at H
              replace H := H.f6
              replace H := H.f6
              replace H := H.f6
              replace H := H.f10
              replace H := H.f13
              replace H := H.f13
              replace H := H.f13
              replace H := H.front 17 rfl
              dsimp only [List.eraseIdx] at H
              replace H := H.drop 12 rfl
              dsimp only [List.eraseIdx] at H
              replace H := H.drop 12 rfl
              dsimp only [List.eraseIdx] at H
              replace H := H.drop 12 rfl
              dsimp only [List.eraseIdx] at H
              replace H := H.drop 12 rfl
              dsimp only [List.eraseIdx] at H
              replace H := H.drop 12 rfl
              dsimp only [List.eraseIdx] at H
              replace H := H.drop 12 rfl
              dsimp only [List.eraseIdx] at H
              replace H := H.drop 12 rfl
              dsimp only [List.eraseIdx] at H
              obtain rfl := Option.some.inj ho10440
              refine x_A fun a hf => ⟨b11077, v11096, c11097, v11098, c11099, v11100, c11101, b11143, v11147, c11148, v11149, c11150, v11151, c11152, x11102, x11103, x11104, x11153, x11154, x11155, rfl, r11105, r11106, r11107, r11156, r11157, r11158, hf.sub ⟨rfl, rfl, rfl, trivial⟩, H⟩
            ·refine de rfl (E_alloc H ty25 (zs := [.slice none 0 0, .slice none 0 0, .slice none 0 0]) rfl) rfl rfl ?_
             rintro _ wd11163 ⟨b11162, rfl, H⟩
             refine ⟨H.okS (by simp), ?_⟩
             replace H := H.f12
             replace H := H.f12
             replace H := H.f12
             obtain ⟨q11164, hq11164, ho10440⟩ := bnd ho10440
             obtain ⟨C', ρ', hl11165, HA, hL, hback⟩ := Hp.lend (A := []) (L := [Arr v5997 256 c7473, Arr v6001 1 c7476, Arr v9100 1 c9101]) (F := Box b11162 [.slice none 0 0, .slice none 0 0, .slice none 0 0] :: Arr v11096 256 c11097 :: Arr v11098 1 c11099 :: Arr v11100 1 c11101 :: Arr v11081 256 c11082 :: Arr v11083 1 c11084 :: Arr v11085 1 c11086 :: Box b11077 [.slice none 0 0, .slice none 0 0, .slice none 0 0] :: Box b5809 [v1, v4, v7] :: Box b5996 [v5997, v6001, v9100] :: hs) H
             refine d1 (de rfl (E_call fn45 rfl (c_45 HA (gl0.up hl11165) (GTab.up hl11165 gl1) (arr_rd (by decide) hl11165 (hL (Arr v5997 256 c7473) (by simp)) r7475) (arr_rd (by decide) hl11165 (hL (Arr v6001 1 c7476) (by simp)) r7478) (arr_rd (by decide) hl11165 (hL (Arr v9100 1 c9101) (by simp)) r9103) hq11164)) rfl rfl ?_)
             rintro _ wd11178 ⟨v11166, c11167, v11168, c11169, v11170, c11171, x11172, x11173, x11174, rfl, rfl, r11175, r11176, r11177, H⟩
             try dsimp only at ho10440
             replace H := hback H
             replace r11175 := rdL.flat (ρ := ρ') (ρ' := ρ) (flat_A _ (flat_I _)) r11175
             replace r11176 := rdL.flat (ρ := ρ') (ρ' := ρ) (flat_I _) r11176
             replace r11177 := rdL.flat (ρ := ρ') (ρ' := ρ) (flat_I _) r11177
             dsimp only [List.cons_append, List.nil_append] at H
             refine ⟨H.okS (by simp), ?_⟩
             replace H := H.f2
             replace H := H.f2
             replace H := H.f2
             obtain ⟨q11179, hq11179, ho10440⟩ := bnd ho10440
             obtain ⟨C', ρ', hl11180, HA, hL, hback⟩ := Hp.lend (A := []) (L := [Arr v11166 256 c11167, Arr v11168 1 c11169, Arr v11170 1 c11171]) (F := Arr v5997 256 c7473 :: Arr v6001 1 c7476 :: Arr v9100 1 c9101 :: Box b11162 [.slice none 0 0, .slice none 0 0, .slice none 0 0] :: Arr v11096 256 c11097 :: Arr v11098 1 c11099 :: Arr v11100 1 c11101 :: Arr v11081 256 c11082 :: Arr v11083 1 c11084 :: Arr v11085 1 c11086 :: Box b11077 [.slice none 0 0, .slice none 0 0, .slice none 0 0] :: Box b5809 [v1, v4, v7] :: Box b5996 [v5997, v6001, v9100] :: hs) H
             refine d1 (de rfl (E_call fn16 rfl (c_16 HA (gl0.up hl11180) (arr_rd (by decide) hl11180 (hL (Arr v11166 256 c11167) (by simp)) r11175) (arr_rd (by decide) hl11180 (hL (Arr v11168 1 c11169) (by simp)) r11176) (arr_rd (by decide) hl11180 (hL (Arr v11170 1 c11171) (by simp)) r11177) hq11179)) rfl rfl ?_)
             rintro _ wd11193 ⟨v11181, c11182, v11183, c11184, v11185, c11186, x11187, x11188, x11189, rfl, rfl, r11190, r11191, r11192, H⟩
             try dsimp only at ho10440
             replace H := hback H
             replace r11190 := rdL.flat (ρ := ρ') (ρ' := ρ) (flat_A _ (flat_I _)) r11190
             replace r11191 := rdL.flat (ρ := ρ') (ρ' := ρ) (flat_I _) r11191
             replace r11192 := rdL.flat (ρ := ρ') (ρ' := ρ) (flat_I _) r11192
             dsimp only [List.cons_append, List.nil_append] at H
             refine ⟨H.okS (by simp), ?_⟩
             refine d1 (de rfl (E_stB (k := 16) (cs := [v11096, v11098, v11100]) (vs' := [v11096, v11098, v11100]) H rfl ty25 rfl rfl rfl rfl (one_cons (arr_cells (H.ok.get (k := 10) rfl)).2 (one_cons (arr_cells (H.ok.get (k := 11) rfl)).2 (one_cons (arr_cells (H.ok.get (k := 12) rfl)).2 one_nil))) (by simp) rfl) rfl rfl ?_)
             rintro _ wd11194 H
             dsimp only [List.set] at H
             refine ⟨H.okS (by simp), ?_⟩
             refine d1 (de rfl (E_stB (k := 9) (cs := [v11181, v11183, v11185]) (vs' := [v11181, v11183, v11185]) H rfl ty25 rfl rfl rfl rfl (one_cons (arr_cells (H.ok.get (k := 0) rfl)).2 (one_cons (arr_cells (H.ok.get (k := 1) rfl)).2 (one_cons (arr_cells (H.ok.get (k := 2) rfl)).2 one_nil))) (by simp) rfl) rfl rfl ?_)
             rintro _ wd11195 H
             dsimp only [List.set] at H
             refine ⟨H.okS (by simp), ?_⟩
             refine DL_nil ?_
             replace H := H.f8
             replace H := H.f8
             replace H := H.f8
             replace H := H.front 18 rfl
             dsimp only [List.eraseIdx] at H
             replace H := H.f6
             replace H := H.f6
             replace H := H.f6
             replace H := H.f10
             replace H := H.f13
             replace H := H.f13
             replace H := H.f13
             replace H := H.front 17 rfl
             dsimp only [List.eraseIdx] at H
             replace H := H.drop 12 rfl
             dsimp only [List.eraseIdx] at H
             replace H := H.drop 12 rfl
             dsimp only [List.eraseIdx] at H
             replace H := H.drop 12 rfl
             dsimp only [List.eraseIdx] at H
             replace H := H.drop 12 rfl
             dsimp only [List.eraseIdx] at H
             replace H := H.drop 12 rfl
             dsimp only [List.eraseIdx] at H
             replace H := H.drop 12 rfl
             dsimp only [List.eraseIdx] at H
             replace H := H.drop 12 rfl
             dsimp only [List.eraseIdx] at H
             obtain rfl := Option.some.inj ho10440
             refine x_A fun a hf => ⟨b11077, v11096, c11097, v11098, c11099, v11100, c11101, b11162, v11181, c11182, v11183, c11184, v11185, c11186, x11102, x11103, x11104, x11187, x11188, x11189, rfl, r11105, r11106, r11107, r11190, r11191, r11192, hf.sub ⟨rfl, rfl, rfl, trivial⟩, H⟩
           ·refine de rfl (E_alloc H ty25 (zs := [.slice none 0 0, .slice none 0 0, .slice none 0 0]) rfl) rfl rfl ?_
            rintro _ wd11197 ⟨b11196, rfl, H⟩
            refine ⟨H.okS (by simp), ?_⟩
            replace H := H.f3
            replace H := H.f3
            replace H := H.f3
            obtain ⟨q11198, hq11198, ho10440⟩ := bnd ho10440
            obtain ⟨C', ρ', hl11199, HA, hL, hback⟩ := Hp.lend (A := []) (L := [Arr v11081 256 c11082, Arr v11083 1 c11084, Arr v11085 1 c11086]) (F := Box b11196 [.slice none 0 0, .slice none 0 0, .slice none 0 0] :: Box b11077 [.slice none 0 0, .slice none 0 0, .slice none 0 0] :: Box b5809 [v1, v4, v7] :: Box b5996 [v5997, v6001, v9100] :: Arr v5997 256 c7473 :: Arr v6001 1 c7476 :: Arr v9100 1 c9101 :: hs) H
            refine d1 (de rfl (E_call fn16 rfl (c_16 HA (gl0.up hl11199) (arr_rd (by decide) hl11199 (hL (Arr v11081 256 c11082) (by simp)) r11090) (arr_rd (by decide) hl11199 (hL (Arr v11083 1 c11084) (by simp)) r11091) (arr_rd (by decide) hl11199 (hL (Arr v11085 1 c11086) (by simp)) r11092) hq11198)) rfl rfl ?_)
            rintro _ wd11212 ⟨v11200, c11201, v11202, c11203, v11204, c11205, x11206, x11207, x11208, rfl, rfl, r11209, r11210, r11211, H⟩
            try dsimp only at ho10440
            replace H := hback H
            replace r11209 := rdL.flat (ρ := ρ') (ρ' := ρ) (flat_A _ (flat_I _)) r11209
            replace r11210 := rdL.flat (ρ := ρ') (ρ' := ρ) (flat_I _) r11210
            replace r11211 := rdL.flat (ρ := ρ') (ρ' := ρ) (flat_I _) r11211
            dsimp only [List.cons_append, List.nil_append] at H
            refine ⟨H.okS (by simp), ?_⟩
            replace H := H.f12
            replace H := H.f12
            replace H := H.f12
            obtain ⟨q11213, hq11213, ho10440⟩ := bnd ho10440
            obtain ⟨C', ρ', hl11214, HA, hL, hback⟩ := Hp.lend (A := []) (L := [Arr v5997 256 c7473, Arr v6001 1 c7476, Arr v9100 1 c9101]) (F := Arr v11200 256 c11201 :: Arr v11202 1 c11203 :: Arr v11204 1 c11205 :: Arr v11081 256 c11082 :: Arr v11083 1 c11084 :: Arr v11085 1 c11086 :: Box b11196 [.slice none 0 0, .slice none 0 0, .slice none 0 0] :: Box b11077 [.slice none 0 0, .slice none 0 0, .slice none 0 0] :: Box b5809 [v1, v4, v7] :: Box b5996 [v5997, v6001, v9100] :: hs) H
            refine d1 (de rfl (E_call fn45 rfl (c_45 HA (gl0.up hl11214) (GTab.up hl11214 gl1) (arr_rd (by decide) hl11214 (hL (Arr v5997 256 c7473) (by simp)) r7475) (arr_rd (by decide) hl11214 (hL (Arr v6001 1 c7476) (by simp)) r7478) (arr_rd (by decide) hl11214 (hL (Arr v9100 1 c9101) (by simp)) r9103) hq11213)) rfl rfl ?_)
            rintro _ wd11227 ⟨v11215, c11216, v11217, c11218, v11219, c11220, x11221, x11222, x11223, rfl, rfl, r11224, r11225, r11226, H⟩
            try dsimp only at ho10440
            replace H := hback H
            replace r11224 := rdL.flat (ρ := ρ') (ρ' := ρ) (flat_A _ (flat_I _)) r11224
            replace r11225 := rdL.flat (ρ := ρ') (ρ' := ρ) (flat_I _) r11225
            replace r11226 := rdL.flat (ρ := ρ') (ρ' := ρ) (flat_I _) r11226
            dsimp only [List.cons_append, List.nil_append] at H
            refine ⟨H.okS (by simp), ?_⟩
            replace H := H.f2
            replace H := H.f2
            replace H := H.f2
            obtain ⟨q11228, hq11228, ho10440⟩ := bnd ho10440
            obtain ⟨C', ρ', hl11229, HA, hL, hback⟩ := Hp.lend (A := []) (L := [Arr v11215 256 c11216, Arr v11217 1 c11218, Arr v11219 1 c11220]) (F := Arr v5997 256 c7473 :: Arr v6001 1 c7476 :: Arr v9100 1 c9101 :: Arr v11200 256 c11201 :: Arr v11202 1 c11203 :: Arr v11204 1 c11205 :: Arr v11081 256 c11082 :: Arr v11083 1 c11084 :: Arr v11085 1 c11086 :: Box b11196 [.slice none 0 0, .slice none 0 0, .slice none 0 0] :: Box b11077 [.slice none 0 0, .slice none 0 0, .slice none 0 0] :: Box b5809 [v1, v4, v7] :: Box b5996 [v5997, v6001, v9100] :: hs) H
            refine d1 (de rfl (E_call fn16 rfl (c_16 HA (gl0.up hl11229) (arr_rd (by decide) hl11229 (hL (Arr v11215 256 c11216) (by simp)) r11224) (arr_rd (by decide) hl11229 (hL (Arr v11217 1 c11218) (by simp)) r11225) (arr_rd (by decide) hl11229 (hL (Arr v11219 1 c11220) (by simp)) r11226) hq11228)) rfl rfl ?_)
            rintro _ wd11242 ⟨v11230, c11231, v11232, c11233, v11234, c11235, x11236, x11237, x11238, rfl, rfl, r11239, r11240, r11241, H⟩
            try dsimp only at ho10440
            replace H := hback H
            replace r11239 := rdL.flat (ρ := ρ') (ρ' := ρ) (flat_A _ (flat_I _)) r11239
            replace r11240 := rdL.flat (ρ := ρ') (ρ' := ρ) (flat_I _) r11240
            replace r11241 := rdL.flat (ρ := ρ') (ρ' := ρ) (flat_I _) r11241
            dsimp only [List.cons_append, List.nil_append] at H
            refine ⟨H.okS (by simp), ?_⟩
            refine d1 (de rfl (E_stB (k := 16) (cs := [v11200, v11202, v11204]) (vs' := [v11200, v11202, v11204]) H rfl ty25 rfl rfl rfl rfl (one_cons (arr_cells (H.ok.get (k := 9) rfl)).2 (one_cons (arr_cells (H.ok.get (k := 10) rfl)).2 (one_cons (arr_cells (H.ok.get (k := 11) rfl)).2 one_nil))) (by simp) rfl) rfl rfl ?_)
            rintro _ wd11243 H
            dsimp only [List.set] at H
            refine ⟨H.okS (by simp), ?_⟩
            refine d1 (de rfl (E_stB (k := 15) (cs := [v11230, v11232, v11234]) (vs' := [v11230, v11232, v11234]) H rfl ty25 rfl rfl rfl rfl (one_cons (arr_cells (H.ok.get (k := 0) rfl)).2 (one_cons (arr_cells (H.ok.get (k := 1) rfl)).2 (one_cons (arr_cells (H.ok.get (k := 2) rfl)).2 one_nil))) (by simp) rfl) rfl rfl ?_)
            rintro _ wd11244 H
            dsimp only [List.set] at H
            refine ⟨H.okS (by simp), ?_⟩
            refine DL_nil ?_
            replace H := H.f8
            replace H := H.f8
            replace H := H.f8
            replace H := H.front 18 rfl
            dsimp only [List.eraseIdx] at H
            replace H := H.f6
            replace H := H.f6
            replace H := H.f6
            replace H := H.front 16 rfl
            dsimp only [List.eraseIdx] at H
            replace H := H.f13
            replace H := H.f13
            replace H := H.f13
            replace H := H.front 17 rfl
            dsimp only [List.eraseIdx] at H
            replace H := H.drop 12 rfl
            dsimp only [List.eraseIdx] at H
            replace H := H.drop 12 rfl
            dsimp only [List.eraseIdx] at H
            replace H := H.drop 12 rfl
            dsimp only [List.eraseIdx] at H
            replace H := H.drop 12 rfl
            dsimp only [List.eraseIdx] at H
            replace H := H.drop 12 rfl
            dsimp only [List.eraseIdx] at H
            replace H := H.drop 12 rfl
            dsimp only [List.eraseIdx] at H
            replace H := H.drop 12 rfl
            dsimp only [List.eraseIdx] at H
            obtain rfl := Option.some.inj ho10440
            refine x_A fun a hf => ⟨b11077, v11200, c11201, v11202, c11203, v11204, c11205, b11196, v11230, c11231, v11232, c11233, v11234, c11235, x11206, x11207, x11208, x11236, x11237, x11238, rfl, r11209, r11210, r11211, r11239, r11240, r11241, hf.sub ⟨rfl, rfl, rfl, trivial⟩, H⟩
          ·refine de rfl (E_alloc H ty25 (zs := [.slice none 0 0, .slice none 0 0, .slice none 0 0]) rfl) rfl rfl ?_
           rintro _ wd11246 ⟨b11245, rfl, H⟩
           refine ⟨H.okS (by simp), ?_⟩
           obtain ⟨q11247, hq11247, ho10440⟩ := bnd ho10440
           refine d1 (de rfl (E_call fn45 rfl (c_45 H gl0 gl1 r3 r6 r9 hq11247)) rfl rfl ?_)
           rintro _ wd11261 ⟨v11249, c11250, v11251, c11252, v11253, c11254, x11255, x11256, x11257, rfl, rfl, r11258, r11259, r11260, H⟩
           try dsimp only at ho10440
           refine ⟨H.okS (by simp), ?_⟩
           replace H := H.f2
           replace H := H.f2
           replace H := H.f2
           obtain ⟨q11262, hq11262, ho10440⟩ := bnd ho10440
           obtain ⟨C', ρ', hl11263, HA, hL, hback⟩ := Hp.lend (A := []) (L := [Arr v11249 256 c11250, Arr v11251 1 c11252, Arr v11253 1 c11254]) (F := Box b11245 [.slice none 0 0, .slice none 0 0, .slice none 0 0] :: Box b11077 [.slice none 0 0, .slice none 0 0, .slice none 0 0] :: Box b5809 [v1, v4, v7] :: Box b5996 [v5997, v6001, v9100] :: Arr v5997 256 c7473 :: Arr v6001 1 c7476 :: Arr v9100 1 c9101 :: hs) H
           refine d1 (de rfl (E_call fn16 rfl (c_16 HA (gl0.up hl11263) (arr_rd (by decide) hl11263 (hL (Arr v11249 256 c11250) (by simp)) r11258) (arr_rd (by decide) hl11263 (hL (Arr v11251 1 c11252) (by simp)) r11259) (arr_rd (by decide) hl11263 (hL (Arr v11253 1 c11254) (by simp)) r11260) hq11262)) rfl rfl ?_)
           rintro _ wd11276 ⟨v11264, c11265, v11266, c11267, v11268, c11269, x11270, x11271, x11272, rfl, rfl, r11273, r11274, r11275, H⟩
           try dsimp only at ho10440
           replace H := hback H
           replace r11273 := rdL.flat (ρ := ρ') (ρ' := ρ) (flat_A _ (flat_I _)) r11273
           replace r11274 := rdL.flat (ρ := ρ') (ρ' := ρ) (flat_I _) r11274
           replace r11275 := rdL.flat (ρ := ρ') (ρ' := ρ) (flat_I _) r11275
           dsimp only [List.cons_append, List.nil_append] at H
           refine ⟨H.okS (by simp), ?_⟩
           replace H := H.f12
           replace H := H.f12
           replace H := H.f12
           obtain ⟨q11277, hq11277, ho10440⟩ := bnd ho10440
           obtain ⟨C', ρ', hl11278, HA, hL, hback⟩ := Hp.lend (A := []) (L := [Arr v5997 256 c7473, Arr v6001 1 c7476, Arr v9100 1 c9101]) (F := Arr v11264 256 c11265 :: Arr v11266 1 c11267 :: Arr v11268 1 c11269 :: Arr v11249 256 c11250 :: Arr v11251 1 c11252 :: Arr v11253 1 c11254 :: Box b11245 [.slice none 0 0, .slice none 0 0, .slice none 0 0] :: Box b11077 [.slice none 0 0, .slice none 0 0, .slice none 0 0] :: Box b5809 [v1, v4, v7] :: Box b5996 [v5997, v6001, v9100] :: hs) H
           refine d1 (de rfl (E_call fn45 rfl (c_45 HA (gl0.up hl11278) (GTab.up hl11278 gl1) (arr_rd (by decide) hl11278 (hL (Arr v5997 256 c7473) (by simp)) r7475) (arr_rd (by decide) hl11278 (hL (Arr v6001 1 c7476) (by simp)) r7478) (arr_rd (by decide) hl11278 (hL (Arr v9100 1 c9101) (by simp)) r9103) hq11277)) rfl rfl ?_)
           rintro _ wd11291 ⟨v11279, c11280, v11281, c11282, v11283, c11284, x11285, x11286, x11287, rfl, rfl, r11288, r11289, r11290, H⟩
           try dsimp only at ho10440
           replace H := hback H
           replace r11288 := rdL.flat (ρ := ρ') (ρ' := ρ) (flat_A _ (flat_I _)) r11288
           replace r11289 := rdL.flat (ρ := ρ') (ρ' := ρ) (flat_I _) r11289
           replace r11290 := rdL.flat (ρ := ρ') (ρ' := ρ) (flat_I _) r11290
           dsimp only [List.cons_append, List.nil_append] at H
           refine ⟨H.okS (by simp), ?_⟩
           replace H := H.f2
           replace H := H.f2
           replace H := H.f2
           obtain ⟨q11292, hq11292, ho10440⟩ := bnd ho10440
           obtain ⟨C', ρ', hl11293, HA, hL, hback⟩ := Hp.lend (A := []) (L := [Arr v11279 256 c11280, Arr v11281 1 c11282, Arr v11283 1 c11284]) (F := Arr v5997 256 c7473 :: Arr v6001 1 c7476 :: Arr v9100 1 c9101 :: Arr v11264 256 c11265 :: Arr v11266 1 c11267 :: Arr v11268 1 c11269 :: Arr v11249 256 c11250 :: Arr v11251 1 c11252 :: Arr v11253 1 c11254 :: Box b11245 [.slice none 0 0, .slice none 0 0, .slice none 0 0] :: Box b11077 [.slice none 0 0, .slice none 0 0, .slice none 0 0] :: Box b5809 [v1, v4, v7] :: Box b5996 [v5997, v6001, v9100] :: hs) H
           refine d1 (de rfl (E_call fn16 rfl (c_16 HA (gl0.up hl11293) (arr_rd (by decide) hl11293 (hL (Arr v11279 256 c11280) (by simp)) r11288) (arr_rd (by decide) hl11293 (hL (Arr v11281 1 c11282) (by simp)) r11289) (arr_rd (by decide) hl11293 (hL (Arr v11283 1 c11284) (by simp)) r11290) hq11292)) rfl rfl ?_)
           rintro _ wd11306 ⟨v11294, c11295, v11296, c11297, v11298, c11299, x11300, x11301, x11302, rfl, rfl, r11303, r11304, r11305, H⟩
           try dsimp only at ho10440
           replace H := hback H
           replace r11303 := rdL.flat (ρ := ρ') (ρ' := ρ) (flat_A _ (flat_I _)) r11303
           replace r11304 := rdL.flat (ρ := ρ') (ρ' := ρ) (flat_I _) r11304
           replace r11305 := rdL.flat (ρ := ρ') (ρ' := ρ) (flat_I _) r11305
           dsimp only [List.cons_append, List.nil_append] at H
           refine ⟨H.okS (by simp), ?_⟩
           refine d1 (de rfl (E_stB (k := 16) (cs := [v11264, v11266, v11268]) (vs' := [v11264, v11266, v11268]) H rfl ty25 rfl rfl rfl rfl (one_cons (arr_cells (H.ok.get (k := 9) rfl)).2 (one_cons (arr_cells (H.ok.get (k := 10) rfl)).2 (one_cons (arr_cells (H.ok.get (k := 11) rfl)).2 one_nil))) (by simp) rfl) rfl rfl ?_)
           rintro _ wd11307 H
           dsimp only [List.set] at H
           refine ⟨H.okS (by simp), ?_⟩
           refine d1 (de rfl (E_stB (k := 15) (cs := [v11294, v11296, v11298]) (vs' := [v11294, v11296, v11298]) H rfl ty25 rfl rfl rfl rfl (one_cons (arr_cells (H.ok.get (k := 0) rfl)).2 (one_cons (arr_cells (H.ok.get (k := 1) rfl)).2 (one_cons (arr_cells (H.ok.get (k := 2) rfl)).2 one_nil))) (by simp) rfl) rfl rfl ?_)
           rintro _ wd11308 H
           dsimp only [List.set] at H
           refine ⟨H.okS (by simp), ?_⟩
           refine DL_nil ?_
           replace H := H.f8
           replace H := H.f8
           replace H := H.f8
           replace H := H.front 18 rfl
           dsimp only [List.eraseIdx] at H
           replace H := H.f6
           replace H := H.f6
           replace H := H.f6
           replace H := H.front 16 rfl
           dsimp only [List.eraseIdx] at H
           replace H := H.f13
           replace H := H.f13
           replace H := H.f13
           replace H := H.front 17 rfl
           dsimp only [List.eraseIdx] at H
           replace H := H.drop 12 rfl
           dsimp only [List.eraseIdx] at H
           replace H := H.drop 12 rfl
           dsimp only [List.eraseIdx] at H
           replace H := H.drop 12 rfl
           dsimp only [List.eraseIdx] at H
           replace H := H.drop 12 rfl
           dsimp only [List.eraseIdx] at H
           replace H := H.drop 12 rfl
           dsimp only [List.eraseIdx] at H
           replace H := H.drop 12 rfl
           dsimp only [List.eraseIdx] at H
           replace H := H.drop 12 rfl
           dsimp only [List.eraseIdx] at H
           obtain rfl := Option.some.inj ho10440
           refine x_A fun a hf => ⟨b11077, v11264, c11265, v11266, c11267, v11268, c11269, b11245, v11294, c11295, v11296, c11297, v11298, c11299, x11270, x11271, x11272, x11300, x11301, x11302, rfl, r11273, r11274, r11275, r11303, r11304, r11305, hf.sub ⟨rfl, rfl, rfl, trivial⟩, H⟩
         ·refine de rfl (E_alloc H ty25 (zs := [.slice none 0 0, .slice none 0 0, .slice none 0 0]) rfl) rfl rfl ?_
          rintro _ wd11310 ⟨b11309, rfl, H⟩
          refine ⟨H.okS (by simp), ?_⟩
          refine d2 ?_ ?_
          ·obtain ⟨q11311, hq11311, ho10440⟩ := bnd ho10440
           refine de rfl (E_call fn45 rfl (c_45 H gl0 gl1 r3 r6 r9 hq11311)) rfl rfl ?_
           rintro _ wd11325 ⟨v11313, c11314, v11315, c11316, v11317, c11318, x11319, x11320, x11321, rfl, rfl, r11322, r11323, r11324, H⟩
           try dsimp only at ho10440
           refine ⟨H.okS (by simp), ?_⟩
           refine d2 ?_ ?_
           ·replace H := H.f2
            replace H := H.f2
            replace H := H.f2
            obtain ⟨q11326, hq11326, ho10440⟩ := bnd ho10440
            obtain ⟨C', ρ', hl11327, HA, hL, hback⟩ := Hp.lend (A := []) (L := [Arr v11313 256 c11314, Arr v11315 1 c11316, Arr v11317 1 c11318]) (F := Box b11309 [.slice none 0 0, .slice none 0 0, .slice none 0 0] :: Box b5809 [v1, v4, v7] :: Box b5996 [v5997, v6001, v9100] :: Arr v5997 256 c7473 :: Arr v6001 1 c7476 :: Arr v9100 1 c9101 :: hs) H
            refine de rfl (E_call fn16 rfl (c_16 HA (gl0.up hl11327) (arr_rd (by decide) hl11327 (hL (Arr v11313 256 c11314) (by simp)) r11322) (arr_rd (by decide) hl11327 (hL (Arr v11315 1 c11316) (by simp)) r11323) (arr_rd (by decide) hl11327 (hL (Arr v11317 1 c11318) (by simp)) r11324) hq11326)) rfl rfl ?_
            rintro _ wd11340 ⟨v11328, c11329, v11330, c11331, v11332, c11333, x11334, x11335, x11336, rfl, rfl, r11337, r11338, r11339, H⟩
            try dsimp only at ho10440
            replace H := hback H
            replace r11337 := rdL.flat (ρ := ρ') (ρ' := ρ) (flat_A _ (flat_I _)) r11337
            replace r11338 := rdL.flat (ρ := ρ') (ρ' := ρ) (flat_I _) r11338
            replace r11339 := rdL.flat (ρ := ρ') (ρ' := ρ) (flat_I _) r11339
            dsimp only [List.cons_append, List.nil_append] at H
            refine ⟨H.okS (by simp), ?_⟩
            refine d2 ?_ ?_
            ·replace H := H.f11
             replace H := H.f11
             replace H := H.f11
             obtain ⟨q11341, hq11341, ho10440⟩ := bnd ho10440
             obtain ⟨C', ρ', hl11342, HA, hL, hback⟩ := Hp.lend (A := []) (L := [Arr v5997 256 c7473, Arr v6001 1 c7476, Arr v9100 1 c9101]) (F := Arr v11328 256 c11329 :: Arr v11330 1 c11331 :: Arr v11332 1 c11333 :: Arr v11313 256 c11314 :: Arr v11315 1 c11316 :: Arr v11317 1 c11318 :: Box b11309 [.slice none 0 0, .slice none 0 0, .slice none 0 0] :: Box b5809 [v1, v4, v7] :: Box b5996 [v5997, v6001, v9100] :: hs) H
             refine de rfl (E_call fn45 rfl (c_45 HA (gl0.up hl11342) (GTab.up hl11342 gl1) (arr_rd (by decide) hl11342 (hL (Arr v5997 256 c7473) (by simp)) r7475) (arr_rd (by decide) hl11342 (hL (Arr v6001 1 c7476) (by simp)) r7478) (arr_rd (by decide) hl11342 (hL (Arr v9100 1 c9101) (by simp)) r9103) hq11341)) rfl rfl ?_
             rintro _ wd11355 ⟨v11343, c11344, v11345, c11346, v11347, c11348, x11349, x11350, x11351, rfl, rfl, r11352, r11353, r11354, H⟩
             try dsimp only at ho10440
             replace H := hback H
             replace r11352 := rdL.flat (ρ := ρ') (ρ' := ρ) (flat_A _ (flat_I _)) r11352
             replace r11353 := rdL.flat (ρ := ρ') (ρ' := ρ) (flat_I _) r11353
             replace r11354 := rdL.flat (ρ := ρ') (ρ' := ρ) (flat_I _) r11354
             dsimp only [List.cons_append, List.nil_append] at H
             refine ⟨H.okS (by simp), ?_⟩
             refine d2 ?_ ?_
             ·replace H := H.f2
              replace H := H.f2
              replace H := H.f2
              obtain ⟨q11356, hq11356, ho10440⟩ := bnd ho10440
              obtain ⟨C', ρ', hl11357, HA, hL, hback⟩ := Hp.lend (A := []) (L := [Arr v11343 256 c11344, Arr v11345 1 c11346, Arr v11347 1 c11348]) (F := Arr v5997 256 c7473 :: Arr v6001 1 c7476 :: Arr v9100 1 c9101 :: Arr v11328 256 c11329 :: Arr v11330 1 c11331 :: Arr v11332 1 c11333 :: Arr v11313 256 c11314 :: Arr v11315 1 c11316 :: Arr v11317 1 c11318 :: Box b11309 [.slice none 0 0, .slice none 0 0, .slice none 0 0] :: Box b5809 [v1, v4, v7] :: Box b5996 [v5997, v6001, v9100] :: hs) H
              refine de rfl (E_call fn16 rfl (c_16 HA (gl0.up hl11357) (arr_rd (by decide) hl11357 (hL (Arr v11343 256 c11344) (by simp)) r11352) (arr_rd (by decide) hl11357 (hL (Arr v11345 1 c11346) (by simp)) r11353) (arr_rd (by decide) hl11357 (hL (Arr v11347 1 c11348) (by simp)) r11354) hq11356)) rfl rfl ?_
              rintro _ wd11370 ⟨v11358, c11359, v11360, c11361, v11362, c11363, x11364, x11365, x11366, rfl, rfl, r11367, r11368, r11369, H⟩
              try dsimp only at ho10440
              replace H := hback H
              replace r11367 := rdL.flat (ρ := ρ') (ρ' := ρ) (flat_A _ (flat_I _)) r11367
              replace r11368 := rdL.flat (ρ := ρ') (ρ' := ρ) (flat_I _) r11368
              replace r11369 := rdL.flat (ρ := ρ') (ρ' := ρ) (flat_I _) r11369
              dsimp only [List.cons_append, List.nil_append] at H
              refine ⟨H.okS (by simp), ?_⟩
              refine d1 (de rfl (E_alloc H ty25 (zs := [.slice none 0 0, .slice none 0 0, .slice none 0 0]) rfl) rfl rfl ?_)
              rintro _ wd11372 ⟨b11371, rfl, H⟩
              refine ⟨H.okS (by simp), ?_⟩
              refine d1 (de rfl (E_stB (k := 0) (cs := [v11328, v11330, v11332]) (vs' := [v11328, v11330, v11332]) H rfl ty25 rfl rfl rfl rfl (one_cons (arr_cells (H.ok.get (k := 10) rfl)).2 (one_cons (arr_cells (H.ok.get (k := 11) rfl)).2 (one_cons (arr_cells (H.ok.get (k := 12) rfl)).2 one_nil))) (by simp) rfl) rfl rfl ?_)
              rintro _ wd11373 H
              dsimp only [List.set] at H
              refine ⟨H.okS (by simp), ?_⟩
              refine d1 (de rfl (E_stB (k := 16) (cs := [v11358, v11360, v11362]) (vs' := [v11358, v11360, v11362]) H rfl ty25 rfl rfl rfl rfl (one_cons (arr_cells (H.ok.get (k := 1) rfl)).2 (one_cons (arr_cells (H.ok.get (k := 2) rfl)).2 (one_cons (arr_cells (H.ok.get (k := 3) rfl)).2 one_nil))) (by simp) rfl) rfl rfl ?_)
              rintro _ wd11374 H
              dsimp only [List.set] at H
              refine ⟨H.okS (by simp), ?_⟩
              refine DL_nil ?_
              replace H := H.f9
              replace H := H.f9
              replace H := H.f9
              replace H := H.front 18 rfl
              dsimp only [List.eraseIdx] at H
              replace H := H.f7
              replace H := H.f7
              replace H := H.f7
              replace H := H.front 17 rfl
              dsimp only [List.eraseIdx] at H
              replace H := H.f14
              replace H := H.f14
              replace H := H.f14
              replace H := H.f11
              replace H := H.drop 12 rfl
              dsimp only [List.eraseIdx] at H
              replace H := H.drop 12 rfl
              dsimp only [List.eraseIdx] at H
              replace H := H.drop 12 rfl
              dsimp only [List.eraseIdx] at H
              replace H := H.drop 12 rfl
              dsimp only [List.eraseIdx] at H
              replace H := H.drop 12 rfl
              dsimp only [List.eraseIdx] at H
              replace H := H.drop 12 rfl
              dsimp only [List.eraseIdx] at H
              replace H := H.drop 12 rfl
              dsimp only [List.eraseIdx] at H
              obtain rfl := Option.some.inj ho10440
              refine x_A fun a hf => ⟨b11371, v11328, c11329, v11330, c11331, v11332, c11333, b11309, v11358, c11359, v11360, c11361, v11362, c11363, x11334, x11335, x11336, x11364, x11365, x11366, rfl, r11337, r11338, r11339, r11367, r11368, r11369, hf.sub ⟨rfl, rfl, rfl, trivial⟩, H⟩
             ·refine de rfl (E_alloc H ty25 (zs := [.slice none 0 0, .slice none 0 0, .slice none 0 0]) rfl) rfl rfl ?_
              rintro _ wd11376 ⟨b11375, rfl, H⟩
              refine ⟨H.okS (by simp), ?_⟩
              replace H := H.f3
              replace H := H.f3
              replace H := H.f3
              obtain ⟨q11377, hq11377, ho10440⟩ := bnd ho10440
              obtain ⟨C', ρ', hl11378, HA, hL, hback⟩ := Hp.lend (A := []) (L := [Arr v11343 256 c11344, Arr v11345 1 c11346, Arr v11347 1 c11348]) (F := Box b11375 [.slice none 0 0, .slice none 0 0, .slice none 0 0] :: Arr v5997 256 c7473 :: Arr v6001 1 c7476 :: Arr v9100 1 c9101 :: Arr v11328 256 c11329 :: Arr v11330 1 c11331 :: Arr v11332 1 c11333 :: Arr v11313 256 c11314 :: Arr v11315 1 c11316 :: Arr v11317 1 c11318 :: Box b11309 [.slice none 0 0, .slice none 0 0, .slice none 0 0] :: Box b5809 [v1, v4, v7] :: Box b5996 [v5997, v6001, v9100] :: hs) H
              refine d1 (de rfl (E_call fn16 rfl (c_16 HA (gl0.up hl11378) (arr_rd (by decide) hl11378 (hL (Arr v11343 256 c11344) (by simp)) r11352) (arr_rd (by decide) hl11378 (hL (Arr v11345 1 c11346) (by simp)) r11353) (arr_rd (by decide) hl11378 (hL (Arr v11347 1 c11348) (by simp)) r11354) hq11377)) rfl rfl ?_)
              rintro _ wd11391 ⟨v11379, c11380, v11381, c11382, v11383, c11384, x11385, x11386, x11387, rfl, rfl, r11388, r11389, r11390, H⟩
              try dsimp only at ho10440
              replace H := hback H
              replace r11388 := rdL.flat (ρ := ρ') (ρ' := ρ) (flat_A _ (flat_I _)) r11388
              replace r11389 := rdL.flat (ρ := ρ') (ρ' := ρ) (flat_I _) r11389
              replace r11390 := rdL.flat (ρ := ρ') (ρ' := ρ) (flat_I _) r11390
              dsimp only [List.cons_append, List.nil_append] at H
              refine ⟨H.okS (by simp), ?_⟩
              refine d1 (de rfl (E_stB (k := 6) (cs := [v11328, v11330, v11332]) (vs' := [v11328, v11330, v11332]) H rfl ty25 rfl rfl rfl rfl (one_cons (arr_cells (H.ok.get (k := 10) rfl)).2 (one_cons (arr_cells (H.ok.get (k := 11) rfl)).2 (one_cons (arr_cells (H.ok.get (k := 12) rfl)).2 one_nil))) (by simp) rfl) rfl rfl ?_)
              rintro _ wd11392 H
              dsimp only [List.set] at H
              refine ⟨H.okS (by simp), ?_⟩
              refine d1 (de rfl (E_stB (k := 16) (cs := [v11379, v11381, v11383]) (vs' := [v11379, v11381, v11383]) H rfl ty25 rfl rfl rfl rfl (one_cons (arr_cells (H.ok.get (k := 0) rfl)).2 (one_cons (arr_cells (H.ok.get (k := 1) rfl)).2 (one_cons (arr_cells (H.ok.get (k := 2) rfl)).2 one_nil))) (by simp) rfl) rfl rfl ?_)
              rintro _ wd11393 H
              dsimp only [List.set] at H
              refine ⟨H.okS (by simp), ?_⟩
              refine DL_nil ?_
              replace H := H.f9
              replace H := H.f9
              replace H := H.f9
              replace H := H.front 18 rfl
              dsimp only [List.eraseIdx] at H
              replace H := H.f6
              replace H := H.f6
              replace H := H.f6
              replace H := H.front 17 rfl
              dsimp only [List.eraseIdx] at H
              replace H := H.f14
              replace H := H.f14
              replace H := H.f14
              replace H := H.f14
              replace H := H.drop 12 rfl
              dsimp only [List.eraseIdx] at H
              replace H := H.drop 12 rfl
              dsimp only [List.eraseIdx] at H
              replace H := H.drop 12 rfl
              dsimp only [List.eraseIdx] at H
              replace H := H.drop 12 rfl
              dsimp only [List.eraseIdx] at H
              replace H := H.drop 12 rfl
              dsimp only [List.eraseIdx] at H
              replace H := H.drop 12 rfl
              dsimp only [List.eraseIdx] at H
              replace H := H.drop 12 rfl
              dsimp only [List.eraseIdx] at H
              obtain rfl := Option.some.inj ho10440
              refine x_A fun a hf => ⟨b11375, v11328, c11329, v11330, c11331, v11332, c11333, b11309, v11379, c11380, v11381, c11382, v11383, c11384, x11334, x11335, x11336, x11385, x11386, x11387, rfl, r11337, r11338, r11339, r11388, r11389, r11390, hf.sub ⟨rfl, rfl, rfl, trivial⟩, H⟩
            ·refine de rfl (E_alloc H ty25 (zs := [.slice none 0 0, .slice none 0 0, .slice none 0 0]) rfl) rfl rfl ?_
             rintro _ wd11395 ⟨b11394, rfl, H⟩
             refine ⟨H.okS (by simp), ?_⟩
             replace H := H.f12
             replace H := H.f12
             replace H := H.f12
             obtain ⟨q11396, hq11396, ho10440⟩ := bnd ho10440
             obtain ⟨C', ρ', hl11397, HA, hL, hback⟩ := Hp.lend (A := []) (L := [Arr v5997 256 c7473, Arr v6001 1 c7476, Arr v9100 1 c9101]) (F := Box b11394 [.slice none 0 0, .slice none 0 0, .slice none 0 0] :: Arr v11328 256 c11329 :: Arr v11330 1 c11331 :: Arr v11332 1 c11333 :: Arr v11313 256 c11314 :: Arr v11315 1 c11316 :: Arr v11317 1 c11318 :: Box b11309 [.slice none 0 0, .slice none 0 0, .slice none 0 0] :: Box b5809 [v1, v4, v7] :: Box b5996 [v5997, v6001, v9100] :: hs) H
             refine d1 (de rfl (E_call fn45 rfl (c_45 HA (gl0.up hl11397) (GTab.up hl11397 gl1) (arr_rd (by decide) hl11397 (hL (Arr v5997 256 c7473) (by simp)) r7475) (arr_rd (by decide) hl11397 (hL (Arr v6001 1 c7476) (by simp)) r7478) (arr_rd (by decide) hl11397 (hL (Arr v9100 1 c9101) (by simp)) r9103) hq11396)) rfl rfl ?_)
             rintro _ wd11410 ⟨v11398, c11399, v11400, c11401, v11402, c11403, x11404, x11405, x11406, rfl, rfl, r11407, r11408, r11409, H⟩
             try dsimp only at ho10440
             replace H := hback H
             replace r11407 := rdL.flat (ρ := ρ') (ρ' := ρ) (flat_A _ (flat_I _)) r11407
             replace r11408 := rdL.flat (ρ := ρ') (ρ' := ρ) (flat_I _) r11408
             replace r11409 := rdL.flat (ρ := ρ') (ρ' := ρ) (flat_I _) r11409
             dsimp only [List.cons_append, List.nil_append] at H
             refine ⟨H.okS (by simp), ?_⟩
             replace H := H.f2
             replace H := H.f2
             replace H := H.f2
             obtain ⟨q11411, hq11411, ho10440⟩ := bnd ho10440
             obtain ⟨C', ρ', hl11412, HA, hL, hback⟩ := Hp.lend (A := []) (L := [Arr v11398 256 c11399, Arr v11400 1 c11401, Arr v11402 1 c11403]) (F := Arr v5997 256 c7473 :: Arr v6001 1 c7476 :: Arr v9100 1 c9101 :: Box b11394 [.slice none 0 0, .slice none 0 0, .slice none 0 0] :: Arr v11328 256 c11329 :: Arr v11330 1 c11331 :: Arr v11332 1 c11333 :: Arr v11313 256 c11314 :: Arr v11315 1 c11316 :: Arr v11317 1 c11318 :: Box b11309 [.slice none 0 0, .slice none 0 0, .slice none 0 0] :: Box b5809 [v1, v4, v7] :: Box b5996 [v5997, v6001, v9100] :: hs) H
             refine d1 (de rfl (E_call fn16 rfl (c_16 HA (gl0.up hl11412) (arr_rd (by decide) hl11412 (hL (Arr v11398 256 c11399) (by simp)) r11407) (arr_rd (by decide) hl11412 (hL (Arr v11400 1 c11401) (by simp)) r11408) (arr_rd (by decide) hl11412 (hL (Arr v11402 1 c11403) (by simp)) r11409) hq11411)) rfl rfl ?_)
             rintro _ wd11425 ⟨v11413, c11414, v11415, c11416, v11417, c11418, x11419, x11420, x11421, rfl, rfl, r11422, r11423, r11424, H⟩
             try dsimp only at ho10440
             replace H := hback H
             replace r11422 := rdL.flat (ρ := ρ') (ρ' := ρ) (flat_A _ (flat_I _)) r11422
             replace r11423 := rdL.flat (ρ := ρ') (ρ' := ρ) (flat_I _) r11423
             replace r11424 := rdL.flat (ρ := ρ') (ρ' := ρ) (flat_I _) r11424
             dsimp only [List.cons_append, List.nil_append] at H
             refine ⟨H.okS (by simp), ?_⟩
             refine d1 (de rfl (E_stB (k := 9) (cs := [v11328, v11330, v11332]) (vs' := [v11328, v11330, v11332]) H rfl ty25 rfl rfl rfl rfl (one_cons (arr_cells (H.ok.get (k := 10) rfl)).2 (one_cons (arr_cells (H.ok.get (k := 11) rfl)).2 (one_cons (arr_cells (H.ok.get (k := 12) rfl)).2 one_nil))) (by simp) rfl) rfl rfl ?_)
             rintro _ wd11426 H
             dsimp only [List.set] at H
             refine ⟨H.okS (by simp), ?_⟩
             refine d1 (de rfl (E_stB (k := 16) (cs := [v11413, v11415, v11417]) (vs' := [v11413, v11415, v11417]) H rfl ty25 rfl rfl rfl rfl (one_cons (arr_cells (H.ok.get (k := 0) rfl)).2 (one_cons (arr_cells (H.ok.get (k := 1) rfl)).2 (one_cons (arr_cells (H.ok.get (k := 2) rfl)).2 one_nil))) (by simp) rfl) rfl rfl ?_)
             rintro _ wd11427 H
             dsimp only [List.set] at H
             refine ⟨H.okS (by simp), ?_⟩
             refine DL_nil ?_
             replace H := H.f8
             replace H := H.f8
             replace H := H.f8
             replace H := H.front 18 rfl
             dsimp only [List.eraseIdx] at H
             replace H := H.f6
             replace H := H.f6
             replace H := H.f6
             replace H := H.front 17 rfl
             dsimp only [List.eraseIdx] at H
             replace H := H.f14
             replace H := H.f14
             replace H := H.f14
             replace H := H.f14
             replace H := H.drop 12 rfl
             dsimp only [List.eraseIdx] at H
             replace H := H.drop 12 rfl
             dsimp only [List.eraseIdx] at H
             replace H := H.drop 12 rfl
             dsimp only [List.eraseIdx] at H
             replace H := H.drop 12 rfl
             dsimp only [List.eraseIdx] at H
             replace H := H.drop 12 rfl
             dsimp only [List.eraseIdx] at H
             replace H := H.drop 12 rfl
             dsimp only [List.eraseIdx] at H
             replace H := H.drop 12 rfl
             dsimp only [List.eraseIdx] at H
             obtain rfl := Option.some.inj ho10440
             refine x_A fun a hf => ⟨b11394, v11328, c11329, v11330, c11331, v11332, c11333, b11309, v11413, c11414, v11415, c11416, v11417, c11418, x11334, x11335, x11336, x11419, x11420, x11421, rfl, r11337, r11338, r11339, r11422, r11423, r11424, hf.sub ⟨rfl, rfl, rfl, trivial⟩, H⟩
           ·refine de rfl (E_alloc H ty25 (zs := [.slice none 0 0, .slice none 0 0, .slice none 0 0]) rfl) rfl rfl ?_
            rintro _ wd11429 ⟨b11428, rfl, H⟩
            refine ⟨H.okS (by simp), ?_⟩
            replace H := H.f3
            replace H := H.f3
            replace H := H.f3
            obtain ⟨q11430, hq11430, ho10440⟩ := bnd ho10440
            obtain ⟨C', ρ', hl11431, HA, hL, hback⟩ := Hp.lend (A := []) (L := [Arr v11313 256 c11314, Arr v11315 1 c11316, Arr v11317 1 c11318]) (F := Box b11428 [.slice none 0 0, .slice none 0 0, .slice none 0 0] :: Box b11309 [.slice none 0 0, .slice none 0 0, .slice none 0 0] :: Box b5809 [v1, v4, v7] :: Box b5996 [v5997, v6001, v9100] :: Arr v5997 256 c7473 :: Arr v6001 1 c7476 :: Arr v9100 1 c9101 :: hs) H
            refine d1 (de rfl (E_call fn16 rfl (c_16 HA (gl0.up hl11431) (arr_rd (by decide) hl11431 (hL (Arr v11313 256 c11314) (by simp)) r11322) (arr_rd (by decide) hl11431 (hL (Arr v11315 1 c11316) (by simp)) r11323) (arr_rd (by decide) hl11431 (hL (Arr v11317 1 c11318) (by simp)) r11324) hq11430)) rfl rfl ?_)
            rintro _ wd11444 ⟨v11432, c11433, v11434, c11435, v11436, c11437, x11438, x11439, x11440, rfl, rfl, r11441, r11442, r11443, H⟩
            try dsimp only at ho10440
            replace H := hback H
            replace r11441 := rdL.flat (ρ := ρ') (ρ' := ρ) (flat_A _ (flat_I _)) r11441
            replace r11442 := rdL.flat (ρ := ρ') (ρ' := ρ) (flat_I _) r11442
            replace r11443 := rdL.flat (ρ := ρ') (ρ' := ρ) (flat_I _) r11443
            dsimp only [List.cons_append, List.nil_append] at H
            refine ⟨H.okS (by simp), ?_⟩
            replace H := H.f12
            replace H := H.f12
            replace H := H.f12
            obtain ⟨q11445, hq11445, ho10440⟩ := bnd ho10440
            obtain ⟨C', ρ', hl11446, HA, hL, hback⟩ := Hp.lend (A := []) (L := [Arr v5997 256 c7473, Arr v6001 1 c7476, Arr v9100 1 c9101]) (F := Arr v11432 256 c11433 :: Arr v11434 1 c11435 :: Arr v11436 1 c11437 :: Arr v11313 256 c11314 :: Arr v11315 1 c11316 :: Arr v11317 1 c11318 :: Box b11428 [.slice none 0 0, .slice none 0 0, .slice none 0 0] :: Box b11309 [.slice none 0 0, .slice none 0 0, .slice none 0 0] :: Box b5809 [v1, v4, v7] :: Box b5996 [v5997, v6001, v9100] :: hs) H
            refine d1 (de rfl (E_call fn45 rfl (c_45 HA (gl0.up hl11446) (GTab.up hl11446 gl1) (arr_rd (by decide) hl11446 (hL (Arr v5997 256 c7473) (by simp)) r7475) (arr_rd (by decide) hl11446 (hL (Arr v6001 1 c7476) (by simp)) r7478) (arr_rd (by decide) hl11446 (hL (Arr v9100 1 c9101) (by simp)) r9103) hq11445)) rfl rfl ?_)
            rintro _ wd11459 ⟨v11447, c11448, v11449, c11450, v11451, c11452, x11453, x11454, x11455, rfl, rfl, r11456, r11457, r11458, H⟩
            try dsimp only at ho10440
            replace H := hback H
            replace r11456 := rdL.flat (ρ := ρ') (ρ' := ρ) (flat_A _ (flat_I _)) r11456
            replace r11457 := rdL.flat (ρ := ρ') (ρ' := ρ) (flat_I _) r11457
            replace r11458 := rdL.flat (ρ := ρ') (ρ' := ρ) (flat_I _) r11458
            dsimp only [List.cons_append, List.nil_append] at H
            refine ⟨H.okS (by simp), ?_⟩
            replace H := H.f2
            replace H := H.f2
            replace H := H.f2
            obtain ⟨q11460, hq11460, ho10440⟩ := bnd ho10440
            obtain ⟨C', ρ', hl11461, HA, hL, hback⟩ := Hp.lend (A := []) (L := [Arr v11447 256 c11448, Arr v11449 1 c11450, Arr v11451 1 c11452]) (F := Arr v5997 256 c7473 :: Arr v6001 1 c7476 :: Arr v9100 1 c9101 :: Arr v11432 256 c11433 :: Arr v11434 1 c11435 :: Arr v11436 1 c11437 :: Arr v11313 256 c11314 :: Arr v11315 1 c11316 :: Arr v11317 1 c11318 :: Box b11428 [.slice none 0 0, .slice none 0 0, .slice none 0 0] :: Box b11309 [.slice none 0 0, .slice none 0 0, .slice none 0 0] :: Box b5809 [v1, v4, v7] :: Box b5996 [v5997, v6001, v9100] :: hs) H
            refine d1 (de rfl (E_call fn16 rfl (c_16 HA (gl0.up hl11461) (arr_rd (by decide) hl11461 (hL (Arr v11447 256 c11448) (by simp)) r11456) (arr_rd (by decide) hl11461 (hL (Arr v11449 1 c11450) (by simp)) r11457) (arr_rd (by decide) hl11461 (hL (Arr v11451 1 c11452) (by simp)) r11458) hq11460)) rfl rfl ?_)
            rintro _ wd11474 ⟨v11462, c11463, v11464, c11465, v11466, c11467, x11468, x11469, x11470, rfl, rfl, r11471, r11472, r11473, H⟩
            try dsimp only at ho10440
            replace H := hback H
            replace r11471 := rdL.flat (ρ := ρ') (ρ' := ρ) (flat_A _ (flat_I _)) r11471
            replace r11472 := rdL.flat (ρ := ρ') (ρ' := ρ) (flat_I _) r11472
            replace r11473 := rdL.flat (ρ := ρ') (ρ' := ρ) (flat_I _) r11473
            dsimp only [List.cons_append, List.nil_append] at H
            refine ⟨H.okS (by simp), ?_⟩
            refine d1 (de rfl (E_stB (k := 15) (cs := [v11432, v11434, v11436]) (vs' := [v11432, v11434, v11436]) H rfl ty25 rfl rfl rfl rfl (one_cons (arr_cells (H.ok.get (k := 9) rfl)).2 (one_cons (arr_cells (H.ok.get (k := 10) rfl)).2 (one_cons (arr_cells (H.ok.get (k := 11) rfl)).2 one_nil))) (by simp) rfl) rfl rfl ?_)
            rintro _ wd11475 H
            dsimp only [List.set] at H
            refine ⟨H.okS (by simp), ?_⟩
            refine d1 (de rfl (E_stB (k := 16) (cs := [v11462, v11464, v11466]) (vs' := [v11462, v11464, v11466]) H rfl ty25 rfl rfl rfl rfl (one_cons (arr_cells (H.ok.get (k := 0) rfl)).2 (one_cons (arr_cells (H.ok.get (k := 1) rfl)).2 (one_cons (arr_cells (H.ok.get (k := 2) rfl)).2 one_nil))) (by simp) rfl) rfl rfl ?_)
            rintro _ wd11476 H
            dsimp only [List.set] at H
            refine ⟨H.okS (by simp), ?_⟩
            refine DL_nil ?_
            replace H := H.f8
            replace H := H.f8
            replace H := H.f8
            replace H := H.front 18 rfl
            dsimp only [List.eraseIdx] at H
            replace H := H.f6
            replace H := H.f6
            replace H := H.f6
            replace H := H.front 17 rfl
            dsimp only [List.eraseIdx] at H
            replace H := H.f13
            replace H := H.f13
            replace H := H.f13
            replace H := H.front 17 rfl
            dsimp only [List.eraseIdx] at H
            replace H := H.drop 12 rfl
            dsimp only [List.eraseIdx] at H
            replace H := H.drop 12 rfl
            dsimp only [List.eraseIdx] at H
            replace H := H.drop 12 rfl
            dsimp only [List.eraseIdx] at H
            replace H := H.drop 12 rfl
            dsimp only [List.eraseIdx] at H
            replace H := H.drop 12 rfl
            dsimp only [List.eraseIdx] at H
            replace H := H.drop 12 rfl
            dsimp only [List.eraseIdx] at H
            replace H := H.drop 12 rfl
            dsimp only [List.eraseIdx] at H
            obtain rfl := Option.some.inj ho10440
            refine x_A fun a hf => ⟨b11428, v11432, c11433, v11434, c11435, v11436, c11437, b11309, v11462, c11463, v11464, c11465, v11466, c11467, x11438, x11439, x11440, x11468, x11469, x11470, rfl, r11441, r11442, r11443, r11471, r11472, r11473, hf.sub ⟨rfl, rfl, rfl, trivial⟩, H⟩
          ·refine de rfl (E_alloc H ty25 (zs := [.slice none 0 0, .slice none 0 0, .slice none 0 0]) rfl) rfl rfl ?_
           rintro _ wd11478 ⟨b11477, rfl, H⟩
           refine ⟨H.okS (by simp), ?_⟩
           obtain ⟨q11479, hq11479, ho10440⟩ := bnd ho10440
           refine d1 (de rfl (E_call fn45 rfl (c_45 H gl0 gl1 r3 r6 r9 hq11479)) rfl rfl ?_)
           rintro _ wd11493 ⟨v11481, c11482, v11483, c11484, v11485, c11486, x11487, x11488, x11489, rfl, rfl, r11490, r11491, r11492, H⟩
           try dsimp only at ho10440
           refine ⟨H.okS (by simp), ?_⟩
           replace H := H.f2
           replace H := H.f2
           replace H := H.f2
           obtain ⟨q11494, hq11494, ho10440⟩ := bnd ho10440
           obtain ⟨C', ρ', hl11495, HA, hL, hback⟩ := Hp.lend (A := []) (L := [Arr v11481 256 c11482, Arr v11483 1 c11484, Arr v11485 1 c11486]) (F := Box b11477 [.slice none 0 0, .slice none 0 0, .slice none 0 0] :: Box b11309 [.slice none 0 0, .slice none 0 0, .slice none 0 0] :: Box b5809 [v1, v4, v7] :: Box b5996 [v5997, v6001, v9100] :: Arr v5997 256 c7473 :: Arr v6001 1 c7476 :: Arr v9100 1 c9101 :: hs) H
           refine d1 (de rfl (E_call fn16 rfl (c_16 HA (gl0.up hl11495) (arr_rd (by decide) hl11495 (hL (Arr v11481 256 c11482) (by simp)) r11490) (arr_rd (by decide) hl11495 (hL (Arr v11483 1 c11484) (by simp)) r11491) (arr_rd (by decide) hl11495 (hL (Arr v11485 1 c11486) (by simp)) r11492) hq11494)) rfl rfl ?_)
           rintro _ wd11508 ⟨v11496, c11497, v11498, c11499, v11500, c11501, x11502, x11503, x11504, rfl, rfl, r11505, r11506, r11507, H⟩
           try dsimp only at ho10440
           replace H := hback H
           replace r11505 := rdL.flat (ρ := ρ') (ρ' := ρ) (flat_A _ (flat_I _)) r11505
           replace r11506 := rdL.flat (ρ := ρ') (ρ' := ρ) (flat_I _) r11506
           replace r11507 := rdL.flat (ρ := ρ') (ρ' := ρ) (flat_I _) r11507
           dsimp only [List.cons_append, List.nil_append] at H
           refine ⟨H.okS (by simp), ?_⟩
           replace H := H.f12
           replace H := H.f12
           replace H := H.f12
           obtain ⟨q11509, hq11509, ho10440⟩ := bnd ho10440
           obtain ⟨C', ρ', hl11510, HA, hL, hback⟩ := Hp.lend (A := []) (L := [Arr v5997 256 c7473, Arr v6001 1 c7476, Arr v9100 1 c9101]) (F := Arr v11496 256 c11497 :: Arr v11498 1 c11499 :: Arr v11500 1 c11501 :: Arr v11481 256 c11482 :: Arr v11483 1 c11484 :: Arr v11485 1 c11486 :: Box b11477 [.slice none 0 0, .slice none 0 0, .slice none 0 0] :: Box b11309 [.slice none 0 0, .slice none 0 0, .slice none 0 0] :: Box b5809 [v1, v4, v7] :: Box b5996 [v5997, v6001, v9100] :: hs) H
           refine d1 (de rfl (E_call fn45 rfl (c_45 HA (gl0.up hl11510) (GTab.up hl11510 gl1) (arr_rd (by decide) hl11510 (hL (Arr v5997 256 c7473) (by simp)) r7475) (arr_rd (by decide) hl11510 (hL (Arr v6001 1 c7476) (by simp)) r7478) (arr_rd (by decide) hl11510 (hL (Arr v9100 1 c9101) (by simp)) r9103) hq11509)) rfl rfl ?_)
           rintro _ wd11523 ⟨v11511, c11512, v11513, c11514, v11515, c11516, x11517, x11518, x11519, rfl, rfl, r11520, r11521, r11522, H⟩
           try dsimp only at ho10440
           replace H := hback H
           replace r11520 := rdL.flat (ρ := ρ') (ρ' := ρ) (flat_A _ (flat_I _)) r11520
           replace r11521 := rdL.flat (ρ := ρ') (ρ' := ρ) (flat_I _) r11521
           replace r11522 := rdL.flat (ρ := ρ') (ρ' := ρ) (flat_I _) r11522
           dsimp only [List.cons_append, List.nil_append] at H
           refine ⟨H.okS (by simp), ?_⟩
           replace H := H.f2
           replace H := H.f2
           replace H := H.f2
           obtain ⟨q11524, hq11524, ho10440⟩ := bnd ho10440
           obtain ⟨C', ρ', hl11525, HA, hL, hback⟩ := Hp.lend (A := []) (L := [Arr v11511 256 c11512, Arr v11513 1 c11514, Arr v11515 1 c11516]) (F := Arr v5997 256 c7473 :: Arr v6001 1 c7476 :: Arr v9100 1 c9101 :: Arr v11496 256 c11497 :: Arr v11498 1 c11499 :: Arr v11500 1 c11501 :: Arr v11481 256 c11482 :: Arr v11483 1 c11484 :: Arr v11485 1 c11486 :: Box b11477 [.slice none 0 0, .slice none 0 0, .slice none 0 0] :: Box b11309 [.slice none 0 0, .slice none 0 0, .slice none 0 0] :: Box b5809 [v1, v4, v7] :: Box b5996 [v5997, v6001, v9100] :: hs) H
           refine d1 (de rfl (E_call fn16 rfl (c_16 HA (gl0.up hl11525) (arr_rd (by decide) hl11525 (hL (Arr v11511 256 c11512) (by simp)) r11520) (arr_rd (by decide) hl11525 (hL (Arr v11513 1 c11514) (by simp)) r11521) (arr_rd (by decide) hl11525 (hL (Arr v11515 1 c11516) (by simp)) r11522) hq11524)) rfl rfl ?_)
           rintro _ wd11538 ⟨v11526, c11527, v11528, c11529, v11530, c11531, x11532, x11533, x11534, rfl, rfl, r11535, r11536, r11537, H⟩
           try dsimp only at ho10440
           replace H := hback H
           replace r11535 := rdL.flat (ρ := ρ') (ρ' := ρ) (flat_A _ (flat_I _)) r11535
           replace r11536 := rdL.flat (ρ := ρ') (ρ' := ρ) (flat_I _) r11536
           replace r11537 := rdL.flat (ρ := ρ') (ρ' := ρ) (flat_I _) r11537
           dsimp only [List.cons_append, List.nil_append] at H
           refine ⟨H.okS (by simp), ?_⟩
           refine d1 (de rfl (E_stB (k := 15) (cs := [v11496, v11498, v11500]) (vs' := [v11496, v11498, v11500]) H rfl ty25 rfl rfl rfl rfl (one_cons (arr_cells (H.ok.get (k := 9) rfl)).2 (one_cons (arr_cells (H.ok.get (k := 10) rfl)).2 (one_cons (arr_cells (H.ok.get (k := 11) rfl)).2 one_nil))) (by simp) rfl) rfl rfl ?_)
           rintro _ wd11539 H
           dsimp only [List.set] at H
           refine ⟨H.okS (by simp), ?_⟩
           refine d1 (de rfl (E_stB (k := 16) (cs := [v11526, v11528, v11530]) (vs' := [v11526, v11528, v11530]) H rfl ty25 rfl rfl rfl rfl (one_cons (arr_cells (H.ok.get (k := 0) rfl)).2 (one_cons (arr_cells (H.ok.get (k := 1) rfl)).2 (one_cons (arr_cells (H.ok.get (k := 2) rfl)).2 one_nil))) (by simp) rfl) rfl rfl ?_)
           rintro _ wd11540 H
           dsimp only [List.set] at H
           refine ⟨H.okS (by simp), ?_⟩
           refine DL_nil ?_
           replace H := H.f8
           replace H := H.f8
           replace H := H.f8
           replace H := H.front 18 rfl
           dsimp only [List.eraseIdx] at H
           replace H := H.f6
           replace H := H.f6
           replace H := H.f6
           replace H := H.front 17 rfl
           dsimp only [List.eraseIdx] at H
           replace H := H.f13
           replace H := H.f13
           replace H := H.f13
           replace H := H.front 17 rfl
           dsimp only [List.eraseIdx] at H
           replace H := H.drop 12 rfl
           dsimp only [List.eraseIdx] at H
           replace H := H.drop 12 rfl
           dsimp only [List.eraseIdx] at H
           replace H := H.drop 12 rfl
           dsimp only [List.eraseIdx] at H
           replace H := H.drop 12 rfl
           dsimp only [List.eraseIdx] at H
           replace H := H.drop 12 rfl
           dsimp only [List.eraseIdx] at H
           replace H := H.drop 12 rfl
           dsimp only [List.eraseIdx] at H
           replace H := H.drop 12 rfl
           dsimp only [List.eraseIdx] at H
           obtain rfl := Option.some.inj ho10440
           refine x_A fun a hf => ⟨b11477, v11496, c11497, v11498, c11499, v11500, c11501, b11309, v11526, c11527, v11528, c11529, v11530, c11531, x11502, x11503, x11504, x11532, x11533, x11534, rfl, r11505, r11506, r11507, r11535, r11536, r11537, hf.sub ⟨rfl, rfl, rfl, trivial⟩, H⟩
        ·rintro a wd11541 ⟨b10414, v10415, c10416, v10419, c10420, v10423, c10424, b10427, v10428, c10429, v10432, c10433, v10436, c10437, x10417, x10421, x10425, x10430, x10434, x10438, rfl, r10418, r10422, r10426, r10431, r10435, r10439, hf, H⟩
         try dsimp only at hF
         refine CW.at hf ?_
         obtain ⟨o11570, ho11570, hF⟩ := bnd hF
         refine C_cut (fun a w' => ∃ (x11569 : Bool), x11569 = o11570 ∧ Fr 137 a [(4, .bool x11569)] ∧ Hp C w' ρ (hs)) ?_ ?_
         ·refine R_dr (.take 0 (.one 1 (.take 2 (.take 3 (.take 4 (.one 5 (.take 6 (.take 7 (.take 8 (.take 10 (.one 9 (.one 11 (.take 12 (.take 13 .done)))))))))))))) (fun w' => Ok w' ρ [Box b10414 [v10415, v10419, v10423], Arr v10415 256 c10416, Arr v10419 1 c10420, Arr v10423 1 c10424, Box b10427 [v10428, v10432, v10436], Arr v10428 256 c10429, Arr v10432 1 c10433, Arr v10436 1 c10437, Box b5996 [v5997, v6001, v9100], Arr v5997 256 c7473, Arr v6001 1 c7476, Arr v9100 1 c9101]) (by kernel_rfl) (by kernel_rfl) (by kernel_rfl) (H.drew.okS (by simp)) ?_
          replace H := H.drew
          refine dq (v := .agg #[v5997, v6001, v9100]) rfl (fun _ hw => Q_ldB (k := 8) (cs := [v5997, v6001, v9100]) hw rfl ty25 rfl rfl rfl (fun h => nomatch h) rfl) rfl rfl ?_
          replace H := H.f11
          replace H := H.f11
          replace H := H.f11
          obtain ⟨q11571, hq11571, ho11570⟩ := bnd ho11570
          obtain ⟨C', ρ', hl11572, HA, hL, hback⟩ := Hp.lend (A := []) (L := [Arr v5997 256 c7473, Arr v6001 1 c7476, Arr v9100 1 c9101]) (F := Box b10414 [v10415, v10419, v10423] :: Arr v10415 256 c10416 :: Arr v10419 1 c10420 :: Arr v10423 1 c10424 :: Box b10427 [v10428, v10432, v10436] :: Arr v10428 256 c10429 :: Arr v10432 1 c10433 :: Arr v10436 1 c10437 :: Box b5996 [v5997, v6001, v9100] :: hs) H
          refine d1 (de rfl (E_call fn26 rfl (c_26 HA  (arr_rd (by decide) hl11572 (hL (Arr v5997 256 c7473) (by simp)) r7475) (arr_rd (by decide) hl11572 (hL (Arr v6001 1 c7476) (by simp)) r7478) (arr_rd (by decide) hl11572 (hL (Arr v9100 1 c9101) (by simp)) r9103) hq11571)) rfl rfl ?_)
          rintro _ wd11574 ⟨x11573, rfl, rfl, H⟩
          try dsimp only at ho11570
          replace H := hback H
          dsimp only [List.cons_append, List.nil_append] at H
          refine ⟨H.okS (by simp), ?_⟩
          refine dq rfl (fun _ _ => Q_move rfl) rfl rfl ?_
          rcases Bool.eq_false_or_eq_true x11573 with hb | hb
          ·rw [hb]
           replace ho11570 := itT hb ho11570
           refine dgq (v := .agg #[v10415, v10419, v10423]) rfl (fun _ hw => Q_ldB (k := 0) (cs := [v10415, v10419, v10423]) hw rfl ty25 rfl rfl rfl (fun h => nomatch h) rfl) rfl rfl rfl <| dgq (v := .agg #[v10428, v10432, v10436]) rfl (fun _ hw => Q_ldB (k := 4) (cs := [v10428, v10432, v10436]) hw rfl ty25 rfl rfl rfl (fun h => nomatch h) rfl) rfl rfl rfl ?_
           replace H := H.f10
           replace H := H.f10
           replace H := H.f10
           replace H := H.f9
           replace H := H.f9
           replace H := H.f9
           obtain ⟨q11575, hq11575, ho11570⟩ := bnd ho11570
           obtain ⟨C', ρ', hl11576, HA, hL, hback⟩ := Hp.lend (A := []) (L := [Arr v10415 256 c10416, Arr v10419 1 c10420, Arr v10423 1 c10424, Arr v10428 256 c10429, Arr v10432 1 c10433, Arr v10436 1 c10437]) (F := Arr v5997 256 c7473 :: Arr v6001 1 c7476 :: Arr v9100 1 c9101 :: Box b10414 [v10415, v10419, v10423] :: Box b10427 [v10428, v10432, v10436] :: Box b5996 [v5997, v6001, v9100] :: hs) H
           refine d1 (dge rfl (E_call fn41 rfl (c_41 HA  (arr_rd (by decide) hl11576 (hL (Arr v10415 256 c10416) (by simp)) r10418) (arr_rd (by decide) hl11576 (hL (Arr v10419 1 c10420) (by simp)) r10422) (arr_rd (by decide) hl11576 (hL (Arr v10423 1 c10424) (by simp)) r10426) (arr_rd (by decide) hl11576 (hL (Arr v10428 256 c10429) (by simp)) r10431) (arr_rd (by decide) hl11576 (hL (Arr v10432 1 c10433) (by simp)) r10435) (arr_rd (by decide) hl11576 (hL (Arr v10436 1 c10437) (by simp)) r10439) hq11575)) rfl rfl rfl ?_)
           rintro _ wd11578 ⟨x11577, rfl, rfl, H⟩
           try dsimp only at ho11570
           replace H := hback H
           dsimp only [List.cons_append, List.nil_append] at H
           refine ⟨H.okS (by simp), ?_⟩
           refine dq rfl (fun _ _ => Q_pickT rfl rfl) rfl rfl <| dq rfl (fun _ _ => Q_move rfl) rfl rfl ?_
           rcases Bool.eq_false_or_eq_true x11577 with hb | hb
           ·rw [hb]
            replace ho11570 := itT hb ho11570
            refine dgq (v := .agg #[v10415, v10419, v10423]) rfl (fun _ hw => Q_ldB (k := 0) (cs := [v10415, v10419, v10423]) hw rfl ty25 rfl rfl rfl (fun h => nomatch h) rfl) rfl rfl rfl <| dgq (v := .agg #[v10415, v10419, v10423]) rfl (fun _ hw => Q_ldB (k := 0) (cs := [v10415, v10419, v10423]) hw rfl ty25 rfl rfl rfl (fun h => nomatch h) rfl) rfl rfl rfl ?_
            replace H := H.f2
            replace H := H.f2
            replace H := H.f2
            obtain ⟨q11579, hq11579, ho11570⟩ := bnd ho11570
            obtain ⟨C', ρ', hl11580, HA, hL, hback⟩ := Hp.lend (A := []) (L := [Arr v10415 256 c10416, Arr v10419 1 c10420, Arr v10423 1 c10424]) (F := Arr v10428 256 c10429 :: Arr v10432 1 c10433 :: Arr v10436 1 c10437 :: Arr v5997 256 c7473 :: Arr v6001 1 c7476 :: Arr v9100 1 c9101 :: Box b10414 [v10415, v10419, v10423] :: Box b10427 [v10428, v10432, v10436] :: Box b5996 [v5997, v6001, v9100] :: hs) H
            refine d1 (dge rfl (E_call fn16 rfl (c_16 HA (gl0.up hl11580) (arr_rd (by decide) hl11580 (hL (Arr v10415 256 c10416) (by simp)) r10418) (arr_rd (by decide) hl11580 (hL (Arr v10419 1 c10420) (by simp)) r10422) (arr_rd (by decide) hl11580 (hL (Arr v10423 1 c10424) (by simp)) r10426) hq11579)) rfl rfl rfl ?_)
            rintro _ wd11593 ⟨v11581, c11582, v11583, c11584, v11585, c11586, x11587, x11588, x11589, rfl, rfl, r11590, r11591, r11592, H⟩
            try dsimp only at ho11570
            replace H := hback H
            replace r11590 := rdL.flat (ρ := ρ') (ρ' := ρ) (flat_A _ (flat_I _)) r11590
            replace r11591 := rdL.flat (ρ := ρ') (ρ' := ρ) (flat_I _) r11591
            replace r11592 := rdL.flat (ρ := ρ') (ρ' := ρ) (flat_I _) r11592
            dsimp only [List.cons_append, List.nil_append] at H
            refine ⟨H.okS (by simp), ?_⟩
            replace H := H.f5
            replace H := H.f5
            replace H := H.f5
            replace H := H.f5
            replace H := H.f5
            replace H := H.f5
            obtain ⟨q11594, hq11594, ho11570⟩ := bnd ho11570
            obtain ⟨C', ρ', hl11595, HA, hL, hback⟩ := Hp.lend (A := []) (L := [Arr v11581 256 c11582, Arr v11583 1 c11584, Arr v11585 1 c11586, Arr v10415 256 c10416, Arr v10419 1 c10420, Arr v10423 1 c10424]) (F := Arr v10428 256 c10429 :: Arr v10432 1 c10433 :: Arr v10436 1 c10437 :: Arr v5997 256 c7473 :: Arr v6001 1 c7476 :: Arr v9100 1 c9101 :: Box b10414 [v10415, v10419, v10423] :: Box b10427 [v10428, v10432, v10436] :: Box b5996 [v5997, v6001, v9100] :: hs) H
            refine d1 (dge rfl (E_call fn41 rfl (c_41 HA  (arr_rd (by decide) hl11595 (hL (Arr v11581 256 c11582) (by simp)) r11590) (arr_rd (by decide) hl11595 (hL (Arr v11583 1 c11584) (by simp)) r11591) (arr_rd (by decide) hl11595 (hL (Arr v11585 1 c11586) (by simp)) r11592) (arr_rd (by decide) hl11595 (hL (Arr v10415 256 c10416) (by simp)) r10418) (arr_rd (by decide) hl11595 (hL (Arr v10419 1 c10420) (by simp)) r10422) (arr_rd (by decide) hl11595 (hL (Arr v10423 1 c10424) (by simp)) r10426) hq11594)) rfl rfl rfl ?_)
            rintro _ wd11597 ⟨x11596, rfl, rfl, H⟩
            try dsimp only at ho11570
            replace H := hback H
            dsimp only [List.cons_append, List.nil_append] at H
            refine ⟨H.okS (by simp), ?_⟩
            refine dq rfl (fun _ _ => Q_pickT rfl rfl) rfl rfl <| dq rfl (fun _ _ => Q_assign rfl) rfl rfl <| DL_nil ?_
            replace H := H.drop 0 rfl
            dsimp only [List.eraseIdx] at H
            replace H := H.drop 0 rfl
            dsimp only [List.eraseIdx] at H
            replace H := H.drop 0 rfl
            dsimp only [List.eraseIdx] at H
            replace H := H.drop 0 rfl
            dsimp only [List.eraseIdx] at H
            replace H := H.drop 0 rfl
            dsimp only [List.eraseIdx] at H
            replace H := H.drop 0 rfl
            dsimp only [List.eraseIdx] at H
            replace H := H.drop 0 rfl
            dsimp only [List.eraseIdx] at H
            replace H := H.drop 0 rfl
            dsimp only [List.eraseIdx] at H
            replace H := H.drop 0 rfl
            dsimp only [List.eraseIdx] at H
            replace H := H.drop 0 rfl
            dsimp only [List.eraseIdx] at H
            replace H := H.drop 0 rfl
            dsimp only [List.eraseIdx] at H
            replace H := H.drop 0 rfl
            dsimp only [List.eraseIdx] at H
            replace H := H.drop 0 rfl
            dsimp only [List.eraseIdx] at H
            replace H := H.drop 0 rfl
            dsimp only [List.eraseIdx] at H
            replace H := H.drop 0 rfl
            dsimp only [List.eraseIdx] at H
            obtain rfl := Option.some.inj ho11570
            refine x_A fun a hf => ⟨x11596, rfl, hf.sub ⟨rfl, trivial⟩, H⟩
           ·rw [hb]
            replace ho11570 := itF hb ho11570
            refine dgs rfl rfl rfl rfl rfl <| dgs rfl rfl rfl rfl rfl ?_
            refine d1 (dges rfl rfl rfl rfl rfl ?_)
            refine d1 (dges rfl rfl rfl rfl rfl ?_)
            refine dq rfl (fun _ _ => Q_pickF rfl rfl) rfl rfl <| dq rfl (fun _ _ => Q_assign rfl) rfl rfl <| DL_nil ?_
            replace H := H.drop 0 rfl
            dsimp only [List.eraseIdx] at H
            replace H := H.drop 0 rfl
            dsimp only [List.eraseIdx] at H
            replace H := H.drop 0 rfl
            dsimp only [List.eraseIdx] at H
            replace H := H.drop 0 rfl
            dsimp only [List.eraseIdx] at H
            replace H := H.drop 0 rfl
            dsimp only [List.eraseIdx] at H
            replace H := H.drop 0 rfl
            dsimp only [List.eraseIdx] at H
            replace H := H.drop 0 rfl
            dsimp only [List.eraseIdx] at H
            replace H := H.drop 0 rfl
            dsimp only [List.eraseIdx] at H
            replace H := H.drop 0 rfl
            dsimp only [List.eraseIdx] at H
            replace H := H.drop 0 rfl
            dsimp only [List.eraseIdx] at H
            replace H := H.drop 0 rfl
            dsimp only [List.eraseIdx] at H
            replace H := H.drop 0 rfl
            dsimp only [List.eraseIdx] at H
            obtain rfl := Option.some.inj ho11570
            refine x_A fun a hf => ⟨false, rfl, hf.sub ⟨rfl, trivial⟩, H⟩
          ·rw [hb]
           replace ho11570 := itF hb ho11570
           refine dgs rfl rfl rfl rfl rfl <| dgs rfl rfl rfl rfl rfl ?_
           refine d1 (dges rfl rfl rfl rfl rfl ?_)
           refine dq rfl (fun _ _ => Q_pickF rfl rfl) rfl rfl <| dq rfl (fun _ _ => Q_move rfl) rfl rfl <| dgs rfl rfl rfl rfl rfl <| dgs rfl rfl rfl rfl rfl ?_
           refine d1 (dges rfl rfl rfl rfl rfl ?_)
           refine d1 (dges rfl rfl rfl rfl rfl ?_)
           refine dq rfl (fun _ _ => Q_pickF rfl rfl) rfl rfl <| dq rfl (fun _ _ => Q_assign rfl) rfl rfl <| DL_nil ?_
           replace H := H.drop 0 rfl
           dsimp only [List.eraseIdx] at H
           replace H := H.drop 0 rfl
           dsimp only [List.eraseIdx] at H
           replace H := H.drop 0 rfl
           dsimp only [List.eraseIdx] at H
           replace H := H.drop 0 rfl
           dsimp only [List.eraseIdx] at H
           replace H := H.drop 0 rfl
           dsimp only [List.eraseIdx] at H
           replace H := H.drop 0 rfl
           dsimp only [List.eraseIdx] at H
           replace H := H.drop 0 rfl
           dsimp only [List.eraseIdx] at H
           replace H := H.drop 0 rfl
           dsimp only [List.eraseIdx] at H
           replace H := H.drop 0 rfl
           dsimp only [List.eraseIdx] at H
           replace H := H.drop 0 rfl
           dsimp only [List.eraseIdx] at H
           replace H := H.drop 0 rfl
           dsimp only [List.eraseIdx] at H
           replace H := H.drop 0 rfl
           dsimp only [List.eraseIdx] at H
           obtain rfl := Option.some.inj ho11570
           refine x_A fun a hf => ⟨false, rfl, hf.sub ⟨rfl, trivial⟩, H⟩
         ·rintro a wd11598 ⟨x11569, rfl, hf, H⟩
          try dsimp only at hF
          refine CW.at hf <| C_ret ?_
          obtain rfl := Option.some.inj hF
          exact fn_ret (l := [.tmp 4]) (vs := [.bool x11569]) rfl rfl rfl ⟨x11569, rfl, rfl, H⟩
end Go.Proofs.YteiaphkejkgfkaaDoor
