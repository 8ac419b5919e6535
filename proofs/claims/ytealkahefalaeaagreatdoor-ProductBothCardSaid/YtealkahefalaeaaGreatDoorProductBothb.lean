/-
  The walks of the law ProductBoth, printed by my program, part 2: each function of the code computes its pure function.
-/
import Derived.Test.YtealkahefalaeaaGreatDoorProductBotha
import Derived.Test.YtealkahefalaeaaGreatDoorProductBothP1
namespace Go.Proofs.YtealkahefalaeaaGreatDoor
open Go Go.Eng
set_option maxRecDepth 100000
theorem c_52 {N : Nat} {C : Cx} {w : World} {ρ : View} {hs : List Hl} {gV : Nat → Value} {v1 : Value} {v4 : Value} {v7 : Value} {x2 : (List (List Int))} {x5 : (List Int)} {x8 : (List Int)} (H : Hp C w ρ (hs)) (_gle : GErrs ρ 394 errIds gV) (r3 : RdSl ρ (eA 256 (eI .i64)) v1 x2) (r6 : RdSl ρ (eI .i64) v4 x5) (r9 : RdSl ρ (eI .i64) v7 x8) {r : Bool} (hF : F_dofferref17_Right N x2 x5 x8 = some r) :
  Calls Tryz.prog 52 [.agg #[v1, v4, v7]].toArray w (Rets (fun v w' => (∃ (x600 : Bool), x600 = r ∧ .bool x600 = v ∧ Hp C w' ρ (hs)))) := by
 unfold F_dofferref17_Right at hF
 have h0 : Tryz.f52.body = some _ := rfl
 refine fn_calls' Tryz.func52 h0 (n := 101) rfl (by simp) <| C_seq <| R_nd <| ne (E_box H (vs := [v1, v4, v7]) rfl rfl) rfl rfl ?_
 rintro _ wd602 ⟨b601, rfl, H⟩
 refine nq (Q_assign rfl) rfl rfl <| WL_nil <| x_then <| C_seq <| R_nd <| nq (v := .pointer (some ⟨b601, 0, none⟩)) (Q_fld Tryz.underlying81 rfl ty79 (by decide) rfl rfl) rfl rfl <| nq (v := v1) (Q_ldB (k := 0) (cs := [v1]) H.ok rfl ty79 rfl rfl rfl (fun _ => rfl) rfl) rfl rfl <| nq (Q_len Tryz.underlying79 rfl r3) rfl rfl <| nq (Q_assign rfl) rfl rfl <| WL_nil <| x_then <| C_seq ?_
 obtain ⟨o604, ho604, hF⟩ := bnd hF
 refine C_cut (fun a w' => ∃ (x603 : Bool), x603 = o604 ∧ Fr 101 a [(1, .pointer (some ⟨b601, 0, none⟩)), (3, .int .i64 (x2.length : Int)), (37, .bool x603)] ∧ Hp C w' ρ (Box b601 [v1, v4, v7] :: hs)) ?_ ?_
 ·refine R_nd <| nq (Q_move rfl) rfl rfl <| nq (Q_lss rfl rfl) rfl rfl <| nq (Q_move rfl) rfl rfl ?_
  rcases Bool.eq_false_or_eq_true (decide ((x2.length : Int) < 1)) with hb | hb
  ·rw [hb]
   replace ho604 := itT hb ho604
   refine gs rfl rfl rfl rfl <| gs rfl rfl rfl rfl <| nq (Q_pickT rfl rfl) rfl rfl <| nq (Q_move rfl) rfl rfl <| gs rfl rfl rfl rfl <| gs rfl rfl rfl rfl <| gs rfl rfl rfl rfl <| gs rfl rfl rfl rfl <| gs rfl rfl rfl rfl <| nq (Q_pickT rfl rfl) rfl rfl <| nq (Q_move rfl) rfl rfl <| gs rfl rfl rfl rfl <| gs rfl rfl rfl rfl <| gs rfl rfl rfl rfl ?_
   refine gs rfl rfl rfl rfl <| nq (Q_pickT rfl rfl) rfl rfl <| nq (Q_move rfl) rfl rfl <| gs rfl rfl rfl rfl <| gs rfl rfl rfl rfl <| gs rfl rfl rfl rfl <| gs rfl rfl rfl rfl <| nq (Q_pickT rfl rfl) rfl rfl <| WL_nil ?_
   obtain rfl := Option.some.inj ho604
   refine x_A fun a hf => ⟨true, rfl, hf.sub ⟨rfl, rfl, rfl, trivial⟩, H⟩
  ·rw [hb]
   replace ho604 := itF hb ho604
   refine gq (Q_move rfl) rfl rfl rfl <| gq (Q_gtr rfl rfl) rfl rfl rfl <| nq (Q_pickF rfl rfl) rfl rfl <| nq (Q_move rfl) rfl rfl ?_
   rcases Bool.eq_false_or_eq_true (decide ((x2.length : Int) > 200)) with hb | hb
   ·rw [hb]
    replace ho604 := itT hb ho604
    refine gs rfl rfl rfl rfl <| gs rfl rfl rfl rfl <| gs rfl rfl rfl rfl <| gs rfl rfl rfl rfl <| gs rfl rfl rfl rfl <| nq (Q_pickT rfl rfl) rfl rfl <| nq (Q_move rfl) rfl rfl <| gs rfl rfl rfl rfl <| gs rfl rfl rfl rfl <| gs rfl rfl rfl rfl <| gs rfl rfl rfl rfl <| nq (Q_pickT rfl rfl) rfl rfl <| nq (Q_move rfl) rfl rfl <| gs rfl rfl rfl rfl ?_
    refine gs rfl rfl rfl rfl <| gs rfl rfl rfl rfl <| gs rfl rfl rfl rfl <| nq (Q_pickT rfl rfl) rfl rfl <| WL_nil ?_
    obtain rfl := Option.some.inj ho604
    refine x_A fun a hf => ⟨true, rfl, hf.sub ⟨rfl, rfl, rfl, trivial⟩, H⟩
   ·rw [hb]
    replace ho604 := itF hb ho604
    refine gq (v := .pointer (some ⟨b601, 1, none⟩)) (Q_fld Tryz.underlying81 rfl ty23 (by decide) rfl rfl) rfl rfl rfl <| gq (v := v4) (Q_ldB (k := 0) (cs := [v4]) H.ok rfl ty23 rfl rfl rfl (fun _ => rfl) rfl) rfl rfl rfl <| gq (Q_len Tryz.underlying23 rfl r6) rfl rfl rfl <| gq (Q_move rfl) rfl rfl rfl <| gq (Q_neq rfl rfl) rfl rfl rfl <| nq (Q_pickF rfl rfl) rfl rfl <| nq (Q_move rfl) rfl rfl ?_
    rcases Bool.eq_false_or_eq_true ((x5.length : Int) != (x2.length : Int)) with hb | hb
    ·rw [hb]
     replace ho604 := itT hb ho604
     refine gs rfl rfl rfl rfl <| gs rfl rfl rfl rfl <| gs rfl rfl rfl rfl <| gs rfl rfl rfl rfl <| nq (Q_pickT rfl rfl) rfl rfl <| nq (Q_move rfl) rfl rfl <| gs rfl rfl rfl rfl <| gs rfl rfl rfl rfl <| gs rfl rfl rfl rfl <| gs rfl rfl rfl rfl <| nq (Q_pickT rfl rfl) rfl rfl <| WL_nil ?_
     obtain rfl := Option.some.inj ho604
     refine x_A fun a hf => ⟨true, rfl, hf.sub ⟨rfl, rfl, rfl, trivial⟩, H⟩
    ·rw [hb]
     replace ho604 := itF hb ho604
     refine gq (v := .pointer (some ⟨b601, 2, none⟩)) (Q_fld Tryz.underlying81 rfl ty23 (by decide) rfl rfl) rfl rfl rfl <| gq (v := v7) (Q_ldB (k := 0) (cs := [v7]) H.ok rfl ty23 rfl rfl rfl (fun _ => rfl) rfl) rfl rfl rfl <| gq (Q_len Tryz.underlying23 rfl r9) rfl rfl rfl <| gq (Q_lss rfl rfl) rfl rfl rfl <| nq (Q_pickF rfl rfl) rfl rfl <| nq (Q_move rfl) rfl rfl ?_
     rcases Bool.eq_false_or_eq_true (decide ((x8.length : Int) < 1)) with hb | hb
     ·rw [hb]
      replace ho604 := itT hb ho604
      refine gs rfl rfl rfl rfl <| gs rfl rfl rfl rfl <| gs rfl rfl rfl rfl <| gs rfl rfl rfl rfl <| nq (Q_pickT rfl rfl) rfl rfl <| WL_nil ?_
      obtain rfl := Option.some.inj ho604
      refine x_A fun a hf => ⟨true, rfl, hf.sub ⟨rfl, rfl, rfl, trivial⟩, H⟩
     ·rw [hb]
      replace ho604 := itF hb ho604
      refine gq (v := .pointer (some ⟨b601, 2, none⟩)) (Q_fld Tryz.underlying81 rfl ty23 (by decide) rfl rfl) rfl rfl rfl <| gq (v := v7) (Q_ldB (k := 0) (cs := [v7]) H.ok rfl ty23 rfl rfl rfl (fun _ => rfl) rfl) rfl rfl rfl <| gq (Q_len Tryz.underlying23 rfl r9) rfl rfl rfl <| gq (Q_gtr rfl rfl) rfl rfl rfl <| nq (Q_pickF rfl rfl) rfl rfl <| WL_nil ?_
      obtain rfl := Option.some.inj ho604
      refine x_A fun a hf => ⟨decide ((x8.length : Int) > 8), rfl, hf.sub ⟨rfl, rfl, rfl, trivial⟩, H⟩
 ·rintro a wd605 ⟨x603, rfl, hf, H⟩
  try dsimp only at hF
  refine CW.at hf ?_
  refine C_cond rfl (fun hb => ?_) (fun hb => ?_)
  ·replace hF := itT hb hF
   refine C_seq <| R_nd <| nq (Q_assign rfl) rfl rfl <| WL_nil <| x_then <| C_ret <| x_then_ret ?_
   replace H := H.e0
   obtain rfl := Option.some.inj hF
   exact fn_ret (l := [.tmp 2]) (vs := [.bool false]) rfl rfl rfl ⟨false, rfl, rfl, H⟩
  ·replace hF := itF hb hF
   refine C_skip <| x_then <| C_seq <| C_seq <| R_nd <| nq (v := .pointer (some ⟨b601, 0, none⟩)) (Q_fld Tryz.underlying81 rfl ty79 (by decide) rfl rfl) rfl rfl <| nq (v := v1) (Q_ldB (k := 0) (cs := [v1]) H.ok rfl ty79 rfl rfl rfl (fun _ => rfl) rfl) rfl rfl <| nq (Q_len Tryz.underlying79 rfl r3) rfl rfl <| nq (Q_move rfl) rfl rfl <| WL_nil <| x_then ?_
   obtain ⟨o856, ho856, hF⟩ := bnd hF
   refine C_cutQ (fun a w' => .inl () = o856 ∧ Fr 101 a [(1, .pointer (some ⟨b601, 0, none⟩)), (3, .int .i64 (x2.length : Int))] ∧ Hp C w' ρ (Box b601 [v1, v4, v7] :: hs)) ?_ ?_
   ·refine C_block ?_
    refine C_iter (f := fun s => F_dofferref17_Right_l0 N x2 x5 s) ho856 (fun s a w' => ∃ (x939 : Int), x939 = s ∧ Fr 101 a [(1, .pointer (some ⟨b601, 0, none⟩)), (3, .int .i64 (x2.length : Int)), (39, v1), (40, .int .i64 (x2.length : Int)), (41, .int .i64 x939)] ∧ Hp C w' ρ (Box b601 [v1, v4, v7] :: hs)) ?_ ?_
    ·exact fun a hf => ⟨0, rfl, hf.sub ⟨rfl, rfl, rfl, rfl, rfl, trivial⟩, H⟩
    ·rintro s o1022 a wd1025 ⟨x939, rfl, hf, H⟩ hB1023 hO1024
     replace hB1023 : F_dofferref17_Right_l0 N x2 x5 x939 = some o1022 := hB1023
     unfold F_dofferref17_Right_l0 at hB1023
     refine CW.at hf <| C_seq <| R_nd <| nq (Q_lss rfl rfl) rfl rfl <| WL_nil <| x_then <| C_seq ?_
     refine C_cond rfl (fun hb => ?_) (fun hb => ?_)
     ·replace hB1023 := itT hb hB1023
      refine C_skip <| x_then <| C_seq <| C_block <| C_seq <| R_nd <| nq (Q_move rfl) rfl rfl ?_
      obtain ⟨x1026, hx1026, hB1023⟩ := bnd hB1023
      obtain ⟨b1027, o1028, c1029, hc1030, ha1031, hi1032⟩ := idxR r3 hx1026
      refine nq (Q_idx hi1032 Tryz.underlying79 ty87 rfl rfl) rfl rfl <| nq (v := .agg c1029.toArray) (Q_ld (ha1031.up H.ok.view) ty87 ((eA 256 (eI .i64)).len hc1030) (fun h => nomatch h) rfl rfl) rfl rfl <| ne (E_allocA (N := 256) (n := 1) (zs := (repC 256 [.int .i64 0])) H ty87 rfl (by simp [repC_length])) rfl rfl ?_
      rintro _ wd1034 ⟨b1033, rfl, H⟩
      refine nq (Q_assign rfl) rfl rfl <| ne (E_stW (k := 0) H rfl ty87 rfl rfl (rdL.one hc1030.2) (arr_clen (rdL_rep (e:=(eI .i64)) (ρ:=ρ) (rfl) 256) List.length_replicate) (arr_clen hc1030.2 hc1030.1)) rfl rfl ?_
      rintro _ wd1035 H
      dsimp only [List.set] at H
      refine WL_nil <| x_then <| C_seq ?_
      obtain ⟨o1051, ho1051, hB1023⟩ := bnd hB1023
      refine C_cut (fun a w' => ∃ (x1050 : Bool), x1050 = o1051 ∧ Fr 101 a [(1, .pointer (some ⟨b601, 0, none⟩)), (3, .int .i64 (x2.length : Int)), (4, .int .i64 x939), (5, .pointer (some ⟨b1033, 0, none⟩)), (39, v1), (40, .int .i64 (x2.length : Int)), (41, .int .i64 x939), (59, .bool x1050)] ∧ Hp C w' ρ (Box b601 [v1, v4, v7] :: Arr (.slice (some ⟨b1033, 0, none⟩) 256 256) 1 c1029 :: hs)) ?_ ?_
      ·refine R_nd <| nq (v := .pointer (some ⟨b601, 1, none⟩)) (Q_fld Tryz.underlying81 rfl ty23 (by decide) rfl rfl) rfl rfl <| nq (v := v4) (Q_ldB (k := 1) (cs := [v4]) H.ok rfl ty23 rfl rfl rfl (fun _ => rfl) rfl) rfl rfl <| nq (Q_move rfl) rfl rfl ?_
       obtain ⟨x1052, hx1052, ho1051⟩ := bnd ho1051
       obtain ⟨b1053, o1054, c1055, hc1056, ha1057, hi1058⟩ := idxR r6 hx1052
       refine nq (Q_idx hi1058 Tryz.underlying23 ty3 rfl rfl) rfl rfl <| nq (v := .int .i64 x1052) (Q_ld (show cellsAt _ _ _ [.int .i64 x1052] from (show _ = [_] from hc1056) ▸ (ha1057.up H.ok.view)) ty3 rfl (fun _ => rfl) rfl rfl) rfl rfl <| nq (Q_lss rfl rfl) rfl rfl <| nq (Q_move rfl) rfl rfl ?_
       rcases Bool.eq_false_or_eq_true (decide (x1052 < (-1))) with hb | hb
       ·rw [hb]
        replace ho1051 := itT hb ho1051
        refine gs rfl rfl rfl rfl <| gs rfl rfl rfl rfl <| gs rfl rfl rfl rfl <| gs rfl rfl rfl rfl <| gs rfl rfl rfl rfl <| gs rfl rfl rfl rfl <| nq (Q_pickT rfl rfl) rfl rfl <| WL_nil ?_
        replace H := H.f1
        obtain rfl := Option.some.inj ho1051
        refine x_A fun a hf => ⟨true, rfl, hf.sub ⟨rfl, rfl, rfl, rfl, rfl, rfl, rfl, rfl, trivial⟩, H⟩
       ·rw [hb]
        replace ho1051 := itF hb ho1051
        refine gq (v := .pointer (some ⟨b601, 1, none⟩)) (Q_fld Tryz.underlying81 rfl ty23 (by decide) rfl rfl) rfl rfl rfl <| gq (v := v4) (Q_ldB (k := 1) (cs := [v4]) H.ok rfl ty23 rfl rfl rfl (fun _ => rfl) rfl) rfl rfl rfl <| gq (Q_move rfl) rfl rfl rfl ?_
        obtain ⟨x1059, hx1059, ho1051⟩ := bnd ho1051
        obtain ⟨b1060, o1061, c1062, hc1063, ha1064, hi1065⟩ := idxR r6 hx1059
        refine gq (Q_idx hi1065 Tryz.underlying23 ty3 rfl rfl) rfl rfl rfl <| gq (v := .int .i64 x1059) (Q_ld (show cellsAt _ _ _ [.int .i64 x1059] from (show _ = [_] from hc1063) ▸ (ha1064.up H.ok.view)) ty3 rfl (fun _ => rfl) rfl rfl) rfl rfl rfl <| gq (Q_gtr rfl rfl) rfl rfl rfl <| nq (Q_pickF rfl rfl) rfl rfl <| WL_nil ?_
        replace H := H.f1
        obtain rfl := Option.some.inj ho1051
        refine x_A fun a hf => ⟨decide (x1059 > 47), rfl, hf.sub ⟨rfl, rfl, rfl, rfl, rfl, rfl, rfl, rfl, trivial⟩, H⟩
      ·rintro a wd1066 ⟨x1050, rfl, hf, H⟩
       try dsimp only at hB1023
       refine CW.at hf ?_
       refine C_cond rfl (fun hb => ?_) (fun hb => ?_)
       ·replace hB1023 := itT hb hB1023
        refine C_seq <| R_nd <| nq (Q_assign rfl) rfl rfl <| WL_nil <| x_then <| C_ret <| x_then_ret <| x_block_ret <| x_then_ret <| x_then_ret <| x_block_ret <| x_then_ret <| x_then_ret ?_
        replace H := H.e1.e0
        obtain rfl := Option.some.inj hB1023
        obtain rfl := hO1024 _ rfl
        obtain rfl := Option.some.inj (show some _ = some _ from hF)
        exact fn_ret (l := [.tmp 2]) (vs := [.bool false]) rfl rfl rfl ⟨false, rfl, rfl, H⟩
       ·replace hB1023 := itF hb hB1023
        refine C_skip <| x_then <| C_seq <| R_nd <| nq (Q_ldW (k := 1) H.ok rfl ty87 rfl (arr_clen hc1030.2 hc1030.1)) rfl rfl <| nq (Q_move rfl) rfl rfl <| WL_nil <| x_then ?_
        obtain ⟨o1086, ho1086, hB1023⟩ := bnd hB1023
        refine C_cutQ (fun a w' => .inl () = o1086 ∧ Fr 101 a [(1, .pointer (some ⟨b601, 0, none⟩)), (3, .int .i64 (x2.length : Int)), (39, v1), (40, .int .i64 (x2.length : Int)), (41, .int .i64 x939)] ∧ Hp C w' ρ (Box b601 [v1, v4, v7] :: hs)) ?_ ?_
        ·refine C_block ?_
         replace H := H.e1
         refine C_iter (f := fun s => F_dofferref17_Right_l1 N x2 x939 x1026 s) ho1086 (fun s a w' => ∃ (x1092 : Int), x1092 = s ∧ Fr 101 a [(1, .pointer (some ⟨b601, 0, none⟩)), (3, .int .i64 (x2.length : Int)), (4, .int .i64 x939), (39, v1), (40, .int .i64 (x2.length : Int)), (41, .int .i64 x939), (60, .agg c1029.toArray), (61, .int .i64 x1092)] ∧ Hp C w' ρ (Box b601 [v1, v4, v7] :: hs)) ?_ ?_
         ·exact fun a hf => ⟨0, rfl, hf.sub ⟨rfl, rfl, rfl, rfl, rfl, rfl, rfl, rfl, trivial⟩, H⟩
         ·rintro s o1098 a wd1101 ⟨x1092, rfl, hf, H⟩ hB1099 hO1100
          replace hB1099 : F_dofferref17_Right_l1 N x2 x939 x1026 x1092 = some o1098 := hB1099
          unfold F_dofferref17_Right_l1 at hB1099
          refine CW.at hf <| C_seq <| R_nd <| nq (Q_lss rfl rfl) rfl rfl <| WL_nil <| x_then <| C_seq ?_
          refine C_cond rfl (fun hb => ?_) (fun hb => ?_)
          ·replace hB1099 := itT hb hB1099
           refine C_skip <| x_then <| C_seq <| C_block <| C_seq <| R_nd ?_
           obtain ⟨x1102, hx1102, hB1099⟩ := bnd hB1099
           refine nq (Q_ixI hc1030.2 hc1030.1 hx1102 Tryz.underlying87 rfl rfl ty3 rfl) rfl rfl <| nq (Q_assign rfl) rfl rfl <| WL_nil <| x_then ?_
           obtain ⟨o1104, ho1104, hB1099⟩ := bnd hB1099
           refine C_cut (fun a w' => ∃ (x1103 : Bool), x1103 = o1104 ∧ Fr 101 a [(1, .pointer (some ⟨b601, 0, none⟩)), (3, .int .i64 (x2.length : Int)), (4, .int .i64 x939), (39, v1), (40, .int .i64 (x2.length : Int)), (41, .int .i64 x939), (60, .agg c1029.toArray), (61, .int .i64 x1092), (78, .bool x1103)] ∧ Hp C w' ρ (Box b601 [v1, v4, v7] :: hs)) ?_ ?_
           ·refine R_nd <| nq (Q_move rfl) rfl rfl <| nq (Q_lss rfl rfl) rfl rfl <| nq (Q_move rfl) rfl rfl ?_
            rcases Bool.eq_false_or_eq_true (decide (x1102 < 0)) with hb | hb
            ·rw [hb]
             replace ho1104 := itT hb ho1104
             refine gs rfl rfl rfl rfl <| gs rfl rfl rfl rfl <| gs rfl rfl rfl rfl <| nq (Q_pickT rfl rfl) rfl rfl <| nq (Q_move rfl) rfl rfl <| gs rfl rfl rfl rfl <| gs rfl rfl rfl rfl <| gs rfl rfl rfl rfl <| gsu rfl ⟨_, _, rfl, rfl, rfl⟩ rfl <| gsu rfl ⟨_, _, rfl, rfl, rfl⟩ rfl <| gs rfl rfl rfl rfl <| nq (Q_pickT rfl rfl) rfl rfl <| WL_nil ?_
             obtain rfl := Option.some.inj ho1104
             refine x_A fun a hf => ⟨true, rfl, hf.sub ⟨rfl, rfl, rfl, rfl, rfl, rfl, rfl, rfl, rfl, trivial⟩, H⟩
            ·rw [hb]
             replace ho1104 := itF hb ho1104
             refine gq (Q_move rfl) rfl rfl rfl <| gq (Q_move rfl) rfl rfl rfl <| gq (Q_geq rfl rfl) rfl rfl rfl <| nq (Q_pickF rfl rfl) rfl rfl <| nq (Q_move rfl) rfl rfl ?_
             rcases Bool.eq_false_or_eq_true (decide (x1102 ≥ (x2.length : Int))) with hb | hb
             ·rw [hb]
              replace ho1104 := itT hb ho1104
              refine gs rfl rfl rfl rfl <| gs rfl rfl rfl rfl <| gs rfl rfl rfl rfl <| gsu rfl ⟨_, _, rfl, rfl, rfl⟩ rfl <| gsu rfl ⟨_, _, rfl, rfl, rfl⟩ rfl <| gs rfl rfl rfl rfl <| nq (Q_pickT rfl rfl) rfl rfl <| WL_nil ?_
              obtain rfl := Option.some.inj ho1104
              refine x_A fun a hf => ⟨true, rfl, hf.sub ⟨rfl, rfl, rfl, rfl, rfl, rfl, rfl, rfl, rfl, trivial⟩, H⟩
             ·rw [hb]
              replace ho1104 := itF hb ho1104
              refine gq (Q_move rfl) rfl rfl rfl <| gq (Q_eql rfl rfl) rfl rfl rfl <| gq (Q_move rfl) rfl rfl rfl ?_
              rcases Bool.eq_false_or_eq_true (x939 == 0) with hb | hb
              ·rw [hb]
               replace ho1104 := itT hb ho1104
               refine gq (Q_move rfl) rfl rfl rfl <| gq (Q_neq rfl rfl) rfl rfl rfl <| gq (Q_pickT rfl rfl) rfl rfl rfl <| nq (Q_pickF rfl rfl) rfl rfl <| WL_nil ?_
               obtain rfl := Option.some.inj ho1104
               refine x_A fun a hf => ⟨x1102 != 0, rfl, hf.sub ⟨rfl, rfl, rfl, rfl, rfl, rfl, rfl, rfl, rfl, trivial⟩, H⟩
              ·rw [hb]
               replace ho1104 := itF hb ho1104
               refine gs rfl rfl rfl rfl <| gs rfl rfl rfl rfl <| gq (Q_pickF rfl rfl) rfl rfl rfl <| nq (Q_pickF rfl rfl) rfl rfl <| WL_nil ?_
               obtain rfl := Option.some.inj ho1104
               refine x_A fun a hf => ⟨false, rfl, hf.sub ⟨rfl, rfl, rfl, rfl, rfl, rfl, rfl, rfl, rfl, trivial⟩, H⟩
           ·rintro a wd1105 ⟨x1103, rfl, hf, H⟩
            try dsimp only at hB1099
            refine CW.at hf ?_
            refine C_cond rfl (fun hb => ?_) (fun hb => ?_)
            ·replace hB1099 := itT hb hB1099
             refine C_seq <| R_nd <| nq (Q_assign rfl) rfl rfl <| WL_nil <| x_then <| C_ret <| x_block_ret <| x_then_ret <| x_then_ret <| x_block_ret <| x_then_ret <| x_block_ret <| x_then_ret <| x_then_ret ?_
             refine x_block_ret <| x_then_ret <| x_then_ret ?_
             replace H := H.e0
             obtain rfl := Option.some.inj hB1099
             obtain rfl := hO1100 _ rfl
             obtain rfl := Option.some.inj (show some _ = some _ from hB1023)
             obtain rfl := hO1024 _ rfl
             obtain rfl := Option.some.inj (show some _ = some _ from hF)
             exact fn_ret (l := [.tmp 2]) (vs := [.bool false]) rfl rfl rfl ⟨false, rfl, rfl, H⟩
            ·replace hB1099 := itF hb hB1099
             refine C_skip <| x_block <| x_then <| R_nd <| nq (Q_add rfl rfl) rfl rfl <| nq (Q_move rfl) rfl rfl <| WL_nil ?_
             obtain rfl := Option.some.inj hB1099
             refine x_A fun a hf => ⟨_, rfl, w64 (x1092 + 1), rfl, hf.sub ⟨rfl, rfl, rfl, rfl, rfl, rfl, rfl, rfl, trivial⟩, H⟩
          ·replace hB1099 := itF hb hB1099
           refine C_exit <| x_then_exit <| x_then_exit <| x_block_exit ?_
           obtain rfl := Option.some.inj hB1099
           obtain rfl := hO1100 _ rfl
           refine x_A fun a hf => ⟨rfl, hf.sub ⟨rfl, rfl, rfl, rfl, rfl, trivial⟩, H⟩
        ·rintro a wd1106 ⟨rfl, hf, H⟩
         try dsimp only at hB1023
         refine XX.at hf <| x_block <| x_then <| R_nd <| nq (Q_add rfl rfl) rfl rfl <| nq (Q_move rfl) rfl rfl <| WL_nil ?_
         obtain rfl := Option.some.inj hB1023
         refine x_A fun a hf => ⟨_, rfl, w64 (x939 + 1), rfl, hf.sub ⟨rfl, rfl, rfl, rfl, rfl, trivial⟩, H⟩
     ·replace hB1023 := itF hb hB1023
      refine C_exit <| x_then_exit <| x_then_exit <| x_block_exit ?_
      obtain rfl := Option.some.inj hB1023
      obtain rfl := hO1024 _ rfl
      refine x_A fun a hf => ⟨rfl, hf.sub ⟨rfl, rfl, trivial⟩, H⟩
   ·rintro a wd1107 ⟨rfl, hf, H⟩
    try dsimp only at hF
    refine XX.at hf <| x_then <| C_seq <| C_seq <| R_nd <| nq (v := .pointer (some ⟨b601, 2, none⟩)) (Q_fld Tryz.underlying81 rfl ty23 (by decide) rfl rfl) rfl rfl <| nq (v := v7) (Q_ldB (k := 0) (cs := [v7]) H.ok rfl ty23 rfl rfl rfl (fun _ => rfl) rfl) rfl rfl <| nq (Q_len Tryz.underlying23 rfl r9) rfl rfl <| nq (Q_move rfl) rfl rfl <| WL_nil <| x_then ?_
    obtain ⟨o1145, ho1145, hF⟩ := bnd hF
    refine C_cutQ (fun a w' => .inl () = o1145 ∧ Fr 101 a [(1, .pointer (some ⟨b601, 0, none⟩))] ∧ Hp C w' ρ (Box b601 [v1, v4, v7] :: hs)) ?_ ?_
    ·refine C_block ?_
     refine C_iter (f := fun s => F_dofferref17_Right_l2 N x2 x8 s) ho1145 (fun s a w' => ∃ (x1157 : Int), x1157 = s ∧ Fr 101 a [(1, .pointer (some ⟨b601, 0, none⟩)), (3, .int .i64 (x2.length : Int)), (82, v7), (83, .int .i64 (x8.length : Int)), (84, .int .i64 x1157)] ∧ Hp C w' ρ (Box b601 [v1, v4, v7] :: hs)) ?_ ?_
     ·exact fun a hf => ⟨0, rfl, hf.sub ⟨rfl, rfl, rfl, rfl, rfl, trivial⟩, H⟩
     ·rintro s o1169 a wd1172 ⟨x1157, rfl, hf, H⟩ hB1170 hO1171
      replace hB1170 : F_dofferref17_Right_l2 N x2 x8 x1157 = some o1169 := hB1170
      unfold F_dofferref17_Right_l2 at hB1170
      refine CW.at hf <| C_seq <| R_nd <| nq (Q_lss rfl rfl) rfl rfl <| WL_nil <| x_then <| C_seq ?_
      refine C_cond rfl (fun hb => ?_) (fun hb => ?_)
      ·replace hB1170 := itT hb hB1170
       refine C_skip <| x_then <| C_seq <| C_block <| C_seq <| R_nd ?_
       obtain ⟨x1173, hx1173, hB1170⟩ := bnd hB1170
       obtain ⟨b1174, o1175, c1176, hc1177, ha1178, hi1179⟩ := idxR r9 hx1173
       refine nq (Q_idx hi1179 Tryz.underlying23 ty3 rfl rfl) rfl rfl <| nq (v := .int .i64 x1173) (Q_ld (show cellsAt _ _ _ [.int .i64 x1173] from (show _ = [_] from hc1177) ▸ (ha1178.up H.ok.view)) ty3 rfl (fun _ => rfl) rfl rfl) rfl rfl <| nq (Q_assign rfl) rfl rfl <| WL_nil <| x_then ?_
       obtain ⟨o1181, ho1181, hB1170⟩ := bnd hB1170
       refine C_cut (fun a w' => ∃ (x1180 : Bool), x1180 = o1181 ∧ Fr 101 a [(1, .pointer (some ⟨b601, 0, none⟩)), (3, .int .i64 (x2.length : Int)), (82, v7), (83, .int .i64 (x8.length : Int)), (84, .int .i64 x1157), (94, .bool x1180)] ∧ Hp C w' ρ (Box b601 [v1, v4, v7] :: hs)) ?_ ?_
       ·refine R_nd <| nq (Q_move rfl) rfl rfl <| nq (Q_lss rfl rfl) rfl rfl <| nq (Q_move rfl) rfl rfl ?_
        rcases Bool.eq_false_or_eq_true (decide (x1173 < 0)) with hb | hb
        ·rw [hb]
         replace ho1181 := itT hb ho1181
         refine gs rfl rfl rfl rfl <| gs rfl rfl rfl rfl <| gs rfl rfl rfl rfl <| nq (Q_pickT rfl rfl) rfl rfl <| WL_nil ?_
         obtain rfl := Option.some.inj ho1181
         refine x_A fun a hf => ⟨true, rfl, hf.sub ⟨rfl, rfl, rfl, rfl, rfl, rfl, trivial⟩, H⟩
        ·rw [hb]
         replace ho1181 := itF hb ho1181
         refine gq (Q_move rfl) rfl rfl rfl <| gq (Q_move rfl) rfl rfl rfl <| gq (Q_geq rfl rfl) rfl rfl rfl <| nq (Q_pickF rfl rfl) rfl rfl <| WL_nil ?_
         obtain rfl := Option.some.inj ho1181
         refine x_A fun a hf => ⟨decide (x1173 ≥ (x2.length : Int)), rfl, hf.sub ⟨rfl, rfl, rfl, rfl, rfl, rfl, trivial⟩, H⟩
       ·rintro a wd1182 ⟨x1180, rfl, hf, H⟩
        try dsimp only at hB1170
        refine CW.at hf ?_
        refine C_cond rfl (fun hb => ?_) (fun hb => ?_)
        ·replace hB1170 := itT hb hB1170
         refine C_seq <| R_nd <| nq (Q_assign rfl) rfl rfl <| WL_nil <| x_then <| C_ret <| x_block_ret <| x_then_ret <| x_then_ret <| x_block_ret <| x_then_ret <| x_then_ret ?_
         replace H := H.e0
         obtain rfl := Option.some.inj hB1170
         obtain rfl := hO1171 _ rfl
         obtain rfl := Option.some.inj (show some _ = some _ from hF)
         exact fn_ret (l := [.tmp 2]) (vs := [.bool false]) rfl rfl rfl ⟨false, rfl, rfl, H⟩
        ·replace hB1170 := itF hb hB1170
         refine C_skip <| x_block <| x_then <| R_nd <| nq (Q_add rfl rfl) rfl rfl <| nq (Q_move rfl) rfl rfl <| WL_nil ?_
         obtain rfl := Option.some.inj hB1170
         refine x_A fun a hf => ⟨_, rfl, w64 (x1157 + 1), rfl, hf.sub ⟨rfl, rfl, rfl, rfl, rfl, trivial⟩, H⟩
      ·replace hB1170 := itF hb hB1170
       refine C_exit <| x_then_exit <| x_then_exit <| x_block_exit ?_
       obtain rfl := Option.some.inj hB1170
       obtain rfl := hO1171 _ rfl
       refine x_A fun a hf => ⟨rfl, hf.sub ⟨rfl, trivial⟩, H⟩
    ·rintro a wd1183 ⟨rfl, hf, H⟩
     try dsimp only at hF
     refine XX.at hf <| x_then <| C_seq <| R_nd <| nq (v := .pointer (some ⟨b601, 1, none⟩)) (Q_fld Tryz.underlying81 rfl ty23 (by decide) rfl rfl) rfl rfl <| nq (v := v4) (Q_ldB (k := 0) (cs := [v4]) H.ok rfl ty23 rfl rfl rfl (fun _ => rfl) rfl) rfl rfl ?_
     obtain ⟨x1184, hx1184, hF⟩ := bnd hF
     obtain ⟨b1185, o1186, c1187, hc1188, ha1189, hi1190⟩ := idxR r6 hx1184
     refine nq (Q_idx hi1190 Tryz.underlying23 ty3 rfl rfl) rfl rfl <| nq (v := .int .i64 x1184) (Q_ld (show cellsAt _ _ _ [.int .i64 x1184] from (show _ = [_] from hc1188) ▸ (ha1189.up H.ok.view)) ty3 rfl (fun _ => rfl) rfl rfl) rfl rfl <| nq (Q_eql rfl rfl) rfl rfl <| nq (Q_assign rfl) rfl rfl <| WL_nil <| x_then <| C_ret ?_
     replace H := H.e0
     obtain rfl := Option.some.inj hF
     exact fn_ret (l := [.tmp 2]) (vs := [.bool (x1184 == (-1))]) rfl rfl rfl ⟨x1184 == (-1), rfl, rfl, H⟩
theorem c_65 {N : Nat} {C : Cx} {w : World} {ρ : View} {hs : List Hl} {gV : Nat → Value} {x1 : Int} (H : Hp C w ρ (hs)) (gle : GErrs ρ 394 errIds gV) {r : Int} (hF : F_doffernum_Num N x1 = some r) :
  Calls Tryz.prog 65 [errV errIds gV x1].toArray w (Rets (fun v w' => (∃ (x74 : Int), x74 = r ∧ .int .i64 x74 = v ∧ Hp C w' ρ (hs)))) := by
 unfold F_doffernum_Num at hF
 have h0 : Tryz.f65.body = some _ := rfl
 refine fn_calls' Tryz.func65 h0 (n := 40) rfl (by simp) <| C_seq <| R_nd <| nq (Q_assign rfl) rfl rfl <| WL_nil <| x_then <| C_seq <| C_seq <| R_nd <| nq (Q_move rfl) rfl rfl <| nq (v := .bool (!(eOk errIds x1))) (Q_eqlV Tryz.underlying53 gle rfl) rfl rfl <| WL_nil <| x_then ?_
 refine C_cond rfl (fun hb => ?_) (fun hb => ?_)
 ·replace hF := itT hb hF
  refine C_seq <| R_nd <| nq (Q_assign rfl) rfl rfl <| WL_nil <| x_then <| C_ret <| x_then_ret ?_
  obtain rfl := Option.some.inj hF
  exact fn_ret (l := [.tmp 2]) (vs := [.int .i64 0]) rfl rfl rfl ⟨0, rfl, rfl, H⟩
 ·replace hF := itF hb hF
  refine C_skip <| x_then <| C_seq <| R_nd <| nq (v := errV errIds gV 1) (Q_ldV H.ok gle (by decide) ty53) rfl rfl <| nq (v := errV errIds gV 3) (Q_ldV H.ok gle (by decide) ty53) rfl rfl <| nq (v := errV errIds gV 4) (Q_ldV H.ok gle (by decide) ty53) rfl rfl <| nq (v := errV errIds gV 2) (Q_ldV H.ok gle (by decide) ty53) rfl rfl <| nq (v := errV errIds gV 5) (Q_ldV H.ok gle (by decide) ty53) rfl rfl <| nq (v := errV errIds gV 6) (Q_ldV H.ok gle (by decide) ty53) rfl rfl <| nq (v := errV errIds gV 7) (Q_ldV H.ok gle (by decide) ty53) rfl rfl <| nq (v := errV errIds gV 8) (Q_ldV H.ok gle (by decide) ty53) rfl rfl <| nq (v := errV errIds gV 9) (Q_ldV H.ok gle (by decide) ty53) rfl rfl <| nq (v := errV errIds gV 10) (Q_ldV H.ok gle (by decide) ty53) rfl rfl ?_
  refine nq (v := errV errIds gV 11) (Q_ldV H.ok gle (by decide) ty53) rfl rfl <| nq (v := errV errIds gV 12) (Q_ldV H.ok gle (by decide) ty53) rfl rfl <| nq (v := errV errIds gV 13) (Q_ldV H.ok gle (by decide) ty53) rfl rfl <| nq (v := errV errIds gV 14) (Q_ldV H.ok gle (by decide) ty53) rfl rfl <| nq (v := errV errIds gV 15) (Q_ldV H.ok gle (by decide) ty53) rfl rfl <| nq (v := errV errIds gV 16) (Q_ldV H.ok gle (by decide) ty53) rfl rfl <| nq (v := errV errIds gV 17) (Q_ldV H.ok gle (by decide) ty53) rfl rfl <| nq (v := errV errIds gV 18) (Q_ldV H.ok gle (by decide) ty53) rfl rfl <| ne (E_bslice (xs := [.tmp 8, .tmp 9, .tmp 10, .tmp 11, .tmp 12, .tmp 13, .tmp 14, .tmp 15, .tmp 16, .tmp 17, .tmp 18, .tmp 19, .tmp 20, .tmp 21, .tmp 22, .tmp 23, .tmp 24, .tmp 25]) (vs := [errV errIds gV 1, errV errIds gV 3, errV errIds gV 4, errV errIds gV 2, errV errIds gV 5, errV errIds gV 6, errV errIds gV 7, errV errIds gV 8, errV errIds gV 9, errV errIds gV 10, errV errIds gV 11, errV errIds gV 12, errV errIds gV 13, errV errIds gV 14, errV errIds gV 15, errV errIds gV 16, errV errIds gV 17, errV errIds gV 18]) H Tryz.underlying181 ty53 (by decide) (cs := [errV errIds gV 1, errV errIds gV 3, errV errIds gV 4, errV errIds gV 2, errV errIds gV 5, errV errIds gV 6, errV errIds gV 7, errV errIds gV 8, errV errIds gV 9, errV errIds gV 10, errV errIds gV 11, errV errIds gV 12, errV errIds gV 13, errV errIds gV 14, errV errIds gV 15, errV errIds gV 16, errV errIds gV 17, errV errIds gV 18]) rfl (sz_cons (by rw [errV_cells gle]; rfl) (sz_cons (by rw [errV_cells gle]; rfl) (sz_cons (by rw [errV_cells gle]; rfl) (sz_cons (by rw [errV_cells gle]; rfl) (sz_cons (by rw [errV_cells gle]; rfl) (sz_cons (by rw [errV_cells gle]; rfl) (sz_cons (by rw [errV_cells gle]; rfl) (sz_cons (by rw [errV_cells gle]; rfl) (sz_cons (by rw [errV_cells gle]; rfl) (sz_cons (by rw [errV_cells gle]; rfl) (sz_cons (by rw [errV_cells gle]; rfl) (sz_cons (by rw [errV_cells gle]; rfl) (sz_cons (by rw [errV_cells gle]; rfl) (sz_cons (by rw [errV_cells gle]; rfl) (sz_cons (by rw [errV_cells gle]; rfl) (sz_cons (by rw [errV_cells gle]; rfl) (sz_cons (by rw [errV_cells gle]; rfl) (sz_cons (by rw [errV_cells gle]; rfl) sz_nil)))))))))))))))))) (by simp [errV_cells gle]) (by simp) (by simp) rfl rfl) rfl rfl ?_
  rintro _ wd76 ⟨b75, rfl, H⟩
  refine nq (Q_assign rfl) rfl rfl <| WL_nil <| x_then <| C_seq <| C_seq <| R_nd <| nq (Q_move rfl) rfl rfl <| nq (Q_lenA (en := (eE errIds gV)) (k := 0) H.ok rfl (show rdL (eE errIds gV) ρ ([1, 3, 4, 2, 5, 6, 7, 8, 9, 10, 11, 12, 13, 14, 15, 16, 17, 18]) ([errV errIds gV 1, errV errIds gV 3, errV errIds gV 4, errV errIds gV 2, errV errIds gV 5, errV errIds gV 6, errV errIds gV 7, errV errIds gV 8, errV errIds gV 9, errV errIds gV 10, errV errIds gV 11, errV errIds gV 12, errV errIds gV 13, errV errIds gV 14, errV errIds gV 15, errV errIds gV 16, errV errIds gV 17, errV errIds gV 18]) from ⟨([errV errIds gV 1]), _, rfl, ⟨rfl, errV_one gle 1⟩, ⟨([errV errIds gV 3]), _, rfl, ⟨rfl, errV_one gle 3⟩, ⟨([errV errIds gV 4]), _, rfl, ⟨rfl, errV_one gle 4⟩, ⟨([errV errIds gV 2]), _, rfl, ⟨rfl, errV_one gle 2⟩, ⟨([errV errIds gV 5]), _, rfl, ⟨rfl, errV_one gle 5⟩, ⟨([errV errIds gV 6]), _, rfl, ⟨rfl, errV_one gle 6⟩, ⟨([errV errIds gV 7]), _, rfl, ⟨rfl, errV_one gle 7⟩, ⟨([errV errIds gV 8]), _, rfl, ⟨rfl, errV_one gle 8⟩, ⟨([errV errIds gV 9]), _, rfl, ⟨rfl, errV_one gle 9⟩, ⟨([errV errIds gV 10]), _, rfl, ⟨rfl, errV_one gle 10⟩, ⟨([errV errIds gV 11]), _, rfl, ⟨rfl, errV_one gle 11⟩, ⟨([errV errIds gV 12]), _, rfl, ⟨rfl, errV_one gle 12⟩, ⟨([errV errIds gV 13]), _, rfl, ⟨rfl, errV_one gle 13⟩, ⟨([errV errIds gV 14]), _, rfl, ⟨rfl, errV_one gle 14⟩, ⟨([errV errIds gV 15]), _, rfl, ⟨rfl, errV_one gle 15⟩, ⟨([errV errIds gV 16]), _, rfl, ⟨rfl, errV_one gle 16⟩, ⟨([errV errIds gV 17]), _, rfl, ⟨rfl, errV_one gle 17⟩, ⟨([errV errIds gV 18]), _, rfl, ⟨rfl, errV_one gle 18⟩, rdL.nil⟩⟩⟩⟩⟩⟩⟩⟩⟩⟩⟩⟩⟩⟩⟩⟩⟩⟩) Nat.one_pos Tryz.underlying181 rfl) rfl rfl <| nq (Q_move rfl) rfl rfl <| WL_nil <| x_then ?_
  obtain ⟨o111, ho111, hF⟩ := bnd hF
  refine C_cutQ (fun a w' => .inl () = o111 ∧ Fr 40 a [] ∧ Hp C w' ρ (hs)) ?_ ?_
  ·refine C_block ?_
   refine C_iter (f := fun s => F_doffernum_Num_l0 N x1 s) ho111 (fun s a w' => ∃ (x122 : Int), x122 = s ∧ Fr 40 a [(0, errV errIds gV x1), (27, (.slice (some ⟨b75, 0, none⟩) 18 18)), (28, .int .i64 (([1, 3, 4, 2, 5, 6, 7, 8, 9, 10, 11, 12, 13, 14, 15, 16, 17, 18]).length : Int)), (29, .int .i64 x122)] ∧ Hp C w' ρ (Arr (.slice (some ⟨b75, 0, none⟩) 18 18) 1 ([errV errIds gV 1, errV errIds gV 3, errV errIds gV 4, errV errIds gV 2, errV errIds gV 5, errV errIds gV 6, errV errIds gV 7, errV errIds gV 8, errV errIds gV 9, errV errIds gV 10, errV errIds gV 11, errV errIds gV 12, errV errIds gV 13, errV errIds gV 14, errV errIds gV 15, errV errIds gV 16, errV errIds gV 17, errV errIds gV 18]) :: hs)) ?_ ?_
   ·exact fun a hf => ⟨0, rfl, hf.sub ⟨rfl, rfl, rfl, rfl, trivial⟩, H⟩
   ·rintro s o133 a wd136 ⟨x122, rfl, hf, H⟩ hB134 hO135
    replace hB134 : F_doffernum_Num_l0 N x1 x122 = some o133 := hB134
    unfold F_doffernum_Num_l0 at hB134
    refine CW.at hf <| C_seq <| R_nd <| nq (Q_lss rfl rfl) rfl rfl <| WL_nil <| x_then <| C_seq ?_
    refine C_cond rfl (fun hb => ?_) (fun hb => ?_)
    ·replace hB134 := itT hb hB134
     refine C_skip <| x_then <| C_seq <| C_block <| C_seq <| R_nd <| nq (Q_move rfl) rfl rfl ?_
     obtain ⟨x137, hx137, hB134⟩ := bnd hB134
     obtain ⟨b138, o139, hi143, hc141, ha142⟩ := arr_at (en := (eE errIds gV)) (hs := [Arr (.slice (some ⟨b75, 0, none⟩) 18 18) 1 ([errV errIds gV 1, errV errIds gV 3, errV errIds gV 4, errV errIds gV 2, errV errIds gV 5, errV errIds gV 6, errV errIds gV 7, errV errIds gV 8, errV errIds gV 9, errV errIds gV 10, errV errIds gV 11, errV errIds gV 12, errV errIds gV 13, errV errIds gV 14, errV errIds gV 15, errV errIds gV 16, errV errIds gV 17, errV errIds gV 18])]) (k := 0) Nat.one_pos (H.okS (by simp)) rfl (show rdL (eE errIds gV) ρ ([1, 3, 4, 2, 5, 6, 7, 8, 9, 10, 11, 12, 13, 14, 15, 16, 17, 18]) ([errV errIds gV 1, errV errIds gV 3, errV errIds gV 4, errV errIds gV 2, errV errIds gV 5, errV errIds gV 6, errV errIds gV 7, errV errIds gV 8, errV errIds gV 9, errV errIds gV 10, errV errIds gV 11, errV errIds gV 12, errV errIds gV 13, errV errIds gV 14, errV errIds gV 15, errV errIds gV 16, errV errIds gV 17, errV errIds gV 18]) from ⟨([errV errIds gV 1]), _, rfl, ⟨rfl, errV_one gle 1⟩, ⟨([errV errIds gV 3]), _, rfl, ⟨rfl, errV_one gle 3⟩, ⟨([errV errIds gV 4]), _, rfl, ⟨rfl, errV_one gle 4⟩, ⟨([errV errIds gV 2]), _, rfl, ⟨rfl, errV_one gle 2⟩, ⟨([errV errIds gV 5]), _, rfl, ⟨rfl, errV_one gle 5⟩, ⟨([errV errIds gV 6]), _, rfl, ⟨rfl, errV_one gle 6⟩, ⟨([errV errIds gV 7]), _, rfl, ⟨rfl, errV_one gle 7⟩, ⟨([errV errIds gV 8]), _, rfl, ⟨rfl, errV_one gle 8⟩, ⟨([errV errIds gV 9]), _, rfl, ⟨rfl, errV_one gle 9⟩, ⟨([errV errIds gV 10]), _, rfl, ⟨rfl, errV_one gle 10⟩, ⟨([errV errIds gV 11]), _, rfl, ⟨rfl, errV_one gle 11⟩, ⟨([errV errIds gV 12]), _, rfl, ⟨rfl, errV_one gle 12⟩, ⟨([errV errIds gV 13]), _, rfl, ⟨rfl, errV_one gle 13⟩, ⟨([errV errIds gV 14]), _, rfl, ⟨rfl, errV_one gle 14⟩, ⟨([errV errIds gV 15]), _, rfl, ⟨rfl, errV_one gle 15⟩, ⟨([errV errIds gV 16]), _, rfl, ⟨rfl, errV_one gle 16⟩, ⟨([errV errIds gV 17]), _, rfl, ⟨rfl, errV_one gle 17⟩, ⟨([errV errIds gV 18]), _, rfl, ⟨rfl, errV_one gle 18⟩, rdL.nil⟩⟩⟩⟩⟩⟩⟩⟩⟩⟩⟩⟩⟩⟩⟩⟩⟩⟩) hx137
     refine nq (Q_idx hi143 Tryz.underlying181 ty53 rfl rfl) rfl rfl <| nq (v := errV errIds gV x137) (Q_ld (show cellsAt _ _ _ [errV errIds gV x137] from rdE hc141 ▸ (ha142 _ (Ok.subS (by simp) H.ok))) ty53 rfl (fun _ => rfl) rfl rfl) rfl rfl <| nq (Q_assign rfl) rfl rfl <| nq (Q_assign rfl) rfl rfl <| WL_nil <| x_then <| C_seq <| R_nd <| nq (Q_move rfl) rfl rfl <| nq (Q_move rfl) rfl rfl ?_
     obtain ⟨x144, hx144, hB134⟩ := bnd hB134
     refine ne (E_call fn113 rfl (c_is isC gle H hx144)) rfl rfl ?_
     rintro _ wd145 ⟨rfl, H⟩
     refine WL_nil <| x_then ?_
     refine C_cond rfl (fun hb => ?_) (fun hb => ?_)
     ·replace hB134 := itT hb hB134
      refine C_seq <| R_nd <| nq (Q_move rfl) rfl rfl <| nq (Q_add rfl rfl) rfl rfl <| nq (Q_assign rfl) rfl rfl <| WL_nil <| x_then <| C_ret <| x_block_ret <| x_then_ret <| x_then_ret <| x_block_ret <| x_then_ret <| x_then_ret ?_
      replace H := H.e0
      obtain rfl := Option.some.inj hB134
      obtain rfl := hO135 _ rfl
      obtain rfl := Option.some.inj (show some _ = some _ from hF)
      exact fn_ret (l := [.tmp 2]) (vs := [.int .i64 (w64 (x122 + 1))]) rfl rfl rfl ⟨w64 (x122 + 1), rfl, rfl, H⟩
     ·replace hB134 := itF hb hB134
      refine C_skip <| x_block <| x_then <| R_nd <| nq (Q_add rfl rfl) rfl rfl <| nq (Q_move rfl) rfl rfl <| WL_nil ?_
      obtain rfl := Option.some.inj hB134
      refine x_A fun a hf => ⟨_, rfl, w64 (x122 + 1), rfl, hf.sub ⟨rfl, rfl, rfl, rfl, trivial⟩, H⟩
    ·replace hB134 := itF hb hB134
     refine C_exit <| x_then_exit <| x_then_exit <| x_block_exit ?_
     replace H := H.e0
     obtain rfl := Option.some.inj hB134
     obtain rfl := hO135 _ rfl
     refine x_A fun a hf => ⟨rfl, hf.sub trivial, H⟩
  ·rintro a wd146 ⟨rfl, hf, H⟩
   try dsimp only at hF
   refine XX.at hf <| x_then <| C_seq <| R_nd <| nq (Q_assign rfl) rfl rfl <| WL_nil <| x_then <| C_ret ?_
   obtain rfl := Option.some.inj hF
   exact fn_ret (l := [.tmp 2]) (vs := [.int .i64 (-1)]) rfl rfl rfl ⟨(-1), rfl, rfl, H⟩
theorem c_118_1 {N : Nat} {C : Cx} {w : World} {ρ : View} {hs : List Hl} {gV : Nat → Value} {c1 : List Value} {v4 : Value} {x2 : (List (Int × Int))} {x5 : Int} {x6 : Int} (H : Hp C w ρ (Arr v4 2 c1 :: hs)) (_gle : GErrs ρ 394 errIds gV) (r3 : rdL (eP (eI .i64) (eI .i64)) ρ x2 c1) {r : ((List (Int × Int)) × Int)} (hF : F_dofferref21_place_1 N x2 x5 x6 = some r) :
  Calls Tryz.prog 118 [v4, .int .i64 x5, .int .i64 x6].toArray w (Rets (fun v w' => (∃ (v142 : Value) (c143 : (List Value)) (x144 : (List (Int × Int))) (x146 : Int), (x144, x146) = r ∧ .tuple [.int .i64 x146, v142].toArray = v ∧ rdL (eP (eI .i64) (eI .i64)) ρ x144 c143 ∧ Hp C w' ρ (Arr v142 2 c143 :: hs)))) := by
 unfold F_dofferref21_place_1 at hF
 have h0 : Tryz.f118.body = some _ := rfl
 refine fn_calls' Tryz.func118 h0 (n := 45) rfl (by simp) <| C_seq <| R_nd <| nq (Q_assign rfl) rfl rfl <| nq (Q_assign rfl) rfl rfl <| WL_nil <| x_then <| C_seq ?_
 obtain ⟨o148, ho148, hF⟩ := bnd hF
 refine C_cut (fun a w' => ∃ (x147 : Bool), x147 = o148 ∧ Fr 45 a [(0, v4), (1, .int .i64 x5), (2, .int .i64 x6), (15, .bool x147)] ∧ Hp C w' ρ (Arr v4 2 c1 :: hs)) ?_ ?_
 ·refine R_nd <| nq (Q_move rfl) rfl rfl <| nq (Q_eql rfl rfl) rfl rfl <| nq (Q_move rfl) rfl rfl ?_
  rcases Bool.eq_false_or_eq_true (x5 == 0) with hb | hb
  ·rw [hb]
   replace ho148 := itT hb ho148
   refine gs rfl rfl rfl rfl <| gs rfl rfl rfl rfl <| nq (Q_pickT rfl rfl) rfl rfl <| WL_nil ?_
   obtain rfl := Option.some.inj ho148
   refine x_A fun a hf => ⟨true, rfl, hf.sub ⟨rfl, rfl, rfl, rfl, trivial⟩, H⟩
  ·rw [hb]
   replace ho148 := itF hb ho148
   refine gq (Q_move rfl) rfl rfl rfl <| gq (Q_eql rfl rfl) rfl rfl rfl <| nq (Q_pickF rfl rfl) rfl rfl <| WL_nil ?_
   obtain rfl := Option.some.inj ho148
   refine x_A fun a hf => ⟨x6 == 0, rfl, hf.sub ⟨rfl, rfl, rfl, rfl, trivial⟩, H⟩
 ·rintro a wd149 ⟨x147, rfl, hf, H⟩
  try dsimp only at hF
  refine CW.at hf ?_
  refine C_cond rfl (fun hb => ?_) (fun hb => ?_)
  ·replace hF := itT hb hF
   refine C_seq <| R_nd <| nq (Q_move rfl) rfl rfl <| nq (Q_assign rfl) rfl rfl <| nq (Q_assign rfl) rfl rfl <| WL_nil <| x_then <| C_ret <| x_then_ret ?_
   obtain rfl := Option.some.inj hF
   exact fn_ret (l := [.tmp 6, .tmp 7]) (vs := [.int .i64 0, v4]) rfl rfl rfl ⟨v4, c1, x2, 0, rfl, rfl, r3, H⟩
  ·replace hF := itF hb hF
   refine C_skip <| x_then <| C_seq <| C_seq <| R_nd <| nq (Q_move rfl) rfl rfl <| nq (Q_lenA (k := 0) H.ok rfl r3 (by decide) Tryz.underlying192 rfl) rfl rfl <| nq (Q_move rfl) rfl rfl <| WL_nil <| x_then ?_
   obtain ⟨o211, ho211, hF⟩ := bnd hF
   refine C_cutQ (fun a w' => .inl () = o211 ∧ Fr 45 a [(0, v4), (1, .int .i64 x5), (2, .int .i64 x6)] ∧ Hp C w' ρ (Arr v4 2 c1 :: hs)) ?_ ?_
   ·refine C_block ?_
    refine C_iter (f := fun s => F_dofferref21_place_1_l0 N x2 x5 x6 s) ho211 (fun s a w' => ∃ (x231 : Int), x231 = s ∧ Fr 45 a [(0, v4), (1, .int .i64 x5), (2, .int .i64 x6), (17, v4), (18, .int .i64 (x2.length : Int)), (19, .int .i64 x231)] ∧ Hp C w' ρ (Arr v4 2 c1 :: hs)) ?_ ?_
    ·exact fun a hf => ⟨0, rfl, hf.sub ⟨rfl, rfl, rfl, rfl, rfl, rfl, trivial⟩, H⟩
    ·rintro s o251 a wd254 ⟨x231, rfl, hf, H⟩ hB252 hO253
     replace hB252 : F_dofferref21_place_1_l0 N x2 x5 x6 x231 = some o251 := hB252
     unfold F_dofferref21_place_1_l0 at hB252
     refine CW.at hf <| C_seq <| R_nd <| nq (Q_lss rfl rfl) rfl rfl <| WL_nil <| x_then <| C_seq ?_
     refine C_cond rfl (fun hb => ?_) (fun hb => ?_)
     ·replace hB252 := itT hb hB252
      refine C_skip <| x_then <| C_seq <| C_block <| C_seq <| R_nd <| nq (Q_move rfl) rfl rfl ?_
      obtain ⟨x255, hx255, hB252⟩ := bnd hB252
      obtain ⟨b256, o257, hi261, hc259, ha260⟩ := arr_at (hs := [Arr v4 2 c1]) (k := 0) (by decide) (H.okS (by simp)) rfl r3 hx255
      refine nq (Q_idx hi261 Tryz.underlying192 ty191 rfl rfl) rfl rfl ?_
      obtain ⟨c262, c263, he264, hc265, hc266⟩ := (id hc259)
      refine nq (v := .agg #[.int .i64 x255.1, .int .i64 x255.2]) (Q_ld (show cellsAt _ _ _ [.int .i64 x255.1, .int .i64 x255.2] from cellsAt.cg (cat2 he264 (rdI hc265) (rdI hc266)) (ha260 _ (Ok.subS (by simp) H.ok))) ty191 rfl (fun h => nomatch h) rfl rfl) rfl rfl <| ne (E_alloc H ty191 (zs := [.int .i64 0, .int .i64 0]) rfl) rfl rfl ?_
      rintro _ wd268 ⟨b267, rfl, H⟩
      refine nq (Q_assign rfl) rfl rfl <| ne (E_stB (k := 0) (cs := [.int .i64 x255.1, .int .i64 x255.2]) (vs' := [.int .i64 x255.1, .int .i64 x255.2]) H rfl ty191 rfl rfl rfl rfl (one_cons rfl (one_cons rfl one_nil)) (by simp) rfl) rfl rfl ?_
      rintro _ wd269 H
      dsimp only [List.set] at H
      refine WL_nil <| x_then ?_
      obtain ⟨o271, ho271, hB252⟩ := bnd hB252
      refine C_cut (fun a w' => ∃ (x270 : Bool), x270 = o271 ∧ Fr 45 a [(0, v4), (1, .int .i64 x5), (2, .int .i64 x6), (8, .int .i64 x231), (17, v4), (18, .int .i64 (x2.length : Int)), (19, .int .i64 x231), (33, .bool x270)] ∧ Hp C w' ρ (Arr v4 2 c1 :: hs)) ?_ ?_
      ·refine R_nd <| nq (v := .pointer (some ⟨b267, 0, none⟩)) (Q_idxA (m := 0) (N := 2) (by decide) (by decide) Tryz.underlying191 ty3 rfl rfl) rfl rfl <| nq (v := .int .i64 x255.1) (Q_ldB (k := 0) (cs := [.int .i64 x255.1]) H.ok rfl ty3 rfl rfl rfl (fun _ => rfl) rfl) rfl rfl <| nq (Q_move rfl) rfl rfl <| nq (Q_eql rfl rfl) rfl rfl <| nq (Q_move rfl) rfl rfl ?_
       rcases Bool.eq_false_or_eq_true (x255.1 == x5) with hb | hb
       ·rw [hb]
        replace ho271 := itT hb ho271
        refine gq (v := .pointer (some ⟨b267, 1, none⟩)) (Q_idxA (m := 1) (N := 2) (by decide) (by decide) Tryz.underlying191 ty3 rfl rfl) rfl rfl rfl <| gq (v := .int .i64 x255.2) (Q_ldB (k := 0) (cs := [.int .i64 x255.2]) H.ok rfl ty3 rfl rfl rfl (fun _ => rfl) rfl) rfl rfl rfl <| gq (Q_move rfl) rfl rfl rfl <| gq (Q_eql rfl rfl) rfl rfl rfl <| nq (Q_pickT rfl rfl) rfl rfl <| WL_nil ?_
        replace H := H.e0
        obtain rfl := Option.some.inj ho271
        refine x_A fun a hf => ⟨x255.2 == x6, rfl, hf.sub ⟨rfl, rfl, rfl, rfl, rfl, rfl, rfl, rfl, trivial⟩, H⟩
       ·rw [hb]
        replace ho271 := itF hb ho271
        refine gs rfl rfl rfl rfl <| gs rfl rfl rfl rfl <| gs rfl rfl rfl rfl <| gs rfl rfl rfl rfl <| nq (Q_pickF rfl rfl) rfl rfl <| WL_nil ?_
        replace H := H.e0
        obtain rfl := Option.some.inj ho271
        refine x_A fun a hf => ⟨false, rfl, hf.sub ⟨rfl, rfl, rfl, rfl, rfl, rfl, rfl, rfl, trivial⟩, H⟩
      ·rintro a wd272 ⟨x270, rfl, hf, H⟩
       try dsimp only at hB252
       refine CW.at hf ?_
       refine C_cond rfl (fun hb => ?_) (fun hb => ?_)
       ·replace hB252 := itT hb hB252
        refine C_seq <| R_nd <| nq (Q_move rfl) rfl rfl <| nq (Q_move rfl) rfl rfl <| nq (Q_assign rfl) rfl rfl <| nq (Q_assign rfl) rfl rfl <| WL_nil <| x_then <| C_ret <| x_block_ret <| x_then_ret <| x_then_ret <| x_block_ret <| x_then_ret ?_
        refine x_then_ret ?_
        obtain rfl := Option.some.inj hB252
        obtain rfl := hO253 _ rfl
        obtain rfl := Option.some.inj (show some _ = some _ from hF)
        exact fn_ret (l := [.tmp 6, .tmp 7]) (vs := [.int .i64 x231, v4]) rfl rfl rfl ⟨v4, c1, x2, x231, rfl, rfl, r3, H⟩
       ·replace hB252 := itF hb hB252
        refine C_skip <| x_block <| x_then <| R_nd <| nq (Q_add rfl rfl) rfl rfl <| nq (Q_move rfl) rfl rfl <| WL_nil ?_
        obtain rfl := Option.some.inj hB252
        refine x_A fun a hf => ⟨_, rfl, w64 (x231 + 1), rfl, hf.sub ⟨rfl, rfl, rfl, rfl, rfl, rfl, trivial⟩, H⟩
     ·replace hB252 := itF hb hB252
      refine C_exit <| x_then_exit <| x_then_exit <| x_block_exit ?_
      obtain rfl := Option.some.inj hB252
      obtain rfl := hO253 _ rfl
      refine x_A fun a hf => ⟨rfl, hf.sub ⟨rfl, rfl, rfl, trivial⟩, H⟩
   ·rintro a wd273 ⟨rfl, hf, H⟩
    try dsimp only at hF
    refine XX.at hf <| x_then <| C_seq <| R_nd <| nq (Q_move rfl) rfl rfl <| nq (Q_lenA (k := 0) H.ok rfl r3 (by decide) Tryz.underlying192 rfl) rfl rfl <| nq (Q_move rfl) rfl rfl <| nq (Q_move rfl) rfl rfl <| nq (Q_move rfl) rfl rfl <| nq (v := .agg #[.int .i64 x5, .int .i64 x6]) (Q_buildAF (zs := [.int .i64 0, .int .i64 0]) (res := [.int .i64 x5, .int .i64 x6]) (parts := [(0, .tmp 40), (1, .tmp 41)]) (ps := [(0, [.int .i64 x5]), (1, [.int .i64 x6])]) ty191 rfl Tryz.underlying191 ty3 rfl ⟨rfl, rfl, by simp, ⟨rfl, rfl, by simp, trivial⟩⟩ rfl) rfl rfl <| ne (E_bslice (xs := [.tmp 42]) (vs := [.agg #[.int .i64 x5, .int .i64 x6]]) H Tryz.underlying192 ty191 (by decide) (cs := [.int .i64 x5, .int .i64 x6]) rfl (sz_cons rfl sz_nil) rfl (by simp) (by simp) rfl rfl) rfl rfl ?_
    rintro _ wd275 ⟨b274, rfl, H⟩
    obtain ⟨x276, hx276, hF⟩ := bnd hF
    obtain ⟨ha277a, ha277b⟩ := app_some hx276
    have r279 : rdL (eP (eI .i64) (eI .i64)) ρ x276 (c1 ++ ([.int .i64 x5, .int .i64 x6])) := ha277b ▸ rdL.app r3 (show rdL (eP (eI .i64) (eI .i64)) ρ ([(x5, x6)]) ([.int .i64 x5, .int .i64 x6]) from ⟨([.int .i64 x5, .int .i64 x6]), _, rfl, ⟨[.int .i64 x5], _, rfl, rfl, rfl⟩, rdL.nil⟩)
    refine ne (E_append (k := 1) H rfl Tryz.underlying192 ty191 rfl (by decide) (by decide) rfl rfl (Src.ofArr (k := 0) H.ok rfl) (rdL.one (show rdL (eP (eI .i64) (eI .i64)) ρ ([(x5, x6)]) ([.int .i64 x5, .int .i64 x6]) from ⟨([.int .i64 x5, .int .i64 x6]), _, rfl, ⟨[.int .i64 x5], _, rfl, rfl, rfl⟩, rdL.nil⟩)) (app_fit r3 (show rdL (eP (eI .i64) (eI .i64)) ρ ([(x5, x6)]) ([.int .i64 x5, .int .i64 x6]) from ⟨([.int .i64 x5, .int .i64 x6]), _, rfl, ⟨[.int .i64 x5], _, rfl, rfl, rfl⟩, rdL.nil⟩) ha277a)) rfl rfl ?_
    rintro v278 wd281 ⟨H, hc280⟩
    dsimp only [List.set] at H
    refine nq (Q_assign rfl) rfl rfl <| nq (Q_assign rfl) rfl rfl <| WL_nil <| x_then <| C_ret ?_
    replace H := H.e0
    obtain rfl := Option.some.inj hF
    exact fn_ret (l := [.tmp 6, .tmp 7]) (vs := [.int .i64 (x2.length : Int), v278]) rfl rfl rfl ⟨v278, (c1 ++ ([.int .i64 x5, .int .i64 x6])), x276, (x2.length : Int), rfl, rfl, r279, H⟩
theorem c_68 {N : Nat} {C : Cx} {w : World} {ρ : View} {hs : List Hl} {gV : Nat → Value} {v1 : Value} {v4 : Value} {v7 : Value} {v10 : Value} {v13 : Value} {v16 : Value} {x2 : (List (List Int))} {x5 : (List Int)} {x8 : (List Int)} {x11 : (List (List Int))} {x14 : (List Int)} {x17 : (List Int)} (H : Hp C w ρ (hs)) (gle : GErrs ρ 394 errIds gV) (r3 : RdSl ρ (eA 256 (eI .i64)) v1 x2) (r6 : RdSl ρ (eI .i64) v4 x5) (r9 : RdSl ρ (eI .i64) v7 x8) (r12 : RdSl ρ (eA 256 (eI .i64)) v10 x11) (r15 : RdSl ρ (eI .i64) v13 x14) (r18 : RdSl ρ (eI .i64) v16 x17) {r : ((List (List Int)) × (List Int) × (List Int) × Int)} (hF : F_dofferref21_Both N x2 x5 x8 x11 x14 x17 = some r) :
  Calls Tryz.prog 68 [.agg #[v1, v4, v7], .agg #[v10, v13, v16]].toArray w (Rets (fun v w' => (∃ (v6352 : Value) (c6353 : (List Value)) (v6356 : Value) (c6357 : (List Value)) (v6360 : Value) (c6361 : (List Value)) (x6354 : (List (List Int))) (x6358 : (List Int)) (x6362 : (List Int)) (x6364 : Int), (x6354, x6358, x6362, x6364) = r ∧ .tuple [.agg #[v6352, v6356, v6360], .int .i64 x6364].toArray = v ∧ rdL (eA 256 (eI .i64)) ρ x6354 c6353 ∧ rdL (eI .i64) ρ x6358 c6357 ∧ rdL (eI .i64) ρ x6362 c6361 ∧ Hp C w' ρ (Arr v6352 256 c6353 :: Arr v6356 1 c6357 :: Arr v6360 1 c6361 :: hs)))) := by
 unfold F_dofferref21_Both at hF
 have h0 : Tryz.f68.body = some _ := rfl
 refine fn_calls' Tryz.func68 h0 (n := 135) rfl (by simp) <| C_seq <| R_nd <| ne (E_box H (vs := [v1, v4, v7]) rfl rfl) rfl rfl ?_
 rintro _ wd6366 ⟨b6365, rfl, H⟩
 refine ne (E_box H (vs := [v10, v13, v16]) rfl rfl) rfl rfl ?_
 rintro _ wd6368 ⟨b6367, rfl, H⟩
 refine ne (E_alloc H ty81 (zs := [.slice none 0 0, .slice none 0 0, .slice none 0 0]) rfl) rfl rfl ?_
 rintro _ wd6370 ⟨b6369, rfl, H⟩
 refine nq (Q_assign rfl) rfl rfl <| WL_nil <| x_then <| C_seq <| C_seq <| R_nd <| nq (v := .pointer (some ⟨b6365, 2, none⟩)) (Q_fld Tryz.underlying81 rfl ty23 (by decide) rfl rfl) rfl rfl <| nq (v := v7) (Q_ldB (k := 2) (cs := [v7]) H.ok rfl ty23 rfl rfl rfl (fun _ => rfl) rfl) rfl rfl <| nq (Q_len Tryz.underlying23 rfl r9) rfl rfl <| nq (v := .pointer (some ⟨b6367, 2, none⟩)) (Q_fld Tryz.underlying81 rfl ty23 (by decide) rfl rfl) rfl rfl <| nq (v := v16) (Q_ldB (k := 1) (cs := [v16]) H.ok rfl ty23 rfl rfl rfl (fun _ => rfl) rfl) rfl rfl <| nq (Q_len Tryz.underlying23 rfl r18) rfl rfl <| nq (Q_neq rfl rfl) rfl rfl <| WL_nil ?_
 refine x_then ?_
 refine C_cond rfl (fun hb => ?_) (fun hb => ?_)
 ·replace hF := itT hb hF
  refine C_seq <| R_nd <| nq (v := .agg #[.slice none 0 0, .slice none 0 0, .slice none 0 0]) (Q_buildS st81.choose_spec (ps := []) rfl trivial rfl) rfl rfl <| ne (E_stB (k := 0) (cs := [.slice none 0 0, .slice none 0 0, .slice none 0 0]) (vs' := [.slice none 0 0, .slice none 0 0, .slice none 0 0]) H rfl ty81 rfl rfl rfl rfl (one_cons rfl (one_cons rfl (one_cons rfl one_nil))) (by simp) rfl) rfl rfl ?_
  rintro _ wd6371 H
  dsimp only [List.set] at H
  refine nq (Q_assign rfl) rfl rfl <| WL_nil <| x_then <| C_ret <| x_then_ret ?_
  have H := H.nilArr 256
  have H := H.nilArr 1
  have H := H.nilArr 1
  have hRV : RV Tryz.prog wd6371 [(4, .pointer (some ⟨b6369, 0, none⟩)), (5, .int .i64 4)] [.cell 4 81, .tmp 5] [.agg #[(.slice none 0 0), (.slice none 0 0), (.slice none 0 0)], .int .i64 4] := ⟨⟨_, rfl, run_ldv ty81 rfl (fun h => nomatch h) (box_at (H.ok.get (k := 3) rfl) 0 3)⟩, rfl, trivial⟩
  replace H := H.e5.e4.e3.f1.f2
  obtain rfl := Option.some.inj hF
  exact fn_retV (rs := [.cell 4 81, .tmp 5]) (vs := [.agg #[(.slice none 0 0), (.slice none 0 0), (.slice none 0 0)], .int .i64 4]) rfl hRV ⟨(.slice none 0 0), [], (.slice none 0 0), [], (.slice none 0 0), [], [], [], [], 4, rfl, rfl, rdL.nil, rdL.nil, rdL.nil, H⟩
 ·replace hF := itF hb hF
  refine C_skip <| x_then <| C_seq <| R_nd <| nq (v := .agg #[.slice none 0 0, .slice none 0 0, .slice none 0 0]) (Q_buildS st81.choose_spec (ps := []) rfl trivial rfl) rfl rfl <| ne (E_alloc H ty81 (zs := [.slice none 0 0, .slice none 0 0, .slice none 0 0]) rfl) rfl rfl ?_
  rintro _ wd6373 ⟨b6372, rfl, H⟩
  refine ne (E_stB (k := 0) (cs := [.slice none 0 0, .slice none 0 0, .slice none 0 0]) (vs' := [.slice none 0 0, .slice none 0 0, .slice none 0 0]) H rfl ty81 rfl rfl rfl rfl (one_cons rfl (one_cons rfl (one_cons rfl one_nil))) (by simp) rfl) rfl rfl ?_
  rintro _ wd6374 H
  dsimp only [List.set] at H
  refine WL_nil <| x_then <| C_seq <| R_nd <| nq (v := .agg #[.int .i64 0, .int .i64 0]) (Q_buildAF (zs := [.int .i64 0, .int .i64 0]) (res := [.int .i64 0, .int .i64 0]) (parts := [(0, .const (.int .i64 0)), (1, .const (.int .i64 0))]) (ps := [(0, [.int .i64 0]), (1, [.int .i64 0])]) ty191 rfl Tryz.underlying191 ty3 rfl ⟨rfl, rfl, by simp, ⟨rfl, rfl, by simp, trivial⟩⟩ rfl) rfl rfl <| ne (E_bslice (xs := [.tmp 26]) (vs := [.agg #[.int .i64 0, .int .i64 0]]) H Tryz.underlying192 ty191 (by decide) (cs := [.int .i64 0, .int .i64 0]) rfl (sz_cons rfl sz_nil) rfl (by simp) (by simp) rfl rfl) rfl rfl ?_
  rintro _ wd6376 ⟨b6375, rfl, H⟩
  refine nq (Q_assign rfl) rfl rfl <| WL_nil <| x_then <| C_seq <| C_seq <| R_nd <| nq (v := .pointer (some ⟨b6365, 2, none⟩)) (Q_fld Tryz.underlying81 rfl ty23 (by decide) rfl rfl) rfl rfl <| nq (v := v7) (Q_ldB (k := 4) (cs := [v7]) H.ok rfl ty23 rfl rfl rfl (fun _ => rfl) rfl) rfl rfl <| nq (Q_len Tryz.underlying23 rfl r9) rfl rfl <| nq (Q_move rfl) rfl rfl <| WL_nil <| x_then ?_
  obtain ⟨o6509, ho6509, hF⟩ := bnd hF
  refine C_cutQ (fun a w' => ∃ (v6501 : Value) (c6502 : (List Value)) (v6505 : Value) (c6506 : (List Value)) (x6503 : (List Int)) (x6507 : (List (Int × Int))), (x6503, x6507) = o6509 ∧ rdL (eI .i64) ρ x6503 c6502 ∧ rdL (eP (eI .i64) (eI .i64)) ρ x6507 c6506 ∧ Fr 135 a [(2, .pointer (some ⟨b6365, 0, none⟩)), (3, .pointer (some ⟨b6367, 0, none⟩)), (4, .pointer (some ⟨b6369, 0, none⟩)), (6, .pointer (some ⟨b6372, 0, none⟩)), (7, v6505)] ∧ Hp C w' ρ (Box b6365 [v1, v4, v7] :: Box b6367 [v10, v13, v16] :: Box b6369 [.slice none 0 0, .slice none 0 0, .slice none 0 0] :: Box b6372 [.slice none 0 0, .slice none 0 0, v6501] :: Arr v6501 1 c6502 :: Arr v6505 2 c6506 :: hs)) ?_ ?_
  ·refine C_block ?_
   have H := H.nilArr 1
   replace H := H.f2.f3.f4.f5
   refine C_iter (f := fun s => F_dofferref21_Both_l0 N x8 x17 s.1 s.2.1 s.2.2) ho6509 (fun s a w' => ∃ (v6551 : Value) (c6552 : (List Value)) (v6555 : Value) (c6556 : (List Value)) (x6550 : Int) (x6553 : (List Int)) (x6557 : (List (Int × Int))), (x6550, x6553, x6557) = s ∧ rdL (eI .i64) ρ x6553 c6552 ∧ rdL (eP (eI .i64) (eI .i64)) ρ x6557 c6556 ∧ Fr 135 a [(2, .pointer (some ⟨b6365, 0, none⟩)), (3, .pointer (some ⟨b6367, 0, none⟩)), (4, .pointer (some ⟨b6369, 0, none⟩)), (6, .pointer (some ⟨b6372, 0, none⟩)), (7, v6555), (30, .int .i64 (x8.length : Int)), (31, .int .i64 x6550)] ∧ Hp C w' ρ (Box b6365 [v1, v4, v7] :: Box b6367 [v10, v13, v16] :: Box b6369 [.slice none 0 0, .slice none 0 0, .slice none 0 0] :: Box b6372 [.slice none 0 0, .slice none 0 0, v6551] :: Arr v6551 1 c6552 :: Arr v6555 2 c6556 :: hs)) ?_ ?_
   ·exact fun a hf => ⟨(.slice none 0 0), [], (.slice (some ⟨b6375, 0, none⟩) 1 1), [.int .i64 0, .int .i64 0], 0, [], [((0 : Int), (0 : Int))], rfl, rdL.nil, (show rdL (eP (eI .i64) (eI .i64)) ρ ([((0 : Int), (0 : Int))]) ([.int .i64 0, .int .i64 0]) from ⟨([.int .i64 0, .int .i64 0]), _, rfl, ⟨[.int .i64 0], _, rfl, rfl, rfl⟩, rdL.nil⟩), hf.sub ⟨rfl, rfl, rfl, rfl, rfl, rfl, rfl, trivial⟩, H⟩
   ·rintro s o6599 a wd6602 ⟨v6551, c6552, v6555, c6556, x6550, x6553, x6557, rfl, r6554, r6558, hf, H⟩ hB6600 hO6601
    replace hB6600 : F_dofferref21_Both_l0 N x8 x17 x6550 x6553 x6557 = some o6599 := hB6600
    unfold F_dofferref21_Both_l0 at hB6600
    refine CW.at hf <| C_seq <| R_nd <| nq (Q_lss rfl rfl) rfl rfl <| WL_nil <| x_then <| C_seq ?_
    refine C_cond rfl (fun hb => ?_) (fun hb => ?_)
    ·replace hB6600 := itT hb hB6600
     refine C_skip <| x_then <| C_seq <| C_block <| C_seq <| R_nd <| nq (Q_move rfl) rfl rfl <| nq (Q_assign rfl) rfl rfl <| WL_nil <| x_then <| C_seq <| H.dr (.take 0 (.take 1 (.take 2 (.take 3 (.take 4 (.take 5 (.take 6 (.take 7 (.take 8 (.take 9 (.take 10 (.bar 11 none (.take 12 (.take 13 (.take 14 (.take 15 (.take 16 .done))))))))))))))))) (some 11) hm0 (by kernel_rfl) ?_
     replace H := H.drew
     refine dq rfl (fun _ _ => Q_move rfl) rfl rfl <| dq (v := .pointer (some ⟨b6365, 2, none⟩)) rfl (fun _ _ => Q_fld Tryz.underlying81 rfl ty23 (by decide) rfl rfl) rfl rfl <| dq (v := v7) rfl (fun _ hw => Q_ldB (k := 0) (cs := [v7]) hw rfl ty23 rfl rfl rfl (fun _ => rfl) rfl) rfl rfl <| dq rfl (fun _ _ => Q_move rfl) rfl rfl ?_
     obtain ⟨x6603, hx6603, hB6600⟩ := bnd hB6600
     obtain ⟨b6604, o6605, c6606, hc6607, ha6608, hi6609⟩ := idxR r9 hx6603
     refine dq rfl (fun _ _ => Q_idx hi6609 Tryz.underlying23 ty3 rfl rfl) rfl rfl <| dq (v := .int .i64 x6603) rfl (fun _ hw => Q_ld (show cellsAt _ _ _ [.int .i64 x6603] from (show _ = [_] from hc6607) ▸ (ha6608.up hw.view)) ty3 rfl (fun _ => rfl) rfl rfl) rfl rfl <| dq (v := .pointer (some ⟨b6367, 2, none⟩)) rfl (fun _ _ => Q_fld Tryz.underlying81 rfl ty23 (by decide) rfl rfl) rfl rfl <| dq (v := v16) rfl (fun _ hw => Q_ldB (k := 1) (cs := [v16]) hw rfl ty23 rfl rfl rfl (fun _ => rfl) rfl) rfl rfl <| dq rfl (fun _ _ => Q_move rfl) rfl rfl ?_
     obtain ⟨x6610, hx6610, hB6600⟩ := bnd hB6600
     obtain ⟨b6611, o6612, c6613, hc6614, ha6615, hi6616⟩ := idxR r18 hx6610
     refine dq rfl (fun _ _ => Q_idx hi6616 Tryz.underlying23 ty3 rfl rfl) rfl rfl <| dq (v := .int .i64 x6610) rfl (fun _ hw => Q_ld (show cellsAt _ _ _ [.int .i64 x6610] from (show _ = [_] from hc6614) ▸ (ha6615.up hw.view)) ty3 rfl (fun _ => rfl) rfl rfl) rfl rfl ?_
     replace H := H.f5
     obtain ⟨q6617, hq6617, hB6600⟩ := bnd hB6600
     refine db rfl (E_call fn118 rfl (c_118_1 H gle  r6558 hq6617)) rfl rfl ?_
     rintro _ wd6624 ⟨v6619, c6620, x6621, x6622, rfl, rfl, r6623, H⟩
     try dsimp only at hB6600
     refine H.okF <| dq rfl (fun _ _ => Q_move rfl) rfl rfl <| dq rfl (fun _ _ => Q_extract rfl rfl) rfl rfl <| dq rfl (fun _ _ => Q_extract rfl rfl) rfl rfl <| dq rfl (fun _ _ => Q_assign rfl) rfl rfl <| dq rfl (fun _ _ => Q_assign rfl) rfl rfl <| DL_nil <| x_then <| C_seq <| R_nd <| nq (Q_move rfl) rfl rfl <| nq (Q_assign rfl) rfl rfl <| WL_nil <| x_then ?_
     refine R_nd <| nq (v := .pointer (some ⟨b6372, 2, none⟩)) (Q_fld Tryz.underlying81 rfl ty23 (by decide) rfl rfl) rfl rfl <| nq (v := v6551) (Q_ldB (k := 4) (cs := [v6551]) H.ok rfl ty23 rfl rfl rfl (fun _ => rfl) rfl) rfl rfl <| nq (Q_move rfl) rfl rfl <| ne (E_bslice (xs := [.tmp 52]) (vs := [.int .i64 x6622]) H Tryz.underlying23 ty3 (by decide) (cs := [.int .i64 x6622]) rfl (sz_cons rfl sz_nil) rfl (by simp) (by simp) rfl rfl) rfl rfl ?_
     rintro _ wd6626 ⟨b6625, rfl, H⟩
     obtain ⟨x6627, hx6627, hB6600⟩ := bnd hB6600
     obtain ⟨ha6628a, ha6628b⟩ := app_some hx6627
     have r6630 : rdL (eI .i64) ρ x6627 (c6552 ++ ([.int .i64 x6622])) := ha6628b ▸ rdL.app r6554 (show rdL (eI .i64) ρ ([x6622]) ([.int .i64 x6622]) from ⟨([.int .i64 x6622]), _, rfl, rfl, rdL.nil⟩)
     refine ne (E_append (k := 6) H rfl Tryz.underlying23 ty3 rfl (by decide) (by decide) rfl rfl (Src.ofArr (k := 0) H.ok rfl) (rdL.one (show rdL (eI .i64) ρ ([x6622]) ([.int .i64 x6622]) from ⟨([.int .i64 x6622]), _, rfl, rfl, rdL.nil⟩)) (app_fit r6554 (show rdL (eI .i64) ρ ([x6622]) ([.int .i64 x6622]) from ⟨([.int .i64 x6622]), _, rfl, rfl, rdL.nil⟩) ha6628a)) rfl rfl ?_
     rintro v6629 wd6632 ⟨H, hc6631⟩
     dsimp only [List.set] at H
     refine nq (v := .pointer (some ⟨b6372, 2, none⟩)) (Q_fld Tryz.underlying81 rfl ty23 (by decide) rfl rfl) rfl rfl <| ne (E_stB (k := 5) (cs := [v6629]) (vs' := [.slice none 0 0, .slice none 0 0, v6629]) H rfl ty23 rfl rfl (arr_cells (H.ok.get (k := 6) rfl)).1 rfl (one_cons (arr_cells (H.ok.get (k := 6) rfl)).2 one_nil) (by simp) rfl) rfl rfl ?_
     rintro _ wd6633 H
     dsimp only [List.set] at H
     refine WL_nil <| x_block <| x_then <| R_nd <| nq (Q_add rfl rfl) rfl rfl <| nq (Q_move rfl) rfl rfl <| WL_nil ?_
     replace H := H.e0.f5.f5.f5.f5.f5
     obtain rfl := Option.some.inj hB6600
     refine x_A fun a hf => ⟨_, rfl, v6629, (c6552 ++ ([.int .i64 x6622])), v6619, c6620, w64 (x6550 + 1), x6627, x6621, rfl, r6630, r6623, hf.sub ⟨rfl, rfl, rfl, rfl, rfl, rfl, rfl, trivial⟩, H⟩
    ·replace hB6600 := itF hb hB6600
     refine C_exit <| x_then_exit <| x_then_exit <| x_block_exit ?_
     obtain rfl := Option.some.inj hB6600
     obtain rfl := hO6601 _ rfl
     refine x_A fun a hf => ⟨v6551, c6552, v6555, c6556, x6553, x6557, rfl, r6554, r6558, hf.sub ⟨rfl, rfl, rfl, rfl, rfl, trivial⟩, H⟩
  ·rintro a wd6634 ⟨v6501, c6502, v6505, c6506, x6503, x6507, rfl, r6504, r6508, hf, H⟩
   try dsimp only at hF
   refine XX.at hf <| x_then <| C_seq <| C_seq <| R_nd <| nq (Q_assign rfl) rfl rfl <| WL_nil <| x_then ?_
   obtain ⟨o9668, ho9668, hF⟩ := bnd hF
   refine C_cutQ (fun a w' => ∃ (v9660 : Value) (c9661 : (List Value)) (v9664 : Value) (c9665 : (List Value)) (x9662 : (List (List Int))) (x9666 : (List Int)), .inl (x9662, x9666) = o9668 ∧ rdL (eA 256 (eI .i64)) ρ x9662 c9661 ∧ rdL (eI .i64) ρ x9666 c9665 ∧ Fr 135 a [(4, .pointer (some ⟨b6369, 0, none⟩)), (6, .pointer (some ⟨b6372, 0, none⟩))] ∧ Hp C w' ρ (Box b6369 [.slice none 0 0, .slice none 0 0, .slice none 0 0] :: Box b6372 [v9660, v9664, v6501] :: Arr v9660 256 c9661 :: Arr v9664 1 c9665 :: Arr v6501 1 c6502 :: hs)) ?_ ?_
   ·refine C_block ?_
    have H := H.nilArr 256
    have H := H.nilArr 1
    replace H := H.f1.f5.f5.f5.f5
    refine C_iter (f := fun s => F_dofferref21_Both_l1 N x2 x5 x11 x14 s.1 s.2.1 s.2.2.1 s.2.2.2) ho9668 (fun s a w' => ∃ (v10677 : Value) (c10678 : (List Value)) (v10681 : Value) (c10682 : (List Value)) (v10685 : Value) (c10686 : (List Value)) (x10676 : Int) (x10679 : (List (List Int))) (x10683 : (List Int)) (x10687 : (List (Int × Int))), (x10676, x10679, x10683, x10687) = s ∧ rdL (eA 256 (eI .i64)) ρ x10679 c10678 ∧ rdL (eI .i64) ρ x10683 c10682 ∧ rdL (eP (eI .i64) (eI .i64)) ρ x10687 c10686 ∧ Fr 135 a [(2, .pointer (some ⟨b6365, 0, none⟩)), (3, .pointer (some ⟨b6367, 0, none⟩)), (4, .pointer (some ⟨b6369, 0, none⟩)), (6, .pointer (some ⟨b6372, 0, none⟩)), (7, v10685), (11, .int .i64 x10676)] ∧ Hp C w' ρ (Box b6365 [v1, v4, v7] :: Box b6367 [v10, v13, v16] :: Box b6369 [.slice none 0 0, .slice none 0 0, .slice none 0 0] :: Box b6372 [v10677, v10681, v6501] :: Arr v10677 256 c10678 :: Arr v10681 1 c10682 :: Arr v6501 1 c6502 :: Arr v10685 2 c10686 :: hs)) ?_ ?_
    ·exact fun a hf => ⟨(.slice none 0 0), [], (.slice none 0 0), [], v6505, c6506, 0, [], [], x6507, rfl, rdL.nil, rdL.nil, r6508, hf.sub ⟨rfl, rfl, rfl, rfl, rfl, rfl, trivial⟩, H⟩
    ·rintro s o11696 a wd11699 ⟨v10677, c10678, v10681, c10682, v10685, c10686, x10676, x10679, x10683, x10687, rfl, r10680, r10684, r10688, hf, H⟩ hB11697 hO11698
     replace hB11697 : F_dofferref21_Both_l1 N x2 x5 x11 x14 x10676 x10679 x10683 x10687 = some o11696 := hB11697
     unfold F_dofferref21_Both_l1 at hB11697
     refine CW.at hf <| C_seq <| C_seq <| R_nd <| nq (Q_move rfl) rfl rfl <| nq (Q_move rfl) rfl rfl <| nq (Q_lenA (k := 7) H.ok rfl r10688 (by decide) Tryz.underlying192 rfl) rfl rfl <| nq (Q_lss rfl rfl) rfl rfl <| WL_nil <| x_then ?_
     refine C_cond rfl (fun hb => ?_) (fun hb => ?_)
     ·replace hB11697 := itT hb hB11697
      refine C_skip <| x_then ?_
      obtain ⟨o12202, ho12202, hB11697⟩ := bnd hB11697
      refine C_cut (fun a w' => ∃ (v12190 : Value) (c12191 : (List Value)) (v12194 : Value) (c12195 : (List Value)) (v12198 : Value) (c12199 : (List Value)) (x12192 : (List (List Int))) (x12196 : (List Int)) (x12200 : (List (Int × Int))), .inl (x12192, x12196, x12200) = o12202 ∧ rdL (eA 256 (eI .i64)) ρ x12192 c12191 ∧ rdL (eI .i64) ρ x12196 c12195 ∧ rdL (eP (eI .i64) (eI .i64)) ρ x12200 c12199 ∧ Fr 135 a [(2, .pointer (some ⟨b6365, 0, none⟩)), (3, .pointer (some ⟨b6367, 0, none⟩)), (4, .pointer (some ⟨b6369, 0, none⟩)), (6, .pointer (some ⟨b6372, 0, none⟩)), (7, v12198), (11, .int .i64 x10676)] ∧ Hp C w' ρ (Box b6365 [v1, v4, v7] :: Box b6367 [v10, v13, v16] :: Box b6369 [.slice none 0 0, .slice none 0 0, .slice none 0 0] :: Box b6372 [v12190, v12194, v6501] :: Arr v12190 256 c12191 :: Arr v12194 1 c12195 :: Arr v6501 1 c6502 :: Arr v12198 2 c12199 :: hs)) ?_ ?_
      ·refine C_block <| C_seq <| R_nd <| nq (v := .agg (repC 256 [.int .i64 0]).toArray) (Q_build0 (zs := (repC 256 [.int .i64 0])) ty87 Tryz.underlying87 ty3 rfl) rfl rfl <| ne (E_allocA (N := 256) (n := 1) (zs := (repC 256 [.int .i64 0])) H ty87 rfl (by simp [repC_length])) rfl rfl ?_
       rintro _ wd12204 ⟨b12203, rfl, H⟩
       refine ne (E_stW (k := 0) H rfl ty87 rfl rfl (rdL.one (rdL_rep (e:=(eI .i64)) (ρ:=ρ) (rfl) 256)) (arr_clen (rdL_rep (e:=(eI .i64)) (ρ:=ρ) (rfl) 256) List.length_replicate) (arr_clen (rdL_rep (e:=(eI .i64)) (ρ:=ρ) (rfl) 256) List.length_replicate)) rfl rfl ?_
       rintro _ wd12205 H
       dsimp only [List.set] at H
       refine WL_nil <| x_then <| C_seq <| C_seq <| R_nd <| nq (Q_assign rfl) rfl rfl <| WL_nil <| x_then ?_
       obtain ⟨o12425, ho12425, ho12202⟩ := bnd ho12202
       refine C_cutQ (fun a w' => ∃ (c12417 : (List Value)) (v12421 : Value) (c12422 : (List Value)) (x12418 : (List Int)) (x12423 : (List (Int × Int))), .inl (x12418, x12423) = o12425 ∧ rdL (eI .i64) ρ x12418 c12417 ∧ x12418.length = 256 ∧ rdL (eP (eI .i64) (eI .i64)) ρ x12423 c12422 ∧ Fr 135 a [(2, .pointer (some ⟨b6365, 0, none⟩)), (3, .pointer (some ⟨b6367, 0, none⟩)), (4, .pointer (some ⟨b6369, 0, none⟩)), (6, .pointer (some ⟨b6372, 0, none⟩)), (7, v12421), (11, .int .i64 x10676), (12, .pointer (some ⟨b12203, 0, none⟩))] ∧ Hp C w' ρ (Arr (.slice (some ⟨b12203, 0, none⟩) 256 256) 1 c12417 :: Box b6365 [v1, v4, v7] :: Box b6367 [v10, v13, v16] :: Box b6369 [.slice none 0 0, .slice none 0 0, .slice none 0 0] :: Box b6372 [v10677, v10681, v6501] :: Arr v10677 256 c10678 :: Arr v10681 1 c10682 :: Arr v6501 1 c6502 :: Arr v12421 2 c12422 :: hs)) ?_ ?_
       ·refine C_block ?_
        refine C_iter (f := fun s => F_dofferref21_Both_l2 N x2 x11 x10676 s.1 s.2.1 s.2.2) ho12425 (fun s a w' => ∃ (c12495 : (List Value)) (v12500 : Value) (c12501 : (List Value)) (x12496 : (List Int)) (x12499 : Int) (x12502 : (List (Int × Int))), (x12496, x12499, x12502) = s ∧ rdL (eI .i64) ρ x12496 c12495 ∧ x12496.length = 256 ∧ rdL (eP (eI .i64) (eI .i64)) ρ x12502 c12501 ∧ Fr 135 a [(2, .pointer (some ⟨b6365, 0, none⟩)), (3, .pointer (some ⟨b6367, 0, none⟩)), (4, .pointer (some ⟨b6369, 0, none⟩)), (6, .pointer (some ⟨b6372, 0, none⟩)), (7, v12500), (11, .int .i64 x10676), (12, .pointer (some ⟨b12203, 0, none⟩)), (13, .int .i64 x12499)] ∧ Hp C w' ρ (Arr (.slice (some ⟨b12203, 0, none⟩) 256 256) 1 c12495 :: Box b6365 [v1, v4, v7] :: Box b6367 [v10, v13, v16] :: Box b6369 [.slice none 0 0, .slice none 0 0, .slice none 0 0] :: Box b6372 [v10677, v10681, v6501] :: Arr v10677 256 c10678 :: Arr v10681 1 c10682 :: Arr v6501 1 c6502 :: Arr v12500 2 c12501 :: hs)) ?_ ?_
        ·exact fun a hf => ⟨(repC 256 [.int .i64 0]), v10685, c10686, (List.replicate 256 0), 0, x10687, rfl, (rdL_rep (e:=(eI .i64)) (ρ:=ρ) (rfl) 256), List.length_replicate, r10688, hf.sub ⟨rfl, rfl, rfl, rfl, rfl, rfl, rfl, rfl, trivial⟩, H⟩
        ·rintro s o12573 a wd12576 ⟨c12495, v12500, c12501, x12496, x12499, x12502, rfl, r12497, lp12498, r12503, hf, H⟩ hB12574 hO12575
         replace hB12574 : F_dofferref21_Both_l2 N x2 x11 x10676 x12496 x12499 x12502 = some o12573 := hB12574
         unfold F_dofferref21_Both_l2 at hB12574
         refine CW.at hf <| C_seq <| C_seq <| R_nd <| nq (Q_move rfl) rfl rfl <| nq (Q_lss rfl rfl) rfl rfl <| WL_nil <| x_then ?_
         refine C_cond rfl (fun hb => ?_) (fun hb => ?_)
         ·replace hB12574 := itT hb hB12574
          refine C_skip <| x_then <| C_seq <| C_block <| C_seq <| H.dr (.take 0 (.take 1 (.take 2 (.take 3 (.take 4 (.take 5 (.take 6 (.take 7 (.take 8 (.take 9 (.take 10 (.take 11 (.take 12 (.take 13 (.take 14 (.take 15 (.take 16 (.take 17 (.take 18 (.take 19 (.take 20 (.take 21 (.take 22 (.bar 23 none (.take 24 (.take 25 (.take 26 (.take 27 (.take 28 .done))))))))))))))))))))))))))))) (some 23) hm0 (by kernel_rfl) ?_
          replace H := H.drew
          refine dq rfl (fun _ _ => Q_move rfl) rfl rfl <| dq (v := .pointer (some ⟨b6365, 0, none⟩)) rfl (fun _ _ => Q_fld Tryz.underlying81 rfl ty79 (by decide) rfl rfl) rfl rfl <| dq (v := v1) rfl (fun _ hw => Q_ldB (k := 1) (cs := [v1]) hw rfl ty79 rfl rfl rfl (fun _ => rfl) rfl) rfl rfl <| dq rfl (fun _ _ => Q_move rfl) rfl rfl <| dq rfl (fun _ _ => Q_move rfl) rfl rfl ?_
          obtain ⟨x12577, hx12577, hB12574⟩ := bnd hB12574
          obtain ⟨b12578, o12579, hi12583, hc12581, ha12582⟩ := arr_at (hs := [Arr v12500 2 c12501]) (k := 0) (by decide) (H.okS (by simp)) rfl r12503 hx12577
          refine dq rfl (fun _ _ => Q_idx hi12583 Tryz.underlying192 ty191 rfl rfl) rfl rfl <| dq (v := .pointer (some ⟨b12578, o12579 + 0, none⟩)) rfl (fun _ _ => Q_idxA (m := 0) (N := 2) (by decide) (by decide) Tryz.underlying191 ty3 rfl rfl) rfl rfl ?_
          obtain ⟨c12584, hc12585, ha12586⟩ := fstO hc12581 ha12582
          refine dq (v := .int .i64 x12577.1) rfl (fun _ hw => Q_ld (show cellsAt _ _ _ [.int .i64 x12577.1] from (show _ = [_] from hc12585) ▸ (ha12586 _ (Ok.subS (by simp) hw))) ty3 rfl (fun _ => rfl) rfl rfl) rfl rfl <| dq rfl (fun _ _ => Q_move rfl) rfl rfl ?_
          obtain ⟨x12587, hx12587, hB12574⟩ := bnd hB12574
          obtain ⟨b12588, o12589, c12590, hc12591, ha12592, hi12593⟩ := idxR r3 hx12587
          refine dq rfl (fun _ _ => Q_idx hi12593 Tryz.underlying79 ty87 rfl rfl) rfl rfl ?_
          obtain ⟨x12594, hx12594, hB12574⟩ := bnd hB12574
          have hn12595 := idx_lt hc12591.1 hx12594
          refine dq rfl (fun _ _ => Q_idxA hn12595.1 hn12595.2 Tryz.underlying87 ty3 rfl rfl) rfl rfl ?_
          obtain ⟨c12596, hc12597, ha12598, _⟩ := arrR hc12591 ha12592 hx12594
          refine dq (v := .int .i64 x12594) rfl (fun _ hw => Q_ld (show cellsAt _ _ _ [.int .i64 x12594] from (show _ = [_] from hc12597) ▸ (ha12598.up hw.view)) ty3 rfl (fun _ => rfl) rfl rfl) rfl rfl <| dq (v := .pointer (some ⟨b6367, 0, none⟩)) rfl (fun _ _ => Q_fld Tryz.underlying81 rfl ty79 (by decide) rfl rfl) rfl rfl <| dq (v := v10) rfl (fun _ hw => Q_ldB (k := 2) (cs := [v10]) hw rfl ty79 rfl rfl rfl (fun _ => rfl) rfl) rfl rfl <| dq rfl (fun _ _ => Q_move rfl) rfl rfl <| dq rfl (fun _ _ => Q_move rfl) rfl rfl ?_
          obtain ⟨x12599, hx12599, hB12574⟩ := bnd hB12574
          obtain ⟨b12600, o12601, hi12605, hc12603, ha12604⟩ := arr_at (hs := [Arr v12500 2 c12501]) (k := 0) (by decide) (H.okS (by simp)) rfl r12503 hx12599
          refine dq rfl (fun _ _ => Q_idx hi12605 Tryz.underlying192 ty191 rfl rfl) rfl rfl <| dq (v := .pointer (some ⟨b12600, o12601 + 1, none⟩)) rfl (fun _ _ => Q_idxA (m := 1) (N := 2) (by decide) (by decide) Tryz.underlying191 ty3 rfl rfl) rfl rfl ?_
          obtain ⟨c12606, hc12607, ha12608⟩ := sndO hc12603 ha12604
          refine dq (v := .int .i64 x12599.2) rfl (fun _ hw => Q_ld (show cellsAt _ _ _ [.int .i64 x12599.2] from (show _ = [_] from hc12607) ▸ (ha12608 _ (Ok.subS (by simp) hw))) ty3 rfl (fun _ => rfl) rfl rfl) rfl rfl <| dq rfl (fun _ _ => Q_move rfl) rfl rfl ?_
          obtain ⟨x12609, hx12609, hB12574⟩ := bnd hB12574
          obtain ⟨b12610, o12611, c12612, hc12613, ha12614, hi12615⟩ := idxR r12 hx12609
          refine dq rfl (fun _ _ => Q_idx hi12615 Tryz.underlying79 ty87 rfl rfl) rfl rfl ?_
          obtain ⟨x12616, hx12616, hB12574⟩ := bnd hB12574
          have hn12617 := idx_lt hc12613.1 hx12616
          refine dq rfl (fun _ _ => Q_idxA hn12617.1 hn12617.2 Tryz.underlying87 ty3 rfl rfl) rfl rfl ?_
          obtain ⟨c12618, hc12619, ha12620, _⟩ := arrR hc12613 ha12614 hx12616
          refine dq (v := .int .i64 x12616) rfl (fun _ hw => Q_ld (show cellsAt _ _ _ [.int .i64 x12616] from (show _ = [_] from hc12619) ▸ (ha12620.up hw.view)) ty3 rfl (fun _ => rfl) rfl rfl) rfl rfl ?_
          replace H := H.f8
          obtain ⟨q12621, hq12621, hB12574⟩ := bnd hB12574
          refine db rfl (E_call fn118 rfl (c_118_1 H gle  r12503 hq12621)) rfl rfl ?_
          rintro _ wd12628 ⟨v12623, c12624, x12625, x12626, rfl, rfl, r12627, H⟩
          try dsimp only at hB12574
          refine H.okF <| dq rfl (fun _ _ => Q_move rfl) rfl rfl <| dq rfl (fun _ _ => Q_extract rfl rfl) rfl rfl <| dq rfl (fun _ _ => Q_extract rfl rfl) rfl rfl <| dq rfl (fun _ _ => Q_assign rfl) rfl rfl <| dq rfl (fun _ _ => Q_assign rfl) rfl rfl <| DL_nil <| x_then <| C_seq <| R_nd <| nq (Q_move rfl) rfl rfl <| nq (Q_assign rfl) rfl rfl <| WL_nil <| x_then ?_
          refine C_seq <| R_nd <| nq (Q_move rfl) rfl rfl <| nq (Q_move rfl) rfl rfl ?_
          obtain ⟨x12629, hx12629, hB12574⟩ := bnd hB12574
          have hn12631 := idx_lt (N := 256) (lp12498) hx12629
          have hi12630 : IdxOk (.slice (some ⟨b12203, 0, none⟩) 256 256) x12499 1 b12203 (0 + x12499.toNat * 1) := ⟨0, 256, 256, rfl, hn12631.1, hn12631.2, rfl⟩
          refine nq (Q_idxA hn12631.1 hn12631.2 Tryz.underlying87 ty3 rfl rfl) rfl rfl ?_
          obtain ⟨x12632, hx12632, hB12574⟩ := bnd hB12574
          obtain ⟨hs12633a, hs12633b, hs12633c⟩ := setI_some hx12632
          have r12634 : rdL (eI .i64) ρ x12632 (setC c12495 (x12499.toNat * 1 + 0) [.int .i64 x12626]) := hs12633c ▸ rdL.set r12497 hs12633b (rfl)
          refine ne (E_stA (k := 1) (j := 0) (c := [.int .i64 x12626]) H rfl ty3 hi12630 rfl rfl rfl rfl (one_cons rfl one_nil) (by decide)) rfl rfl ?_
          rintro _ wd12635 H
          dsimp only [List.set] at H
          refine WL_nil <| x_then <| C_seq <| R_nd <| nq (Q_move rfl) rfl rfl <| nq (Q_lenA (k := 0) H.ok rfl r12627 (by decide) Tryz.underlying192 rfl) rfl rfl <| nq (Q_gtr rfl rfl) rfl rfl <| WL_nil <| x_then ?_
          refine C_cond rfl (fun hb => ?_) (fun hb => ?_)
          ·replace hB12574 := itT hb hB12574
           refine C_seq <| R_nd <| nq (v := .agg #[.slice none 0 0, .slice none 0 0, .slice none 0 0]) (Q_buildS st81.choose_spec (ps := []) rfl trivial rfl) rfl rfl <| ne (E_stB (k := 4) (cs := [.slice none 0 0, .slice none 0 0, .slice none 0 0]) (vs' := [.slice none 0 0, .slice none 0 0, .slice none 0 0]) H rfl ty81 rfl rfl rfl rfl (one_cons rfl (one_cons rfl (one_cons rfl one_nil))) (by simp) rfl) rfl rfl ?_
           rintro _ wd12636 H
           dsimp only [List.set] at H
           refine nq (Q_assign rfl) rfl rfl <| WL_nil <| x_then <| C_ret <| x_block_ret <| x_then_ret <| x_then_ret <| x_block_ret <| x_then_ret <| x_then_ret <| x_block_ret <| x_then_ret <| x_then_ret <| x_block_ret ?_
           refine x_then_ret <| x_then_ret ?_
           have H := H.nilArr 256
           have H := H.nilArr 1
           have H := H.nilArr 1
           have hRV : RV Tryz.prog wd12636 [(4, .pointer (some ⟨b6369, 0, none⟩)), (5, .int .i64 9)] [.cell 4 81, .tmp 5] [.agg #[(.slice none 0 0), (.slice none 0 0), (.slice none 0 0)], .int .i64 9] := ⟨⟨_, rfl, run_ldv ty81 rfl (fun h => nomatch h) (box_at (H.ok.get (k := 7) rfl) 0 3)⟩, rfl, trivial⟩
           replace H := H.e11.e10.e9.e8.e7.e6.e5.e4.e3.f1.f2
           obtain rfl := Option.some.inj hB12574
           obtain rfl := hO12575 _ rfl
           obtain rfl := Option.some.inj (show some _ = some _ from ho12202)
           obtain rfl := Option.some.inj (show some _ = some _ from hB11697)
           obtain rfl := hO11698 _ rfl
           obtain rfl := Option.some.inj (show some _ = some _ from hF)
           exact fn_retV (rs := [.cell 4 81, .tmp 5]) (vs := [.agg #[(.slice none 0 0), (.slice none 0 0), (.slice none 0 0)], .int .i64 9]) rfl hRV ⟨(.slice none 0 0), [], (.slice none 0 0), [], (.slice none 0 0), [], [], [], [], 9, rfl, rfl, rdL.nil, rdL.nil, rdL.nil, H⟩
          ·replace hB12574 := itF hb hB12574
           refine C_skip <| x_block <| x_then <| R_nd <| nq (Q_move rfl) rfl rfl <| nq (Q_add rfl rfl) rfl rfl <| nq (Q_assign rfl) rfl rfl <| WL_nil ?_
           replace H := H.f8.f8.f8.f8.f8.f8.f8.f8
           obtain rfl := Option.some.inj hB12574
           refine x_A fun a hf => ⟨_, rfl, (setC c12495 (x12499.toNat * 1 + 0) [.int .i64 x12626]), v12623, c12624, x12632, w64 (x12499 + 1), x12625, rfl, r12634, (setI_len hx12632 lp12498), r12627, hf.sub ⟨rfl, rfl, rfl, rfl, rfl, rfl, rfl, rfl, trivial⟩, H⟩
         ·replace hB12574 := itF hb hB12574
          refine C_exit <| x_then_exit <| x_then_exit <| x_block_exit ?_
          obtain rfl := Option.some.inj hB12574
          obtain rfl := hO12575 _ rfl
          refine x_A fun a hf => ⟨c12495, v12500, c12501, x12496, x12502, rfl, r12497, lp12498, r12503, hf.sub ⟨rfl, rfl, rfl, rfl, rfl, rfl, rfl, trivial⟩, H⟩
       ·rintro a wd12637 ⟨c12417, v12421, c12422, x12418, x12423, rfl, r12419, lp12420, r12424, hf, H⟩
        try dsimp only at ho12202
        refine XX.at hf <| x_then <| C_seq <| R_nd <| nq (v := .pointer (some ⟨b6372, 0, none⟩)) (Q_fld Tryz.underlying81 rfl ty79 (by decide) rfl rfl) rfl rfl <| nq (v := v10677) (Q_ldB (k := 4) (cs := [v10677]) H.ok rfl ty79 rfl rfl rfl (fun _ => rfl) rfl) rfl rfl <| nq (Q_ldW (k := 0) H.ok rfl ty87 rfl (arr_clen r12419 lp12420)) rfl rfl <| ne (E_bslice (xs := [.tmp 105]) (vs := [.agg c12417.toArray]) H Tryz.underlying79 ty87 (by decide) (cs := c12417) rfl (sz_cons (arr_clen r12419 lp12420) sz_nil) (by simp [Value.cells]) (by simp) (by simp) rfl rfl) rfl rfl ?_
        rintro _ wd12639 ⟨b12638, rfl, H⟩
        obtain ⟨x12640, hx12640, ho12202⟩ := bnd ho12202
        obtain ⟨ha12641a, ha12641b⟩ := app_some hx12640
        have r12643 : rdL (eA 256 (eI .i64)) ρ x12640 (c10678 ++ c12417) := ha12641b ▸ rdL.app r10680 (show rdL (eA 256 (eI .i64)) ρ ([x12418]) c12417 from rdL.single ⟨lp12420, r12419⟩)
        refine ne (E_append (k := 6) H rfl Tryz.underlying79 ty87 rfl (by decide) (by decide) rfl rfl (Src.ofArr (k := 0) H.ok rfl) (rdL.one (show rdL (eA 256 (eI .i64)) ρ ([x12418]) c12417 from rdL.single ⟨lp12420, r12419⟩)) (app_fit r10680 (show rdL (eA 256 (eI .i64)) ρ ([x12418]) c12417 from rdL.single ⟨lp12420, r12419⟩) ha12641a)) rfl rfl ?_
        rintro v12642 wd12645 ⟨H, hc12644⟩
        dsimp only [List.set] at H
        refine nq (v := .pointer (some ⟨b6372, 0, none⟩)) (Q_fld Tryz.underlying81 rfl ty79 (by decide) rfl rfl) rfl rfl <| ne (E_stB (k := 5) (cs := [v12642]) (vs' := [v12642, v10681, v6501]) H rfl ty79 rfl rfl (arr_cells (H.ok.get (k := 6) rfl)).1 rfl (one_cons (arr_cells (H.ok.get (k := 6) rfl)).2 one_nil) (by simp) rfl) rfl rfl ?_
        rintro _ wd12646 H
        dsimp only [List.set] at H
        refine WL_nil <| x_then <| C_seq <| H.dr (.take 0 (.take 1 (.take 2 (.take 3 (.take 4 (.take 5 (.take 6 (.take 7 (.take 8 (.take 9 .done)))))))))) none hm0 (by kernel_rfl) ?_
        replace H := H.drew
        refine dq (v := .pointer (some ⟨b6365, 1, none⟩)) rfl (fun _ _ => Q_fld Tryz.underlying81 rfl ty23 (by decide) rfl rfl) rfl rfl <| dq (v := v4) rfl (fun _ hw => Q_ldB (k := 2) (cs := [v4]) hw rfl ty23 rfl rfl rfl (fun _ => rfl) rfl) rfl rfl <| dq rfl (fun _ _ => Q_move rfl) rfl rfl <| dq rfl (fun _ _ => Q_move rfl) rfl rfl ?_
        obtain ⟨x12647, hx12647, ho12202⟩ := bnd ho12202
        obtain ⟨b12648, o12649, hi12653, hc12651, ha12652⟩ := arr_at (hs := [Arr v12421 2 c12422]) (k := 0) (by decide) (H.okS (by simp)) rfl r12424 hx12647
        refine dq rfl (fun _ _ => Q_idx hi12653 Tryz.underlying192 ty191 rfl rfl) rfl rfl <| dq (v := .pointer (some ⟨b12648, o12649 + 0, none⟩)) rfl (fun _ _ => Q_idxA (m := 0) (N := 2) (by decide) (by decide) Tryz.underlying191 ty3 rfl rfl) rfl rfl ?_
        obtain ⟨c12654, hc12655, ha12656⟩ := fstO hc12651 ha12652
        refine dq (v := .int .i64 x12647.1) rfl (fun _ hw => Q_ld (show cellsAt _ _ _ [.int .i64 x12647.1] from (show _ = [_] from hc12655) ▸ (ha12656 _ (Ok.subS (by simp) hw))) ty3 rfl (fun _ => rfl) rfl rfl) rfl rfl ?_
        obtain ⟨x12657, hx12657, ho12202⟩ := bnd ho12202
        obtain ⟨b12658, o12659, c12660, hc12661, ha12662, hi12663⟩ := idxR r6 hx12657
        refine dq rfl (fun _ _ => Q_idx hi12663 Tryz.underlying23 ty3 rfl rfl) rfl rfl <| dq (v := .int .i64 x12657) rfl (fun _ hw => Q_ld (show cellsAt _ _ _ [.int .i64 x12657] from (show _ = [_] from hc12661) ▸ (ha12662.up hw.view)) ty3 rfl (fun _ => rfl) rfl rfl) rfl rfl <| dq rfl (fun _ _ => Q_assign rfl) rfl rfl <| DL_nil <| x_then <| C_seq <| C_seq <| H.dr (.take 0 (.take 1 (.take 2 (.take 3 (.take 4 (.take 5 (.take 6 (.take 7 (.take 8 (.take 9 .done)))))))))) none hm0 (by kernel_rfl) ?_
        replace H := H.drew
        refine dq (v := .pointer (some ⟨b6367, 1, none⟩)) rfl (fun _ _ => Q_fld Tryz.underlying81 rfl ty23 (by decide) rfl rfl) rfl rfl <| dq (v := v13) rfl (fun _ hw => Q_ldB (k := 3) (cs := [v13]) hw rfl ty23 rfl rfl rfl (fun _ => rfl) rfl) rfl rfl <| dq rfl (fun _ _ => Q_move rfl) rfl rfl <| dq rfl (fun _ _ => Q_move rfl) rfl rfl ?_
        obtain ⟨x12664, hx12664, ho12202⟩ := bnd ho12202
        obtain ⟨b12665, o12666, hi12670, hc12668, ha12669⟩ := arr_at (hs := [Arr v12421 2 c12422]) (k := 0) (by decide) (H.okS (by simp)) rfl r12424 hx12664
        refine dq rfl (fun _ _ => Q_idx hi12670 Tryz.underlying192 ty191 rfl rfl) rfl rfl <| dq (v := .pointer (some ⟨b12665, o12666 + 1, none⟩)) rfl (fun _ _ => Q_idxA (m := 1) (N := 2) (by decide) (by decide) Tryz.underlying191 ty3 rfl rfl) rfl rfl ?_
        obtain ⟨c12671, hc12672, ha12673⟩ := sndO hc12668 ha12669
        refine dq (v := .int .i64 x12664.2) rfl (fun _ hw => Q_ld (show cellsAt _ _ _ [.int .i64 x12664.2] from (show _ = [_] from hc12672) ▸ (ha12673 _ (Ok.subS (by simp) hw))) ty3 rfl (fun _ => rfl) rfl rfl) rfl rfl ?_
        obtain ⟨x12674, hx12674, ho12202⟩ := bnd ho12202
        obtain ⟨b12675, o12676, c12677, hc12678, ha12679, hi12680⟩ := idxR r15 hx12674
        refine dq rfl (fun _ _ => Q_idx hi12680 Tryz.underlying23 ty3 rfl rfl) rfl rfl <| dq (v := .int .i64 x12674) rfl (fun _ hw => Q_ld (show cellsAt _ _ _ [.int .i64 x12674] from (show _ = [_] from hc12678) ▸ (ha12679.up hw.view)) ty3 rfl (fun _ => rfl) rfl rfl) rfl rfl <| dq rfl (fun _ _ => Q_lss rfl rfl) rfl rfl <| DL_nil <| x_then ?_
        obtain ⟨o12682, ho12682, ho12202⟩ := bnd ho12202
        refine C_cutQ (fun a w' => ∃ (x12681 : Int), x12681 = o12682 ∧ Fr 135 a [(2, .pointer (some ⟨b6365, 0, none⟩)), (3, .pointer (some ⟨b6367, 0, none⟩)), (4, .pointer (some ⟨b6369, 0, none⟩)), (6, .pointer (some ⟨b6372, 0, none⟩)), (7, v12421), (11, .int .i64 x10676), (16, .int .i64 x12681)] ∧ Hp C w' ρ (Box b6365 [v1, v4, v7] :: Box b6367 [v10, v13, v16] :: Box b6369 [.slice none 0 0, .slice none 0 0, .slice none 0 0] :: Box b6372 [v12642, v10681, v6501] :: Arr v12642 256 (c10678 ++ c12417) :: Arr v10681 1 c10682 :: Arr v6501 1 c6502 :: Arr v12421 2 c12422 :: hs)) ?_ ?_
        ·refine C_cond rfl (fun hb => ?_) (fun hb => ?_)
         ·replace ho12682 := itT hb ho12682
          refine R_nd <| nq (Q_assign rfl) rfl rfl <| WL_nil ?_
          replace H := H.e1.e0
          obtain rfl := Option.some.inj ho12682
          refine x_A fun a hf => ⟨(-1), rfl, hf.sub ⟨rfl, rfl, rfl, rfl, rfl, rfl, rfl, trivial⟩, H⟩
         ·replace ho12682 := itF hb ho12682
          refine C_skip ?_
          replace H := H.e1.e0
          obtain rfl := Option.some.inj ho12682
          refine x_A fun a hf => ⟨x12657, rfl, hf.sub ⟨rfl, rfl, rfl, rfl, rfl, rfl, rfl, trivial⟩, H⟩
        ·rintro a wd12683 ⟨x12681, rfl, hf, H⟩
         try dsimp only at ho12202
         refine XX.at hf <| x_then <| R_nd <| nq (v := .pointer (some ⟨b6372, 1, none⟩)) (Q_fld Tryz.underlying81 rfl ty23 (by decide) rfl rfl) rfl rfl <| nq (v := v10681) (Q_ldB (k := 3) (cs := [v10681]) H.ok rfl ty23 rfl rfl rfl (fun _ => rfl) rfl) rfl rfl <| nq (Q_move rfl) rfl rfl <| ne (E_bslice (xs := [.tmp 130]) (vs := [.int .i64 x12681]) H Tryz.underlying23 ty3 (by decide) (cs := [.int .i64 x12681]) rfl (sz_cons rfl sz_nil) rfl (by simp) (by simp) rfl rfl) rfl rfl ?_
         rintro _ wd12685 ⟨b12684, rfl, H⟩
         obtain ⟨x12686, hx12686, ho12202⟩ := bnd ho12202
         obtain ⟨ha12687a, ha12687b⟩ := app_some hx12686
         have r12689 : rdL (eI .i64) ρ x12686 (c10682 ++ ([.int .i64 x12681])) := ha12687b ▸ rdL.app r10684 (show rdL (eI .i64) ρ ([x12681]) ([.int .i64 x12681]) from ⟨([.int .i64 x12681]), _, rfl, rfl, rdL.nil⟩)
         refine ne (E_append (k := 6) H rfl Tryz.underlying23 ty3 rfl (by decide) (by decide) rfl rfl (Src.ofArr (k := 0) H.ok rfl) (rdL.one (show rdL (eI .i64) ρ ([x12681]) ([.int .i64 x12681]) from ⟨([.int .i64 x12681]), _, rfl, rfl, rdL.nil⟩)) (app_fit r10684 (show rdL (eI .i64) ρ ([x12681]) ([.int .i64 x12681]) from ⟨([.int .i64 x12681]), _, rfl, rfl, rdL.nil⟩) ha12687a)) rfl rfl ?_
         rintro v12688 wd12691 ⟨H, hc12690⟩
         dsimp only [List.set] at H
         refine nq (v := .pointer (some ⟨b6372, 1, none⟩)) (Q_fld Tryz.underlying81 rfl ty23 (by decide) rfl rfl) rfl rfl <| ne (E_stB (k := 4) (cs := [v12688]) (vs' := [v12642, v12688, v6501]) H rfl ty23 rfl rfl (arr_cells (H.ok.get (k := 6) rfl)).1 rfl (one_cons (arr_cells (H.ok.get (k := 6) rfl)).2 one_nil) (by simp) rfl) rfl rfl ?_
         rintro _ wd12692 H
         dsimp only [List.set] at H
         refine WL_nil <| x_block ?_
         replace H := H.e0
         obtain rfl := Option.some.inj ho12202
         refine x_A fun a hf => ⟨v12642, (c10678 ++ c12417), v12688, (c10682 ++ ([.int .i64 x12681])), v12421, c12422, x12640, x12686, x12423, rfl, r12643, r12689, r12424, hf.sub ⟨rfl, rfl, rfl, rfl, rfl, rfl, trivial⟩, H⟩
      ·rintro a wd12693 ⟨v12190, c12191, v12194, c12195, v12198, c12199, x12192, x12196, x12200, rfl, r12193, r12197, r12201, hf, H⟩
       try dsimp only at hB11697
       refine CW.at hf <| R_nd <| nq (Q_move rfl) rfl rfl <| nq (Q_add rfl rfl) rfl rfl <| nq (Q_assign rfl) rfl rfl <| WL_nil ?_
       obtain rfl := Option.some.inj hB11697
       refine x_A fun a hf => ⟨_, rfl, v12190, c12191, v12194, c12195, v12198, c12199, w64 (x10676 + 1), x12192, x12196, x12200, rfl, r12193, r12197, r12201, hf.sub ⟨rfl, rfl, rfl, rfl, rfl, rfl, trivial⟩, H⟩
     ·replace hB11697 := itF hb hB11697
      refine C_exit <| x_then_exit <| x_then_exit <| x_block_exit ?_
      replace H := H.e7.e1.e0
      obtain rfl := Option.some.inj hB11697
      obtain rfl := hO11698 _ rfl
      refine x_A fun a hf => ⟨v10677, c10678, v10681, c10682, x10679, x10683, rfl, r10680, r10684, hf.sub ⟨rfl, rfl, trivial⟩, H⟩
   ·rintro a wd12694 ⟨v9660, c9661, v9664, c9665, x9662, x9666, rfl, r9663, r9667, hf, H⟩
    try dsimp only at hF
    refine XX.at hf <| x_then <| C_seq <| R_nd <| nq (v := .agg #[v9660, v9664, v6501]) (Q_ldB (k := 1) (cs := [v9660, v9664, v6501]) H.ok rfl ty81 rfl rfl rfl (fun h => nomatch h) rfl) rfl rfl <| ne (E_stB (k := 0) (cs := [v9660, v9664, v6501]) (vs' := [v9660, v9664, v6501]) H rfl ty81 rfl rfl rfl rfl (one_cons (arr_cells (H.ok.get (k := 2) rfl)).2 (one_cons (arr_cells (H.ok.get (k := 3) rfl)).2 (one_cons (arr_cells (H.ok.get (k := 4) rfl)).2 one_nil))) (by simp) rfl) rfl rfl ?_
    rintro _ wd12695 H
    dsimp only [List.set] at H
    refine nq (Q_assign rfl) rfl rfl <| WL_nil <| x_then <| C_ret ?_
    have hRV : RV Tryz.prog wd12695 [(4, .pointer (some ⟨b6369, 0, none⟩)), (5, .int .i64 0)] [.cell 4 81, .tmp 5] [.agg #[v9660, v9664, v6501], .int .i64 0] := ⟨⟨_, rfl, run_ldv ty81 rfl (fun h => nomatch h) (box_at (H.ok.get (k := 0) rfl) 0 3)⟩, rfl, trivial⟩
    replace H := H.e1.e0
    obtain rfl := Option.some.inj hF
    exact fn_retV (rs := [.cell 4 81, .tmp 5]) (vs := [.agg #[v9660, v9664, v6501], .int .i64 0]) rfl hRV ⟨v9660, c9661, v9664, c9665, v6501, c6502, x9662, x9666, x6503, 0, rfl, rfl, r9663, r9667, r6504, H⟩
set_option maxHeartbeats 8000000 in
theorem c_104 {N : Nat} {C : Cx} {w : World} {ρ : View} {hs : List Hl} {gV : Nat → Value} {v1 : Value} {v4 : Value} {v7 : Value} {v10 : Value} {v13 : Value} {v16 : Value} {x2 : (List (List Int))} {x5 : (List Int)} {x8 : (List Int)} {x11 : (List (List Int))} {x14 : (List Int)} {x17 : (List Int)} {x19 : Int} (H : Hp C w ρ (hs)) (_gle : GErrs ρ 394 errIds gV) (r3 : RdSl ρ (eA 256 (eI .i64)) v1 x2) (r6 : RdSl ρ (eI .i64) v4 x5) (_r9 : RdSl ρ (eI .i64) v7 x8) (r12 : RdSl ρ (eA 256 (eI .i64)) v10 x11) (r15 : RdSl ρ (eI .i64) v13 x14) (_r18 : RdSl ρ (eI .i64) v16 x17) {r : (List (List Int))} (hF : F_dofferref21_Far N x2 x5 x8 x11 x14 x17 x19 = some r) :
  Calls Tryz.prog 104 [.agg #[v1, v4, v7], .agg #[v10, v13, v16], .int .i64 x19].toArray w (Rets (fun v w' => (∃ (v266217 : Value) (c266218 : (List Value)) (x266219 : (List (List Int))), x266219 = r ∧ v266217 = v ∧ Hp C w' ρ (NA (eI .i64) 1 v266217 c266218 x266219 :: hs)))) := by
 unfold F_dofferref21_Far at hF
 have h0 : Tryz.f104.body = some _ := rfl
 refine fn_calls' Tryz.func104 h0 (n := 141) rfl (by simp) <| C_seq <| R_nd <| ne (E_box H (vs := [v1, v4, v7]) rfl rfl) rfl rfl ?_
 rintro _ wd266221 ⟨b266220, rfl, H⟩
 refine ne (E_box H (vs := [v10, v13, v16]) rfl rfl) rfl rfl ?_
 rintro _ wd266223 ⟨b266222, rfl, H⟩
 refine nq (Q_assign rfl) rfl rfl <| WL_nil <| x_then <| C_seq <| R_nd <| ne (E_bslice0 H Tryz.underlying171 ty23) rfl rfl ?_
 rintro _ wd266225 ⟨b266224, rfl, H⟩
 replace H := H.njoin0 (eI .i64)
 refine nq (Q_assign rfl) rfl rfl <| WL_nil <| x_then <| C_seq <| C_seq <| R_nd <| nq (v := .pointer (some ⟨b266220, 0, none⟩)) (Q_fld Tryz.underlying81 rfl ty79 (by decide) rfl rfl) rfl rfl <| nq (v := v1) (Q_ldB (k := 2) (cs := [v1]) H.ok rfl ty79 rfl rfl rfl (fun _ => rfl) rfl) rfl rfl <| nq (Q_len Tryz.underlying79 rfl r3) rfl rfl <| nq (Q_move rfl) rfl rfl <| WL_nil <| x_then ?_
 obtain ⟨o270982, ho270982, hF⟩ := bnd hF
 refine C_cutQ (fun a w' => ∃ (v270979 : Value) (c270980 : (List Value)) (x270981 : (List (List Int))), x270981 = o270982 ∧ Fr 141 a [(3, .pointer (some ⟨b266220, 0, none⟩)), (4, .pointer (some ⟨b266222, 0, none⟩)), (7, v270979)] ∧ Hp C w' ρ (Box b266220 [v1, v4, v7] :: Box b266222 [v10, v13, v16] :: NA (eI .i64) 1 v270979 c270980 x270981 :: hs)) ?_ ?_
 ·refine C_block ?_
  replace H := H.f1.f2
  refine C_iter (f := fun s => F_dofferref21_Far_l0 N x2 x5 x11 x14 x19 s.1 s.2) ho270982 (fun s a w' => ∃ (v272567 : Value) (c272568 : (List Value)) (x272566 : Int) (x272569 : (List (List Int))), (x272566, x272569) = s ∧ Fr 141 a [(2, .int .i64 x19), (3, .pointer (some ⟨b266220, 0, none⟩)), (4, .pointer (some ⟨b266222, 0, none⟩)), (7, v272567), (19, .int .i64 (x2.length : Int)), (20, .int .i64 x272566)] ∧ Hp C w' ρ (Box b266220 [v1, v4, v7] :: Box b266222 [v10, v13, v16] :: NA (eI .i64) 1 v272567 c272568 x272569 :: hs)) ?_ ?_
  ·exact fun a hf => ⟨(.slice (some ⟨b266224, 0, none⟩) 0 0), [], 0, [], rfl, hf.sub ⟨rfl, rfl, rfl, rfl, rfl, rfl, trivial⟩, H⟩
  ·rintro s o274153 a wd274156 ⟨v272567, c272568, x272566, x272569, rfl, hf, H⟩ hB274154 hO274155
   replace hB274154 : F_dofferref21_Far_l0 N x2 x5 x11 x14 x19 x272566 x272569 = some o274153 := hB274154
   unfold F_dofferref21_Far_l0 at hB274154
   refine CW.at hf <| C_seq <| R_nd <| nq (Q_lss rfl rfl) rfl rfl <| WL_nil <| x_then <| C_seq ?_
   refine C_cond rfl (fun hb => ?_) (fun hb => ?_)
   ·replace hB274154 := itT hb hB274154
    refine C_skip <| x_then <| C_seq <| C_block <| C_seq <| R_nd <| nq (Q_move rfl) rfl rfl <| nq (Q_assign rfl) rfl rfl <| WL_nil <| x_then <| C_seq <| R_nd <| nq (v := .pointer (some ⟨b266222, 0, none⟩)) (Q_fld Tryz.underlying81 rfl ty79 (by decide) rfl rfl) rfl rfl <| nq (v := v10) (Q_ldB (k := 1) (cs := [v10]) H.ok rfl ty79 rfl rfl rfl (fun _ => rfl) rfl) rfl rfl ?_
    refine nq (Q_len Tryz.underlying79 rfl r12) rfl rfl ?_
    obtain ⟨x274157, hx274157, hB274154⟩ := bnd hB274154
    obtain ⟨hm274159a, hm274159b, hm274159c⟩ := mk_some hx274157
    refine ne (E_make H Tryz.underlying23 ty3 (zs := [.int .i64 0]) rfl rfl (by decide) (by decide) rfl hm274159a hm274159b) rfl rfl ?_
    rintro _ wd274160 ⟨b274158, rfl, H⟩
    refine nq (Q_assign rfl) rfl rfl <| WL_nil <| x_then <| C_seq <| C_seq <| R_nd <| nq (Q_move rfl) rfl rfl <| nq (Q_lenA (en := (eI .i64)) (k := 0) H.ok rfl (hm274159c ▸ rdL_rep (e := (eI .i64)) (ρ := ρ) (rfl) _) (by decide) Tryz.underlying23 rfl) rfl rfl <| nq (Q_move rfl) rfl rfl <| WL_nil <| x_then ?_
    obtain ⟨o274945, ho274945, hB274154⟩ := bnd hB274154
    refine C_cutQ (fun a w' => ∃ (c274942 : (List Value)) (x274943 : (List Int)), x274943 = o274945 ∧ rdL (eI .i64) ρ x274943 c274942 ∧ Fr 141 a [(2, .int .i64 x19), (3, .pointer (some ⟨b266220, 0, none⟩)), (4, .pointer (some ⟨b266222, 0, none⟩)), (7, v272567), (9, (.slice (some ⟨b274158, 0, none⟩) (x11.length : Int).toNat (x11.length : Int).toNat)), (19, .int .i64 (x2.length : Int)), (20, .int .i64 x272566)] ∧ Hp C w' ρ (Box b266220 [v1, v4, v7] :: Box b266222 [v10, v13, v16] :: NA (eI .i64) 1 v272567 c272568 x272569 :: Arr (.slice (some ⟨b274158, 0, none⟩) (x11.length : Int).toNat (x11.length : Int).toNat) 1 c274942 :: hs)) ?_ ?_
    ·refine C_block ?_
     replace H := H.f3.f3.f3
     refine C_iter (f := fun s => F_dofferref21_Far_l1 N x5 x14 x19 x272566 x274157 s.1 s.2) ho274945 (fun s a w' => ∃ (c275206 : (List Value)) (x275205 : Int) (x275207 : (List Int)), (x275205, x275207) = s ∧ rdL (eI .i64) ρ x275207 c275206 ∧ Fr 141 a [(2, .int .i64 x19), (3, .pointer (some ⟨b266220, 0, none⟩)), (4, .pointer (some ⟨b266222, 0, none⟩)), (7, v272567), (8, .int .i64 x272566), (9, (.slice (some ⟨b274158, 0, none⟩) (x11.length : Int).toNat (x11.length : Int).toNat)), (19, .int .i64 (x2.length : Int)), (20, .int .i64 x272566), (28, .int .i64 (x274157.length : Int)), (29, .int .i64 x275205)] ∧ Hp C w' ρ (Box b266220 [v1, v4, v7] :: Box b266222 [v10, v13, v16] :: NA (eI .i64) 1 v272567 c272568 x272569 :: Arr (.slice (some ⟨b274158, 0, none⟩) (x11.length : Int).toNat (x11.length : Int).toNat) 1 c275206 :: hs)) ?_ ?_
     ·exact fun a hf => ⟨(repC (x11.length : Int).toNat [.int .i64 0]), 0, x274157, rfl, (hm274159c ▸ rdL_rep (e := (eI .i64)) (ρ := ρ) (rfl) _), hf.sub ⟨rfl, rfl, rfl, rfl, rfl, rfl, rfl, rfl, rfl, rfl, trivial⟩, H⟩
     ·rintro s o275468 a wd275471 ⟨c275206, x275205, x275207, rfl, r275208, hf, H⟩ hB275469 hO275470
      replace hB275469 : F_dofferref21_Far_l1 N x5 x14 x19 x272566 x274157 x275205 x275207 = some o275468 := hB275469
      unfold F_dofferref21_Far_l1 at hB275469
      refine CW.at hf <| C_seq <| R_nd <| nq (Q_lss rfl rfl) rfl rfl <| WL_nil <| x_then <| C_seq ?_
      refine C_cond rfl (fun hb => ?_) (fun hb => ?_)
      ·replace hB275469 := itT hb hB275469
       refine C_skip <| x_then ?_
       obtain ⟨o275600, ho275600, hB275469⟩ := bnd hB275469
       refine C_cut (fun a w' => ∃ (c275597 : (List Value)) (x275598 : (List Int)), x275598 = o275600 ∧ rdL (eI .i64) ρ x275598 c275597 ∧ Fr 141 a [(2, .int .i64 x19), (3, .pointer (some ⟨b266220, 0, none⟩)), (4, .pointer (some ⟨b266222, 0, none⟩)), (7, v272567), (8, .int .i64 x272566), (9, (.slice (some ⟨b274158, 0, none⟩) (x11.length : Int).toNat (x11.length : Int).toNat)), (19, .int .i64 (x2.length : Int)), (20, .int .i64 x272566), (28, .int .i64 (x274157.length : Int)), (29, .int .i64 x275205)] ∧ Hp C w' ρ (Box b266220 [v1, v4, v7] :: Box b266222 [v10, v13, v16] :: NA (eI .i64) 1 v272567 c272568 x272569 :: Arr (.slice (some ⟨b274158, 0, none⟩) (x11.length : Int).toNat (x11.length : Int).toNat) 1 c275597 :: hs)) ?_ ?_
       ·refine C_block <| C_seq <| R_nd <| nq (Q_move rfl) rfl rfl <| nq (Q_assign rfl) rfl rfl <| WL_nil <| x_then <| C_seq <| R_nd <| nq (Q_move rfl) rfl rfl <| nq (Q_move rfl) rfl rfl ?_
        obtain ⟨x275601, hx275601, ho275600⟩ := bnd ho275600
        obtain ⟨b275602, o275603, hi275607, hc275605, ha275606⟩ := arr_at (hs := [Arr (.slice (some ⟨b274158, 0, none⟩) (x11.length : Int).toNat (x11.length : Int).toNat) 1 c275206]) (k := 0) (by decide) (H.okS (by simp)) rfl r275208 hx275601
        refine nq (Q_idx hi275607 Tryz.underlying23 ty3 rfl rfl) rfl rfl ?_
        obtain ⟨x275608, hx275608, ho275600⟩ := bnd ho275600
        obtain ⟨hs275609a, hs275609b, hs275609c⟩ := setI_some hx275608
        have r275610 : rdL (eI .i64) ρ x275608 (setC c275206 (x275205.toNat * 1 + 0) [.int .i64 (-1)]) := hs275609c ▸ rdL.set r275208 hs275609b (rfl)
        refine ne (E_stA (k := 3) (j := 0) (c := [.int .i64 (-1)]) H rfl ty3 hi275607 rfl rfl rfl rfl (one_cons rfl one_nil) (by decide)) rfl rfl ?_
        rintro _ wd275611 H
        dsimp only [List.set] at H
        refine WL_nil <| x_then ?_
        obtain ⟨o275655, ho275655, ho275600⟩ := bnd ho275600
        refine C_cut (fun a w' => ∃ (x275654 : Bool), x275654 = o275655 ∧ Fr 141 a [(2, .int .i64 x19), (3, .pointer (some ⟨b266220, 0, none⟩)), (4, .pointer (some ⟨b266222, 0, none⟩)), (7, v272567), (8, .int .i64 x272566), (9, (.slice (some ⟨b274158, 0, none⟩) (x11.length : Int).toNat (x11.length : Int).toNat)), (10, .int .i64 x275205), (19, .int .i64 (x2.length : Int)), (20, .int .i64 x272566), (28, .int .i64 (x274157.length : Int)), (29, .int .i64 x275205), (69, .bool x275654)] ∧ Hp C w' ρ (Box b266220 [v1, v4, v7] :: Box b266222 [v10, v13, v16] :: NA (eI .i64) 1 v272567 c272568 x272569 :: Arr (.slice (some ⟨b274158, 0, none⟩) (x11.length : Int).toNat (x11.length : Int).toNat) 1 (setC c275206 (x275205.toNat * 1 + 0) [.int .i64 (-1)]) :: hs)) ?_ ?_
        ·refine H.dr (.take 0 (.take 1 (.take 2 (.take 3 (.take 4 (.take 5 (.take 6 (.take 7 (.take 8 (.take 9 (.take 10 (.take 11 (.take 12 (.take 13 (.take 14 (.take 15 (.take 16 (.take 17 (.take 18 (.take 19 (.take 20 (.take 21 (.take 22 (.take 23 (.take 24 (.take 25 (.take 26 (.take 27 (.take 28 (.take 29 (.take 30 (.take 31 (.take 32 (.take 33 (.take 34 .done))))))))))))))))))))))))))))))))))) none hm0 (by kernel_rfl) ?_
         replace H := H.drew
         refine dq rfl (fun _ _ => Q_move rfl) rfl rfl <| dq rfl (fun _ _ => Q_eql rfl rfl) rfl rfl <| dq rfl (fun _ _ => Q_move rfl) rfl rfl ?_
         rcases Bool.eq_false_or_eq_true (x19 == 0) with hb | hb
         ·rw [hb]
          replace ho275655 := itT hb ho275655
          refine dgq (v := .pointer (some ⟨b266220, 1, none⟩)) rfl (fun _ _ => Q_fld Tryz.underlying81 rfl ty23 (by decide) rfl rfl) rfl rfl rfl <| dgq (v := v4) rfl (fun _ hw => Q_ldB (k := 0) (cs := [v4]) hw rfl ty23 rfl rfl rfl (fun _ => rfl) rfl) rfl rfl rfl <| dgq rfl (fun _ _ => Q_move rfl) rfl rfl rfl ?_
          obtain ⟨x275656, hx275656, ho275655⟩ := bnd ho275655
          obtain ⟨b275657, o275658, c275659, hc275660, ha275661, hi275662⟩ := idxR r6 hx275656
          refine dgq rfl (fun _ _ => Q_idx hi275662 Tryz.underlying23 ty3 rfl rfl) rfl rfl rfl <| dgq (v := .int .i64 x275656) rfl (fun _ hw => Q_ld (show cellsAt _ _ _ [.int .i64 x275656] from (show _ = [_] from hc275660) ▸ (ha275661.up hw.view)) ty3 rfl (fun _ => rfl) rfl rfl) rfl rfl rfl <| dgq (v := .pointer (some ⟨b266222, 1, none⟩)) rfl (fun _ _ => Q_fld Tryz.underlying81 rfl ty23 (by decide) rfl rfl) rfl rfl rfl <| dgq (v := v13) rfl (fun _ hw => Q_ldB (k := 1) (cs := [v13]) hw rfl ty23 rfl rfl rfl (fun _ => rfl) rfl) rfl rfl rfl <| dgq rfl (fun _ _ => Q_move rfl) rfl rfl rfl ?_
          obtain ⟨x275663, hx275663, ho275655⟩ := bnd ho275655
          obtain ⟨b275664, o275665, c275666, hc275667, ha275668, hi275669⟩ := idxR r15 hx275663
          refine dgq rfl (fun _ _ => Q_idx hi275669 Tryz.underlying23 ty3 rfl rfl) rfl rfl rfl <| dgq (v := .int .i64 x275663) rfl (fun _ hw => Q_ld (show cellsAt _ _ _ [.int .i64 x275663] from (show _ = [_] from hc275667) ▸ (ha275668.up hw.view)) ty3 rfl (fun _ => rfl) rfl rfl) rfl rfl rfl <| dgq rfl (fun _ _ => Q_neq rfl rfl) rfl rfl rfl <| dq rfl (fun _ _ => Q_pickT rfl rfl) rfl rfl <| dq rfl (fun _ _ => Q_move rfl) rfl rfl ?_
          rcases Bool.eq_false_or_eq_true (x275656 != x275663) with hb | hb
          ·rw [hb]
           replace ho275655 := itT hb ho275655
           refine dgs rfl rfl rfl rfl rfl <| dgs rfl rfl rfl rfl rfl <| dgs rfl rfl rfl rfl rfl <| dgsu rfl rfl ⟨_, _, rfl, rfl, rfl⟩ rfl <| dgsu rfl rfl ⟨_, _, rfl, rfl, rfl⟩ rfl <| dgsu rfl rfl ⟨_, _, rfl, rfl, rfl⟩ rfl <| dgsu rfl rfl ⟨_, _, rfl, rfl, rfl⟩ rfl <| dgsu rfl rfl ⟨_, _, rfl, rfl, rfl⟩ rfl <| dgsu rfl rfl ⟨_, _, rfl, rfl, rfl⟩ rfl <| dgs rfl rfl rfl rfl rfl <| dgs rfl rfl rfl rfl rfl <| dgsu rfl rfl ⟨_, _, rfl, rfl, rfl⟩ rfl <| dgsu rfl rfl ⟨_, _, rfl, rfl, rfl⟩ rfl <| dgsu rfl rfl ⟨_, _, rfl, rfl, rfl⟩ rfl ?_
           refine dgsu rfl rfl ⟨_, _, rfl, rfl, rfl⟩ rfl <| dgsu rfl rfl ⟨_, _, rfl, rfl, rfl⟩ rfl <| dgsu rfl rfl ⟨_, _, rfl, rfl, rfl⟩ rfl <| dgs rfl rfl rfl rfl rfl <| dq rfl (fun _ _ => Q_pickT rfl rfl) rfl rfl <| DL_nil ?_
           obtain rfl := Option.some.inj ho275655
           refine x_A fun a hf => ⟨true, rfl, hf.sub ⟨rfl, rfl, rfl, rfl, rfl, rfl, rfl, rfl, rfl, rfl, rfl, rfl, trivial⟩, H⟩
          ·rw [hb]
           replace ho275655 := itF hb ho275655
           refine dgq rfl (fun _ _ => Q_move rfl) rfl rfl rfl <| dgq rfl (fun _ _ => Q_eql rfl rfl) rfl rfl rfl <| dgq rfl (fun _ _ => Q_move rfl) rfl rfl rfl ?_
           rcases Bool.eq_false_or_eq_true (x19 == 1) with hb | hb
           ·rw [hb]
            replace ho275655 := itT hb ho275655
            refine dgq (v := .pointer (some ⟨b266220, 1, none⟩)) rfl (fun _ _ => Q_fld Tryz.underlying81 rfl ty23 (by decide) rfl rfl) rfl rfl rfl <| dgq (v := v4) rfl (fun _ hw => Q_ldB (k := 0) (cs := [v4]) hw rfl ty23 rfl rfl rfl (fun _ => rfl) rfl) rfl rfl rfl <| dgq rfl (fun _ _ => Q_move rfl) rfl rfl rfl ?_
            obtain ⟨x275670, hx275670, ho275655⟩ := bnd ho275655
            obtain ⟨b275671, o275672, c275673, hc275674, ha275675, hi275676⟩ := idxR r6 hx275670
            refine dgq rfl (fun _ _ => Q_idx hi275676 Tryz.underlying23 ty3 rfl rfl) rfl rfl rfl <| dgq (v := .int .i64 x275670) rfl (fun _ hw => Q_ld (show cellsAt _ _ _ [.int .i64 x275670] from (show _ = [_] from hc275674) ▸ (ha275675.up hw.view)) ty3 rfl (fun _ => rfl) rfl rfl) rfl rfl rfl <| dgq rfl (fun _ _ => Q_geq rfl rfl) rfl rfl rfl <| dgq rfl (fun _ _ => Q_pickT rfl rfl) rfl rfl rfl <| dgq rfl (fun _ _ => Q_move rfl) rfl rfl rfl ?_
            rcases Bool.eq_false_or_eq_true (decide (x275670 ≥ 0)) with hb | hb
            ·rw [hb]
             replace ho275655 := itT hb ho275655
             refine dgq (v := .pointer (some ⟨b266222, 1, none⟩)) rfl (fun _ _ => Q_fld Tryz.underlying81 rfl ty23 (by decide) rfl rfl) rfl rfl rfl <| dgq (v := v13) rfl (fun _ hw => Q_ldB (k := 1) (cs := [v13]) hw rfl ty23 rfl rfl rfl (fun _ => rfl) rfl) rfl rfl rfl <| dgq rfl (fun _ _ => Q_move rfl) rfl rfl rfl ?_
             obtain ⟨x275677, hx275677, ho275655⟩ := bnd ho275655
             obtain ⟨b275678, o275679, c275680, hc275681, ha275682, hi275683⟩ := idxR r15 hx275677
             refine dgq rfl (fun _ _ => Q_idx hi275683 Tryz.underlying23 ty3 rfl rfl) rfl rfl rfl <| dgq (v := .int .i64 x275677) rfl (fun _ hw => Q_ld (show cellsAt _ _ _ [.int .i64 x275677] from (show _ = [_] from hc275681) ▸ (ha275682.up hw.view)) ty3 rfl (fun _ => rfl) rfl rfl) rfl rfl rfl <| dgq rfl (fun _ _ => Q_geq rfl rfl) rfl rfl rfl <| dgq rfl (fun _ _ => Q_pickT rfl rfl) rfl rfl rfl <| dq rfl (fun _ _ => Q_pickF rfl rfl) rfl rfl <| DL_nil ?_
             obtain rfl := Option.some.inj ho275655
             refine x_A fun a hf => ⟨decide (x275677 ≥ 0), rfl, hf.sub ⟨rfl, rfl, rfl, rfl, rfl, rfl, rfl, rfl, rfl, rfl, rfl, rfl, trivial⟩, H⟩
            ·rw [hb]
             replace ho275655 := itF hb ho275655
             refine dgs rfl rfl rfl rfl rfl <| dgs rfl rfl rfl rfl rfl <| dgs rfl rfl rfl rfl rfl <| dgs rfl rfl rfl rfl rfl <| dgs rfl rfl rfl rfl rfl <| dgs rfl rfl rfl rfl rfl <| dgq rfl (fun _ _ => Q_pickF rfl rfl) rfl rfl rfl <| dq rfl (fun _ _ => Q_pickF rfl rfl) rfl rfl <| DL_nil ?_
             obtain rfl := Option.some.inj ho275655
             refine x_A fun a hf => ⟨false, rfl, hf.sub ⟨rfl, rfl, rfl, rfl, rfl, rfl, rfl, rfl, rfl, rfl, rfl, rfl, trivial⟩, H⟩
           ·rw [hb]
            replace ho275655 := itF hb ho275655
            refine dgs rfl rfl rfl rfl rfl <| dgs rfl rfl rfl rfl rfl <| dgs rfl rfl rfl rfl rfl <| dgs rfl rfl rfl rfl rfl <| dgs rfl rfl rfl rfl rfl <| dgs rfl rfl rfl rfl rfl <| dgq rfl (fun _ _ => Q_pickF rfl rfl) rfl rfl rfl <| dgq rfl (fun _ _ => Q_move rfl) rfl rfl rfl <| dgs rfl rfl rfl rfl rfl <| dgs rfl rfl rfl rfl rfl <| dgs rfl rfl rfl rfl rfl <| dgs rfl rfl rfl rfl rfl <| dgs rfl rfl rfl rfl rfl <| dgs rfl rfl rfl rfl rfl ?_
            refine dgq rfl (fun _ _ => Q_pickF rfl rfl) rfl rfl rfl <| dq rfl (fun _ _ => Q_pickF rfl rfl) rfl rfl <| DL_nil ?_
            obtain rfl := Option.some.inj ho275655
            refine x_A fun a hf => ⟨false, rfl, hf.sub ⟨rfl, rfl, rfl, rfl, rfl, rfl, rfl, rfl, rfl, rfl, rfl, rfl, trivial⟩, H⟩
         ·rw [hb]
          replace ho275655 := itF hb ho275655
          refine dgs rfl rfl rfl rfl rfl <| dgs rfl rfl rfl rfl rfl <| dgs rfl rfl rfl rfl rfl <| dgs rfl rfl rfl rfl rfl <| dgs rfl rfl rfl rfl rfl <| dgs rfl rfl rfl rfl rfl <| dgs rfl rfl rfl rfl rfl <| dgs rfl rfl rfl rfl rfl <| dgs rfl rfl rfl rfl rfl <| dgs rfl rfl rfl rfl rfl <| dgs rfl rfl rfl rfl rfl <| dq rfl (fun _ _ => Q_pickF rfl rfl) rfl rfl <| dq rfl (fun _ _ => Q_move rfl) rfl rfl <| dgq rfl (fun _ _ => Q_move rfl) rfl rfl rfl ?_
          refine dgq rfl (fun _ _ => Q_eql rfl rfl) rfl rfl rfl <| dgq rfl (fun _ _ => Q_move rfl) rfl rfl rfl ?_
          rcases Bool.eq_false_or_eq_true (x19 == 1) with hb | hb
          ·rw [hb]
           replace ho275655 := itT hb ho275655
           refine dgq (v := .pointer (some ⟨b266220, 1, none⟩)) rfl (fun _ _ => Q_fld Tryz.underlying81 rfl ty23 (by decide) rfl rfl) rfl rfl rfl <| dgq (v := v4) rfl (fun _ hw => Q_ldB (k := 0) (cs := [v4]) hw rfl ty23 rfl rfl rfl (fun _ => rfl) rfl) rfl rfl rfl <| dgq rfl (fun _ _ => Q_move rfl) rfl rfl rfl ?_
           obtain ⟨x275684, hx275684, ho275655⟩ := bnd ho275655
           obtain ⟨b275685, o275686, c275687, hc275688, ha275689, hi275690⟩ := idxR r6 hx275684
           refine dgq rfl (fun _ _ => Q_idx hi275690 Tryz.underlying23 ty3 rfl rfl) rfl rfl rfl <| dgq (v := .int .i64 x275684) rfl (fun _ hw => Q_ld (show cellsAt _ _ _ [.int .i64 x275684] from (show _ = [_] from hc275688) ▸ (ha275689.up hw.view)) ty3 rfl (fun _ => rfl) rfl rfl) rfl rfl rfl <| dgq rfl (fun _ _ => Q_geq rfl rfl) rfl rfl rfl <| dgq rfl (fun _ _ => Q_pickT rfl rfl) rfl rfl rfl <| dgq rfl (fun _ _ => Q_move rfl) rfl rfl rfl ?_
           rcases Bool.eq_false_or_eq_true (decide (x275684 ≥ 0)) with hb | hb
           ·rw [hb]
            replace ho275655 := itT hb ho275655
            refine dgq (v := .pointer (some ⟨b266222, 1, none⟩)) rfl (fun _ _ => Q_fld Tryz.underlying81 rfl ty23 (by decide) rfl rfl) rfl rfl rfl <| dgq (v := v13) rfl (fun _ hw => Q_ldB (k := 1) (cs := [v13]) hw rfl ty23 rfl rfl rfl (fun _ => rfl) rfl) rfl rfl rfl <| dgq rfl (fun _ _ => Q_move rfl) rfl rfl rfl ?_
            obtain ⟨x275691, hx275691, ho275655⟩ := bnd ho275655
            obtain ⟨b275692, o275693, c275694, hc275695, ha275696, hi275697⟩ := idxR r15 hx275691
            refine dgq rfl (fun _ _ => Q_idx hi275697 Tryz.underlying23 ty3 rfl rfl) rfl rfl rfl <| dgq (v := .int .i64 x275691) rfl (fun _ hw => Q_ld (show cellsAt _ _ _ [.int .i64 x275691] from (show _ = [_] from hc275695) ▸ (ha275696.up hw.view)) ty3 rfl (fun _ => rfl) rfl rfl) rfl rfl rfl <| dgq rfl (fun _ _ => Q_geq rfl rfl) rfl rfl rfl <| dgq rfl (fun _ _ => Q_pickT rfl rfl) rfl rfl rfl <| dq rfl (fun _ _ => Q_pickF rfl rfl) rfl rfl <| DL_nil ?_
            obtain rfl := Option.some.inj ho275655
            refine x_A fun a hf => ⟨decide (x275691 ≥ 0), rfl, hf.sub ⟨rfl, rfl, rfl, rfl, rfl, rfl, rfl, rfl, rfl, rfl, rfl, rfl, trivial⟩, H⟩
           ·rw [hb]
            replace ho275655 := itF hb ho275655
            refine dgs rfl rfl rfl rfl rfl <| dgs rfl rfl rfl rfl rfl <| dgs rfl rfl rfl rfl rfl <| dgs rfl rfl rfl rfl rfl <| dgs rfl rfl rfl rfl rfl <| dgs rfl rfl rfl rfl rfl <| dgq rfl (fun _ _ => Q_pickF rfl rfl) rfl rfl rfl <| dq rfl (fun _ _ => Q_pickF rfl rfl) rfl rfl <| DL_nil ?_
            obtain rfl := Option.some.inj ho275655
            refine x_A fun a hf => ⟨false, rfl, hf.sub ⟨rfl, rfl, rfl, rfl, rfl, rfl, rfl, rfl, rfl, rfl, rfl, rfl, trivial⟩, H⟩
          ·rw [hb]
           replace ho275655 := itF hb ho275655
           refine dgs rfl rfl rfl rfl rfl <| dgs rfl rfl rfl rfl rfl <| dgs rfl rfl rfl rfl rfl <| dgs rfl rfl rfl rfl rfl <| dgs rfl rfl rfl rfl rfl <| dgs rfl rfl rfl rfl rfl <| dgq rfl (fun _ _ => Q_pickF rfl rfl) rfl rfl rfl <| dgq rfl (fun _ _ => Q_move rfl) rfl rfl rfl <| dgs rfl rfl rfl rfl rfl <| dgs rfl rfl rfl rfl rfl <| dgs rfl rfl rfl rfl rfl <| dgs rfl rfl rfl rfl rfl <| dgs rfl rfl rfl rfl rfl <| dgs rfl rfl rfl rfl rfl ?_
           refine dgq rfl (fun _ _ => Q_pickF rfl rfl) rfl rfl rfl <| dq rfl (fun _ _ => Q_pickF rfl rfl) rfl rfl <| DL_nil ?_
           obtain rfl := Option.some.inj ho275655
           refine x_A fun a hf => ⟨false, rfl, hf.sub ⟨rfl, rfl, rfl, rfl, rfl, rfl, rfl, rfl, rfl, rfl, rfl, rfl, trivial⟩, H⟩
        ·rintro a wd275698 ⟨x275654, rfl, hf, H⟩
         try dsimp only at ho275600
         refine CW.at hf ?_
         obtain ⟨o275713, ho275713, ho275600⟩ := bnd ho275600
         refine C_cutQ (fun a w' => ∃ (c275710 : (List Value)) (x275711 : (List Int)), x275711 = o275713 ∧ rdL (eI .i64) ρ x275711 c275710 ∧ Fr 141 a [(2, .int .i64 x19), (3, .pointer (some ⟨b266220, 0, none⟩)), (4, .pointer (some ⟨b266222, 0, none⟩)), (7, v272567), (8, .int .i64 x272566), (9, (.slice (some ⟨b274158, 0, none⟩) (x11.length : Int).toNat (x11.length : Int).toNat)), (19, .int .i64 (x2.length : Int)), (20, .int .i64 x272566), (28, .int .i64 (x274157.length : Int)), (29, .int .i64 x275205)] ∧ Hp C w' ρ (Box b266220 [v1, v4, v7] :: Box b266222 [v10, v13, v16] :: NA (eI .i64) 1 v272567 c272568 x272569 :: Arr (.slice (some ⟨b274158, 0, none⟩) (x11.length : Int).toNat (x11.length : Int).toNat) 1 c275710 :: hs)) ?_ ?_
         ·refine C_cond rfl (fun hb => ?_) (fun hb => ?_)
          ·replace ho275713 := itT hb ho275713
           refine R_nd <| nq (Q_move rfl) rfl rfl <| nq (Q_move rfl) rfl rfl ?_
           obtain ⟨x275714, hx275714, ho275713⟩ := bnd ho275713
           obtain ⟨b275715, o275716, hi275720, hc275718, ha275719⟩ := arr_at (hs := [Arr (.slice (some ⟨b274158, 0, none⟩) (x11.length : Int).toNat (x11.length : Int).toNat) 1 (setC c275206 (x275205.toNat * 1 + 0) [.int .i64 (-1)])]) (k := 0) (by decide) (H.okS (by simp)) rfl r275610 hx275714
           refine nq (Q_idx hi275720 Tryz.underlying23 ty3 rfl rfl) rfl rfl ?_
           obtain ⟨x275721, hx275721, ho275713⟩ := bnd ho275713
           obtain ⟨hs275722a, hs275722b, hs275722c⟩ := setI_some hx275721
           have r275723 : rdL (eI .i64) ρ x275721 (setC (setC c275206 (x275205.toNat * 1 + 0) [.int .i64 (-1)]) (x275205.toNat * 1 + 0) [.int .i64 0]) := hs275722c ▸ rdL.set r275610 hs275722b (rfl)
           refine ne (E_stA (k := 3) (j := 0) (c := [.int .i64 0]) H rfl ty3 hi275720 rfl rfl rfl rfl (one_cons rfl one_nil) (by decide)) rfl rfl ?_
           rintro _ wd275724 H
           dsimp only [List.set] at H
           refine WL_nil ?_
           obtain rfl := Option.some.inj ho275713
           refine x_A fun a hf => ⟨(setC (setC c275206 (x275205.toNat * 1 + 0) [.int .i64 (-1)]) (x275205.toNat * 1 + 0) [.int .i64 0]), x275721, rfl, r275723, hf.sub ⟨rfl, rfl, rfl, rfl, rfl, rfl, rfl, rfl, rfl, rfl, trivial⟩, H⟩
          ·replace ho275713 := itF hb ho275713
           refine C_skip ?_
           obtain rfl := Option.some.inj ho275713
           refine x_A fun a hf => ⟨(setC c275206 (x275205.toNat * 1 + 0) [.int .i64 (-1)]), x275608, rfl, r275610, hf.sub ⟨rfl, rfl, rfl, rfl, rfl, rfl, rfl, rfl, rfl, rfl, trivial⟩, H⟩
         ·rintro a wd275725 ⟨c275710, x275711, rfl, r275712, hf, H⟩
          try dsimp only at ho275600
          refine XX.at hf <| x_block ?_
          obtain rfl := Option.some.inj ho275600
          refine x_A fun a hf => ⟨c275710, x275711, rfl, r275712, hf.sub ⟨rfl, rfl, rfl, rfl, rfl, rfl, rfl, rfl, rfl, rfl, trivial⟩, H⟩
       ·rintro a wd275726 ⟨c275597, x275598, rfl, r275599, hf, H⟩
        try dsimp only at hB275469
        refine CW.at hf <| R_nd <| nq (Q_add rfl rfl) rfl rfl <| nq (Q_move rfl) rfl rfl <| WL_nil ?_
        obtain rfl := Option.some.inj hB275469
        refine x_A fun a hf => ⟨_, rfl, c275597, w64 (x275205 + 1), x275598, rfl, r275599, hf.sub ⟨rfl, rfl, rfl, rfl, rfl, rfl, rfl, rfl, rfl, rfl, trivial⟩, H⟩
      ·replace hB275469 := itF hb hB275469
       refine C_exit <| x_then_exit <| x_then_exit <| x_block_exit ?_
       obtain rfl := Option.some.inj hB275469
       obtain rfl := hO275470 _ rfl
       refine x_A fun a hf => ⟨c275206, x275207, rfl, r275208, hf.sub ⟨rfl, rfl, rfl, rfl, rfl, rfl, rfl, trivial⟩, H⟩
    ·rintro a wd275727 ⟨c274942, x274943, rfl, r274944, hf, H⟩
     try dsimp only at hB274154
     refine XX.at hf <| x_then <| R_nd <| nq (Q_move rfl) rfl rfl <| nq (Q_move rfl) rfl rfl ?_
     replace H := H.f3
     have hl275729 := arr_len (en := (eI .i64)) (by decide) (H.ok.get (k := 0) rfl) r274944
     refine ne (E_bslice (xs := [.tmp 75]) (vs := [(.slice (some ⟨b274158, 0, none⟩) (x11.length : Int).toNat (x11.length : Int).toNat)]) H Tryz.underlying171 ty23 (by decide) (cs := [(.slice (some ⟨b274158, 0, none⟩) (x11.length : Int).toNat (x11.length : Int).toNat)]) rfl (sz_cons (by rw [(arr_cells (H.ok.get (k := 0) rfl)).1]; rfl) sz_nil) (fm1 (arr_cells (H.ok.get (k := 0) rfl)).1) (by simp) (by simp) rfl rfl) rfl rfl ?_
     rintro _ wd275730 ⟨b275728, rfl, H⟩
     replace H := Hp.njoin1 (flat_I _) H r274944
     obtain ⟨x275731, hx275731, hB274154⟩ := bnd hB274154
     replace H := H.f3
     obtain ⟨hu275733, hj275734⟩ := app_alias (ds := [(.slice (some ⟨b274158, 0, none⟩) (x11.length : Int).toNat (x11.length : Int).toNat)]) (j := 0) (u := (.slice (some ⟨b274158, 0, none⟩) (x11.length : Int).toNat (x11.length : Int).toNat)) (x := x274943) (H.okS (l := [NA (eI .i64) 1 v272567 c272568 x272569]) (by simp)) hx275731 rfl rfl
     refine ne (E_appN1 H Tryz.underlying171 ty23 rfl (by decide) rfl rfl hx275731) rfl rfl ?_
     rintro u275732 wd275735 H
     refine nq (Q_assign rfl) rfl rfl <| WL_nil <| x_block <| x_then <| R_nd <| nq (Q_add rfl rfl) rfl rfl <| nq (Q_move rfl) rfl rfl <| WL_nil ?_
     replace H := H.f2.f2
     obtain rfl := Option.some.inj hB274154
     refine x_A fun a hf => ⟨_, rfl, u275732, (c272568 ++ ([(.slice (some ⟨b274158, 0, none⟩) (x11.length : Int).toNat (x11.length : Int).toNat)])), w64 (x272566 + 1), x275731, rfl, hf.sub ⟨rfl, rfl, rfl, rfl, rfl, rfl, trivial⟩, H⟩
   ·replace hB274154 := itF hb hB274154
    refine C_exit <| x_then_exit <| x_then_exit <| x_block_exit ?_
    obtain rfl := Option.some.inj hB274154
    obtain rfl := hO274155 _ rfl
    refine x_A fun a hf => ⟨v272567, c272568, x272569, rfl, hf.sub ⟨rfl, rfl, rfl, trivial⟩, H⟩
 ·rintro a wd275736 ⟨v270979, c270980, x270981, rfl, hf, H⟩
  try dsimp only at hF
  refine XX.at hf <| x_then <| C_seq <| R_nd <| nq (Q_assign rfl) rfl rfl <| WL_nil <| x_then <| C_block ?_
  refine C_iter (f := fun s => F_dofferref21_Far_l2 N x2 x11 s.1 s.2) hF (fun s a w' => ∃ (c446854 : (List Value)) (x446853 : Int) (x446855 : (List (List Int))), (x446853, x446855) = s ∧ Fr 141 a [(3, .pointer (some ⟨b266220, 0, none⟩)), (4, .pointer (some ⟨b266222, 0, none⟩)), (7, v270979), (11, .int .i64 x446853)] ∧ Hp C w' ρ (Box b266220 [v1, v4, v7] :: Box b266222 [v10, v13, v16] :: NA (eI .i64) 1 v270979 c446854 x446855 :: hs)) ?_ ?_
  ·exact fun a hf => ⟨c270980, 1, x270981, rfl, hf.sub ⟨rfl, rfl, rfl, rfl, trivial⟩, H⟩
  ·rintro s o489634 a wd489637 ⟨c446854, x446853, x446855, rfl, hf, H⟩ hB489635 hO489636
   replace hB489635 : F_dofferref21_Far_l2 N x2 x11 x446853 x446855 = some o489634 := hB489635
   unfold F_dofferref21_Far_l2 at hB489635
   refine CW.at hf <| C_seq <| C_block <| C_seq <| R_nd <| nq (Q_assign rfl) rfl rfl <| WL_nil <| x_then <| C_seq <| C_seq <| R_nd <| nq (v := .pointer (some ⟨b266220, 0, none⟩)) (Q_fld Tryz.underlying81 rfl ty79 (by decide) rfl rfl) rfl rfl <| nq (v := v1) (Q_ldB (k := 0) (cs := [v1]) H.ok rfl ty79 rfl rfl rfl (fun _ => rfl) rfl) rfl rfl <| nq (Q_len Tryz.underlying79 rfl r3) rfl rfl ?_
   refine nq (Q_move rfl) rfl rfl <| WL_nil <| x_then ?_
   obtain ⟨o511026, ho511026, hB489635⟩ := bnd hB489635
   refine C_cutQ (fun a w' => ∃ (c511024 : (List Value)) (x511023 : Bool) (x511025 : (List (List Int))), (x511023, x511025) = o511026 ∧ Fr 141 a [(3, .pointer (some ⟨b266220, 0, none⟩)), (4, .pointer (some ⟨b266222, 0, none⟩)), (7, v270979), (11, .int .i64 x446853), (12, .bool x511023)] ∧ Hp C w' ρ (Box b266220 [v1, v4, v7] :: Box b266222 [v10, v13, v16] :: NA (eI .i64) 1 v270979 c511024 x511025 :: hs)) ?_ ?_
   ·refine C_block ?_
    refine C_iter (f := fun s => F_dofferref21_Far_l3 N x2 x11 x446853 s.1 s.2.1 s.2.2) ho511026 (fun s a w' => ∃ (c518155 : (List Value)) (x518154 : Bool) (x518156 : (List (List Int))) (x518157 : Int), (x518154, x518156, x518157) = s ∧ Fr 141 a [(3, .pointer (some ⟨b266220, 0, none⟩)), (4, .pointer (some ⟨b266222, 0, none⟩)), (7, v270979), (11, .int .i64 x446853), (12, .bool x518154), (83, .int .i64 (x2.length : Int)), (84, .int .i64 x518157)] ∧ Hp C w' ρ (Box b266220 [v1, v4, v7] :: Box b266222 [v10, v13, v16] :: NA (eI .i64) 1 v270979 c518155 x518156 :: hs)) ?_ ?_
    ·exact fun a hf => ⟨c446854, false, x446855, 0, rfl, hf.sub ⟨rfl, rfl, rfl, rfl, rfl, rfl, rfl, trivial⟩, H⟩
    ·rintro s o525285 a wd525288 ⟨c518155, x518154, x518156, x518157, rfl, hf, H⟩ hB525286 hO525287
     replace hB525286 : F_dofferref21_Far_l3 N x2 x11 x446853 x518154 x518156 x518157 = some o525285 := hB525286
     unfold F_dofferref21_Far_l3 at hB525286
     refine CW.at hf <| C_seq <| R_nd <| nq (Q_lss rfl rfl) rfl rfl <| WL_nil <| x_then <| C_seq ?_
     refine C_cond rfl (fun hb => ?_) (fun hb => ?_)
     ·replace hB525286 := itT hb hB525286
      refine C_skip <| x_then <| C_seq <| C_block <| C_seq <| R_nd <| nq (Q_move rfl) rfl rfl <| nq (Q_assign rfl) rfl rfl <| WL_nil <| x_then <| C_seq <| R_nd <| nq (v := .pointer (some ⟨b266222, 0, none⟩)) (Q_fld Tryz.underlying81 rfl ty79 (by decide) rfl rfl) rfl rfl <| nq (v := v10) (Q_ldB (k := 1) (cs := [v10]) H.ok rfl ty79 rfl rfl rfl (fun _ => rfl) rfl) rfl rfl ?_
      refine nq (Q_len Tryz.underlying79 rfl r12) rfl rfl <| nq (Q_move rfl) rfl rfl <| WL_nil <| x_then ?_
      obtain ⟨o528851, ho528851, hB525286⟩ := bnd hB525286
      refine C_cutQ (fun a w' => ∃ (c528849 : (List Value)) (x528848 : Bool) (x528850 : (List (List Int))), (x528848, x528850) = o528851 ∧ Fr 141 a [(3, .pointer (some ⟨b266220, 0, none⟩)), (4, .pointer (some ⟨b266222, 0, none⟩)), (7, v270979), (11, .int .i64 x446853), (12, .bool x528848), (83, .int .i64 (x2.length : Int)), (84, .int .i64 x518157)] ∧ Hp C w' ρ (Box b266220 [v1, v4, v7] :: Box b266222 [v10, v13, v16] :: NA (eI .i64) 1 v270979 c528849 x528850 :: hs)) ?_ ?_
      ·refine C_block ?_
       refine C_iter (f := fun s => F_dofferref21_Far_l4 N x2 x11 x446853 x518157 s.1 s.2.1 s.2.2) ho528851 (fun s a w' => ∃ (c530038 : (List Value)) (x530037 : Bool) (x530039 : (List (List Int))) (x530040 : Int), (x530037, x530039, x530040) = s ∧ Fr 141 a [(3, .pointer (some ⟨b266220, 0, none⟩)), (4, .pointer (some ⟨b266222, 0, none⟩)), (7, v270979), (11, .int .i64 x446853), (12, .bool x530037), (13, .int .i64 x518157), (83, .int .i64 (x2.length : Int)), (84, .int .i64 x518157), (89, .int .i64 (x11.length : Int)), (90, .int .i64 x530040)] ∧ Hp C w' ρ (Box b266220 [v1, v4, v7] :: Box b266222 [v10, v13, v16] :: NA (eI .i64) 1 v270979 c530038 x530039 :: hs)) ?_ ?_
       ·exact fun a hf => ⟨c518155, x518154, x518156, 0, rfl, hf.sub ⟨rfl, rfl, rfl, rfl, rfl, rfl, rfl, rfl, rfl, rfl, trivial⟩, H⟩
       ·rintro s o531226 a wd531229 ⟨c530038, x530037, x530039, x530040, rfl, hf, H⟩ hB531227 hO531228
        replace hB531227 : F_dofferref21_Far_l4 N x2 x11 x446853 x518157 x530037 x530039 x530040 = some o531226 := hB531227
        unfold F_dofferref21_Far_l4 at hB531227
        refine CW.at hf <| C_seq <| R_nd <| nq (Q_lss rfl rfl) rfl rfl <| WL_nil <| x_then <| C_seq ?_
        refine C_cond rfl (fun hb => ?_) (fun hb => ?_)
        ·replace hB531227 := itT hb hB531227
         refine C_skip <| x_then <| C_seq <| C_block <| C_seq <| R_nd <| nq (Q_move rfl) rfl rfl <| nq (Q_assign rfl) rfl rfl <| WL_nil <| x_then <| C_seq <| R_nd <| nq (Q_assign rfl) rfl rfl <| WL_nil ?_
         refine x_then ?_
         obtain ⟨o531821, ho531821, hB531227⟩ := bnd hB531227
         refine C_cutQ (fun a w' => ∃ (c531819 : (List Value)) (x531818 : Bool) (x531820 : (List (List Int))), (x531818, x531820) = o531821 ∧ Fr 141 a [(3, .pointer (some ⟨b266220, 0, none⟩)), (4, .pointer (some ⟨b266222, 0, none⟩)), (7, v270979), (11, .int .i64 x446853), (12, .bool x531818), (13, .int .i64 x518157), (83, .int .i64 (x2.length : Int)), (84, .int .i64 x518157), (89, .int .i64 (x11.length : Int)), (90, .int .i64 x530040)] ∧ Hp C w' ρ (Box b266220 [v1, v4, v7] :: Box b266222 [v10, v13, v16] :: NA (eI .i64) 1 v270979 c531819 x531820 :: hs)) ?_ ?_
         ·refine C_block ?_
          refine C_iter (f := fun s => F_dofferref21_Far_l5 N x2 x11 x446853 x518157 x530040 s.1 s.2.1 s.2.2) ho531821 (fun s a w' => ∃ (c532020 : (List Value)) (x532018 : Bool) (x532019 : Int) (x532021 : (List (List Int))), (x532018, x532019, x532021) = s ∧ Fr 141 a [(3, .pointer (some ⟨b266220, 0, none⟩)), (4, .pointer (some ⟨b266222, 0, none⟩)), (7, v270979), (11, .int .i64 x446853), (12, .bool x532018), (13, .int .i64 x518157), (14, .int .i64 x530040), (15, .int .i64 x532019), (83, .int .i64 (x2.length : Int)), (84, .int .i64 x518157), (89, .int .i64 (x11.length : Int)), (90, .int .i64 x530040)] ∧ Hp C w' ρ (Box b266220 [v1, v4, v7] :: Box b266222 [v10, v13, v16] :: NA (eI .i64) 1 v270979 c532020 x532021 :: hs)) ?_ ?_
          ·exact fun a hf => ⟨c530038, x530037, 0, x530039, rfl, hf.sub ⟨rfl, rfl, rfl, rfl, rfl, rfl, rfl, rfl, rfl, rfl, rfl, rfl, trivial⟩, H⟩
          ·rintro s o532216 a wd532219 ⟨c532020, x532018, x532019, x532021, rfl, hf, H⟩ hB532217 hO532218
           replace hB532217 : F_dofferref21_Far_l5 N x2 x11 x446853 x518157 x530040 x532018 x532019 x532021 = some o532216 := hB532217
           unfold F_dofferref21_Far_l5 at hB532217
           refine CW.at hf <| C_seq ?_
           obtain ⟨o532235, ho532235, hB532217⟩ := bnd hB532217
           refine C_cut (fun a w' => ∃ (x532234 : Bool), x532234 = o532235 ∧ Fr 141 a [(3, .pointer (some ⟨b266220, 0, none⟩)), (4, .pointer (some ⟨b266222, 0, none⟩)), (7, v270979), (11, .int .i64 x446853), (12, .bool x532018), (13, .int .i64 x518157), (14, .int .i64 x530040), (15, .int .i64 x532019), (83, .int .i64 (x2.length : Int)), (84, .int .i64 x518157), (89, .int .i64 (x11.length : Int)), (90, .int .i64 x530040), (104, .bool x532234)] ∧ Hp C w' ρ (Box b266220 [v1, v4, v7] :: Box b266222 [v10, v13, v16] :: NA (eI .i64) 1 v270979 c532020 x532021 :: hs)) ?_ ?_
           ·refine R_nd <| nq (Q_move rfl) rfl rfl <| nq (Q_lss rfl rfl) rfl rfl <| nq (Q_move rfl) rfl rfl ?_
            rcases Bool.eq_false_or_eq_true (decide (x532019 < 256)) with hb | hb
            ·rw [hb]
             replace ho532235 := itT hb ho532235
             refine gq (Q_move rfl) rfl rfl rfl <| gq (Q_move rfl) rfl rfl rfl ?_
             obtain ⟨x532236, hx532236, ho532235⟩ := bnd ho532235
             obtain ⟨b532237, o532238, u532240, hi532239, hu532241, ha532242, hl532243, hj532244⟩ := na_at1 (by decide) (H.okS (l := [NA (eI .i64) 1 v270979 c532020 x532021]) (by simp)) hx532236
             refine gq (Q_idx hi532239 Tryz.underlying171 ty23 rfl rfl) rfl rfl rfl <| gq (v := u532240) (Q_ld (ha532242 _ (Ok.subS (by simp) H.ok)) ty23 rfl (fun _ => rfl) rfl rfl) rfl rfl rfl <| gq (Q_move rfl) rfl rfl rfl ?_
             obtain ⟨x532245, hx532245, ho532235⟩ := bnd ho532235
             obtain ⟨b532246, o532247, hi532248, ha532249⟩ := inn_at (by decide) (H.okS (l := [NA (eI .i64) 1 v270979 c532020 x532021]) (by simp)) hu532241 hj532244 hx532245
             refine gq (Q_idx hi532248 Tryz.underlying23 ty3 rfl rfl) rfl rfl rfl <| gq (v := .int .i64 x532245) (Q_ld (show cellsAt _ _ _ [.int .i64 x532245] from match ha532249 _ (Ok.subS (by simp) H.ok) with | ⟨_, rfl, h⟩ => h) ty3 rfl (fun _ => rfl) rfl rfl) rfl rfl rfl <| gq (Q_lss rfl rfl) rfl rfl rfl <| nq (Q_pickT rfl rfl) rfl rfl <| WL_nil ?_
             obtain rfl := Option.some.inj ho532235
             refine x_A fun a hf => ⟨decide (x532245 < 0), rfl, hf.sub ⟨rfl, rfl, rfl, rfl, rfl, rfl, rfl, rfl, rfl, rfl, rfl, rfl, rfl, trivial⟩, H⟩
            ·rw [hb]
             replace ho532235 := itF hb ho532235
             refine gs rfl rfl rfl rfl <| gs rfl rfl rfl rfl <| gs rfl rfl rfl rfl <| gs rfl rfl rfl rfl <| gs rfl rfl rfl rfl <| gs rfl rfl rfl rfl <| gs rfl rfl rfl rfl <| gs rfl rfl rfl rfl <| nq (Q_pickF rfl rfl) rfl rfl <| WL_nil ?_
             obtain rfl := Option.some.inj ho532235
             refine x_A fun a hf => ⟨false, rfl, hf.sub ⟨rfl, rfl, rfl, rfl, rfl, rfl, rfl, rfl, rfl, rfl, rfl, rfl, rfl, trivial⟩, H⟩
           ·rintro a wd532250 ⟨x532234, rfl, hf, H⟩
            try dsimp only at hB532217
            refine CW.at hf ?_
            refine C_cond rfl (fun hb => ?_) (fun hb => ?_)
            ·replace hB532217 := itT hb hB532217
             refine C_skip <| x_then ?_
             obtain ⟨o532331, ho532331, hB532217⟩ := bnd hB532217
             refine C_cut (fun a w' => ∃ (c532329 : (List Value)) (x532328 : Bool) (x532330 : (List (List Int))), (x532328, x532330) = o532331 ∧ Fr 141 a [(3, .pointer (some ⟨b266220, 0, none⟩)), (4, .pointer (some ⟨b266222, 0, none⟩)), (7, v270979), (11, .int .i64 x446853), (12, .bool x532328), (13, .int .i64 x518157), (14, .int .i64 x530040), (15, .int .i64 x532019), (83, .int .i64 (x2.length : Int)), (84, .int .i64 x518157), (89, .int .i64 (x11.length : Int)), (90, .int .i64 x530040)] ∧ Hp C w' ρ (Box b266220 [v1, v4, v7] :: Box b266222 [v10, v13, v16] :: NA (eI .i64) 1 v270979 c532329 x532330 :: hs)) ?_ ?_
             ·refine C_block <| C_seq <| H.dr (.take 0 (.take 1 (.take 2 (.take 3 (.take 4 (.take 5 (.take 6 (.take 7 (.take 8 (.take 9 (.take 10 (.take 11 (.take 12 (.take 13 (.take 14 (.take 15 (.take 16 (.take 17 (.take 18 (.take 19 (.take 20 (.take 21 .done)))))))))))))))))))))) none hm0 (by kernel_rfl) ?_
              replace H := H.drew
              refine dq rfl (fun _ _ => Q_move rfl) rfl rfl <| dq (v := .pointer (some ⟨b266220, 0, none⟩)) rfl (fun _ _ => Q_fld Tryz.underlying81 rfl ty79 (by decide) rfl rfl) rfl rfl <| dq (v := v1) rfl (fun _ hw => Q_ldB (k := 0) (cs := [v1]) hw rfl ty79 rfl rfl rfl (fun _ => rfl) rfl) rfl rfl <| dq rfl (fun _ _ => Q_move rfl) rfl rfl <| dq rfl (fun _ _ => Q_move rfl) rfl rfl ?_
              obtain ⟨x532332, hx532332, ho532331⟩ := bnd ho532331
              obtain ⟨b532333, o532334, c532335, hc532336, ha532337, hi532338⟩ := idxR r3 hx532332
              refine dq rfl (fun _ _ => Q_idx hi532338 Tryz.underlying79 ty87 rfl rfl) rfl rfl ?_
              obtain ⟨x532339, hx532339, ho532331⟩ := bnd ho532331
              have hn532340 := idx_lt hc532336.1 hx532339
              refine dq rfl (fun _ _ => Q_idxA hn532340.1 hn532340.2 Tryz.underlying87 ty3 rfl rfl) rfl rfl ?_
              obtain ⟨c532341, hc532342, ha532343, _⟩ := arrR hc532336 ha532337 hx532339
              refine dq (v := .int .i64 x532339) rfl (fun _ hw => Q_ld (show cellsAt _ _ _ [.int .i64 x532339] from (show _ = [_] from hc532342) ▸ (ha532343.up hw.view)) ty3 rfl (fun _ => rfl) rfl rfl) rfl rfl ?_
              obtain ⟨x532344, hx532344, ho532331⟩ := bnd ho532331
              obtain ⟨b532345, o532346, u532348, hi532347, hu532349, ha532350, hl532351, hj532352⟩ := na_at1 (by decide) (H.okS (l := [NA (eI .i64) 1 v270979 c532020 x532021]) (by simp)) hx532344
              refine dq rfl (fun _ _ => Q_idx hi532347 Tryz.underlying171 ty23 rfl rfl) rfl rfl <| dq (v := u532348) rfl (fun _ hw => Q_ld (ha532350 _ (Ok.subS (by simp) hw)) ty23 rfl (fun _ => rfl) rfl rfl) rfl rfl <| dq (v := .pointer (some ⟨b266222, 0, none⟩)) rfl (fun _ _ => Q_fld Tryz.underlying81 rfl ty79 (by decide) rfl rfl) rfl rfl <| dq (v := v10) rfl (fun _ hw => Q_ldB (k := 1) (cs := [v10]) hw rfl ty79 rfl rfl rfl (fun _ => rfl) rfl) rfl rfl <| dq rfl (fun _ _ => Q_move rfl) rfl rfl <| dq rfl (fun _ _ => Q_move rfl) rfl rfl ?_
              obtain ⟨x532353, hx532353, ho532331⟩ := bnd ho532331
              obtain ⟨b532354, o532355, c532356, hc532357, ha532358, hi532359⟩ := idxR r12 hx532353
              refine dq rfl (fun _ _ => Q_idx hi532359 Tryz.underlying79 ty87 rfl rfl) rfl rfl ?_
              obtain ⟨x532360, hx532360, ho532331⟩ := bnd ho532331
              have hn532361 := idx_lt hc532357.1 hx532360
              refine dq rfl (fun _ _ => Q_idxA hn532361.1 hn532361.2 Tryz.underlying87 ty3 rfl rfl) rfl rfl ?_
              obtain ⟨c532362, hc532363, ha532364, _⟩ := arrR hc532357 ha532358 hx532360
              refine dq (v := .int .i64 x532360) rfl (fun _ hw => Q_ld (show cellsAt _ _ _ [.int .i64 x532360] from (show _ = [_] from hc532363) ▸ (ha532364.up hw.view)) ty3 rfl (fun _ => rfl) rfl rfl) rfl rfl ?_
              obtain ⟨x532365, hx532365, ho532331⟩ := bnd ho532331
              obtain ⟨b532366, o532367, hi532368, ha532369⟩ := inn_at (by decide) (H.okS (l := [NA (eI .i64) 1 v270979 c532020 x532021]) (by simp)) hu532349 hj532352 hx532365
              refine dq rfl (fun _ _ => Q_idx hi532368 Tryz.underlying23 ty3 rfl rfl) rfl rfl <| dq (v := .int .i64 x532365) rfl (fun _ hw => Q_ld (show cellsAt _ _ _ [.int .i64 x532365] from match ha532369 _ (Ok.subS (by simp) hw) with | ⟨_, rfl, h⟩ => h) ty3 rfl (fun _ => rfl) rfl rfl) rfl rfl <| dq rfl (fun _ _ => Q_move rfl) rfl rfl <| dq rfl (fun _ _ => Q_sub rfl rfl) rfl rfl <| dq rfl (fun _ _ => Q_eql rfl rfl) rfl rfl <| DL_nil <| x_then ?_
              obtain ⟨o532390, ho532390, ho532331⟩ := bnd ho532331
              refine C_cutQ (fun a w' => ∃ (c532388 : (List Value)) (x532387 : Bool) (x532389 : (List (List Int))), (x532387, x532389) = o532390 ∧ Fr 141 a [(3, .pointer (some ⟨b266220, 0, none⟩)), (4, .pointer (some ⟨b266222, 0, none⟩)), (7, v270979), (11, .int .i64 x446853), (12, .bool x532387), (13, .int .i64 x518157), (14, .int .i64 x530040), (15, .int .i64 x532019), (83, .int .i64 (x2.length : Int)), (84, .int .i64 x518157), (89, .int .i64 (x11.length : Int)), (90, .int .i64 x530040)] ∧ Hp C w' ρ (Box b266220 [v1, v4, v7] :: Box b266222 [v10, v13, v16] :: NA (eI .i64) 1 v270979 c532388 x532389 :: hs)) ?_ ?_
              ·refine C_cond rfl (fun hb => ?_) (fun hb => ?_)
               ·replace ho532390 := itT hb ho532390
                refine C_seq <| R_nd <| nq (Q_move rfl) rfl rfl <| nq (Q_move rfl) rfl rfl ?_
                obtain ⟨x532391, hx532391, ho532390⟩ := bnd ho532390
                obtain ⟨b532392, o532393, u532395, hi532394, hu532396, ha532397, hl532398, hj532399⟩ := na_at1 (by decide) (H.okS (l := [NA (eI .i64) 1 v270979 c532020 x532021]) (by simp)) hx532391
                refine nq (Q_idx hi532394 Tryz.underlying171 ty23 rfl rfl) rfl rfl <| nq (v := u532395) (Q_ld (ha532397 _ (Ok.subS (by simp) H.ok)) ty23 rfl (fun _ => rfl) rfl rfl) rfl rfl <| nq (Q_move rfl) rfl rfl <| nq (Q_move rfl) rfl rfl ?_
                obtain ⟨x532400, hx532400, ho532390⟩ := bnd ho532390
                obtain ⟨b532401, o532402, hi532403, ha532404⟩ := inn_at (by decide) (H.okS (l := [NA (eI .i64) 1 v270979 c532020 x532021]) (by simp)) hu532396 hj532399 hx532400
                refine nq (Q_idx hi532403 Tryz.underlying23 ty3 rfl rfl) rfl rfl ?_
                replace H := H.f2
                obtain ⟨x532405, hx532405, ho532390⟩ := bnd ho532390
                obtain ⟨x532406, hx532406, ho532390⟩ := bnd ho532390
                refine ne (E_stI1 (flat_I _) H hu532396 hj532399 ty3 rfl hi532403 rfl rfl rfl (show ((eI .i64)).rd _ _ _ from rfl) hx532405 hx532406) rfl rfl ?_
                rintro _ wd532407 H
                refine WL_nil <| x_then <| R_nd <| nq (Q_assign rfl) rfl rfl <| WL_nil ?_
                replace H := H.f2.f2
                obtain rfl := Option.some.inj ho532390
                refine x_A fun a hf => ⟨c532020, true, x532406, rfl, hf.sub ⟨rfl, rfl, rfl, rfl, rfl, rfl, rfl, rfl, rfl, rfl, rfl, rfl, trivial⟩, H⟩
               ·replace ho532390 := itF hb ho532390
                refine C_skip ?_
                obtain rfl := Option.some.inj ho532390
                refine x_A fun a hf => ⟨c532020, x532018, x532021, rfl, hf.sub ⟨rfl, rfl, rfl, rfl, rfl, rfl, rfl, rfl, rfl, rfl, rfl, rfl, trivial⟩, H⟩
              ·rintro a wd532408 ⟨c532388, x532387, x532389, rfl, hf, H⟩
               try dsimp only at ho532331
               refine XX.at hf <| x_block ?_
               obtain rfl := Option.some.inj ho532331
               refine x_A fun a hf => ⟨c532388, x532387, x532389, rfl, hf.sub ⟨rfl, rfl, rfl, rfl, rfl, rfl, rfl, rfl, rfl, rfl, rfl, rfl, trivial⟩, H⟩
             ·rintro a wd532409 ⟨c532329, x532328, x532330, rfl, hf, H⟩
              try dsimp only at hB532217
              refine CW.at hf <| R_nd <| nq (Q_move rfl) rfl rfl <| nq (Q_add rfl rfl) rfl rfl <| nq (Q_assign rfl) rfl rfl <| WL_nil ?_
              obtain rfl := Option.some.inj hB532217
              refine x_A fun a hf => ⟨_, rfl, c532329, x532328, w64 (x532019 + 1), x532330, rfl, hf.sub ⟨rfl, rfl, rfl, rfl, rfl, rfl, rfl, rfl, rfl, rfl, rfl, rfl, trivial⟩, H⟩
            ·replace hB532217 := itF hb hB532217
             refine C_exit <| x_then_exit <| x_then_exit <| x_block_exit ?_
             obtain rfl := Option.some.inj hB532217
             obtain rfl := hO532218 _ rfl
             refine x_A fun a hf => ⟨c532020, x532018, x532021, rfl, hf.sub ⟨rfl, rfl, rfl, rfl, rfl, rfl, rfl, rfl, rfl, rfl, trivial⟩, H⟩
         ·rintro a wd532410 ⟨c531819, x531818, x531820, rfl, hf, H⟩
          try dsimp only at hB531227
          refine XX.at hf <| x_block <| x_then <| R_nd <| nq (Q_add rfl rfl) rfl rfl <| nq (Q_move rfl) rfl rfl <| WL_nil ?_
          obtain rfl := Option.some.inj hB531227
          refine x_A fun a hf => ⟨_, rfl, c531819, x531818, x531820, w64 (x530040 + 1), rfl, hf.sub ⟨rfl, rfl, rfl, rfl, rfl, rfl, rfl, rfl, rfl, rfl, trivial⟩, H⟩
        ·replace hB531227 := itF hb hB531227
         refine C_exit <| x_then_exit <| x_then_exit <| x_block_exit ?_
         obtain rfl := Option.some.inj hB531227
         obtain rfl := hO531228 _ rfl
         refine x_A fun a hf => ⟨c530038, x530037, x530039, rfl, hf.sub ⟨rfl, rfl, rfl, rfl, rfl, rfl, rfl, trivial⟩, H⟩
      ·rintro a wd532411 ⟨c528849, x528848, x528850, rfl, hf, H⟩
       try dsimp only at hB525286
       refine XX.at hf <| x_block <| x_then <| R_nd <| nq (Q_add rfl rfl) rfl rfl <| nq (Q_move rfl) rfl rfl <| WL_nil ?_
       obtain rfl := Option.some.inj hB525286
       refine x_A fun a hf => ⟨_, rfl, c528849, x528848, x528850, w64 (x518157 + 1), rfl, hf.sub ⟨rfl, rfl, rfl, rfl, rfl, rfl, rfl, trivial⟩, H⟩
     ·replace hB525286 := itF hb hB525286
      refine C_exit <| x_then_exit <| x_then_exit <| x_block_exit ?_
      obtain rfl := Option.some.inj hB525286
      obtain rfl := hO525287 _ rfl
      refine x_A fun a hf => ⟨c518155, x518154, x518156, rfl, hf.sub ⟨rfl, rfl, rfl, rfl, rfl, trivial⟩, H⟩
   ·rintro a wd532412 ⟨c511024, x511023, x511025, rfl, hf, H⟩
    try dsimp only at hB489635
    refine XX.at hf <| x_then <| C_seq <| R_nd <| nq (Q_move rfl) rfl rfl <| nq (Q_not rfl) rfl rfl <| WL_nil <| x_then ?_
    refine C_cond rfl (fun hb => ?_) (fun hb => ?_)
    ·replace hB489635 := itT hb hB489635
     refine C_seq <| R_nd <| nq (Q_move rfl) rfl rfl <| nq (Q_assign rfl) rfl rfl <| WL_nil <| x_then <| C_ret <| x_block_ret <| x_then_ret <| x_then_ret <| x_block_ret ?_
     replace H := H.e1.e0
     obtain rfl := Option.some.inj hB489635
     obtain rfl := hO489636 _ rfl
     exact fn_ret (l := [.tmp 6]) (vs := [v270979]) rfl rfl rfl ⟨v270979, c511024, x511025, rfl, rfl, H⟩
    ·replace hB489635 := itF hb hB489635
     refine C_skip <| x_block <| x_then <| R_nd <| nq (Q_move rfl) rfl rfl <| nq (Q_add rfl rfl) rfl rfl <| nq (Q_assign rfl) rfl rfl <| WL_nil ?_
     obtain rfl := Option.some.inj hB489635
     refine x_A fun a hf => ⟨_, rfl, c511024, w64 (x446853 + 1), x511025, rfl, hf.sub ⟨rfl, rfl, rfl, rfl, trivial⟩, H⟩
theorem c_105 {N : Nat} {C : Cx} {w : World} {ρ : View} {hs : List Hl} {gV : Nat → Value} {v1 : Value} {v4 : Value} {v7 : Value} {x2 : (List (List Int))} {x5 : (List Int)} {x8 : (List Int)} {x10 : Int} (H : Hp C w ρ (hs)) (_gle : GErrs ρ 394 errIds gV) (_r3 : RdSl ρ (eA 256 (eI .i64)) v1 x2) (_r6 : RdSl ρ (eI .i64) v4 x5) (r9 : RdSl ρ (eI .i64) v7 x8) {r : Int} (hF : F_dofferref21_entry N x2 x5 x8 x10 = some r) :
  Calls Tryz.prog 105 [.agg #[v1, v4, v7], .int .i64 x10].toArray w (Rets (fun v w' => (∃ (x23 : Int), x23 = r ∧ .int .i64 x23 = v ∧ Hp C w' ρ (hs)))) := by
 unfold F_dofferref21_entry at hF
 have h0 : Tryz.f105.body = some _ := rfl
 refine fn_calls' Tryz.func105 h0 (n := 19) rfl (by simp) <| C_seq <| R_nd <| ne (E_box H (vs := [v1, v4, v7]) rfl rfl) rfl rfl ?_
 rintro _ wd25 ⟨b24, rfl, H⟩
 refine nq (Q_assign rfl) rfl rfl <| WL_nil <| x_then <| C_seq ?_
 obtain ⟨o27, ho27, hF⟩ := bnd hF
 refine C_cut (fun a w' => ∃ (x26 : Bool), x26 = o27 ∧ Fr 19 a [(1, .int .i64 x10), (2, .pointer (some ⟨b24, 0, none⟩)), (13, .bool x26)] ∧ Hp C w' ρ (Box b24 [v1, v4, v7] :: hs)) ?_ ?_
 ·refine R_nd <| nq (Q_move rfl) rfl rfl <| nq (Q_lss rfl rfl) rfl rfl <| nq (Q_move rfl) rfl rfl ?_
  rcases Bool.eq_false_or_eq_true (decide (x10 < 0)) with hb | hb
  ·rw [hb]
   replace ho27 := itT hb ho27
   refine gs rfl rfl rfl rfl <| gs rfl rfl rfl rfl <| gs rfl rfl rfl rfl <| gs rfl rfl rfl rfl <| gs rfl rfl rfl rfl <| nq (Q_pickT rfl rfl) rfl rfl <| WL_nil ?_
   obtain rfl := Option.some.inj ho27
   refine x_A fun a hf => ⟨true, rfl, hf.sub ⟨rfl, rfl, rfl, trivial⟩, H⟩
  ·rw [hb]
   replace ho27 := itF hb ho27
   refine gq (Q_move rfl) rfl rfl rfl <| gq (v := .pointer (some ⟨b24, 2, none⟩)) (Q_fld Tryz.underlying81 rfl ty23 (by decide) rfl rfl) rfl rfl rfl <| gq (v := v7) (Q_ldB (k := 0) (cs := [v7]) H.ok rfl ty23 rfl rfl rfl (fun _ => rfl) rfl) rfl rfl rfl <| gq (Q_len Tryz.underlying23 rfl r9) rfl rfl rfl <| gq (Q_geq rfl rfl) rfl rfl rfl <| nq (Q_pickF rfl rfl) rfl rfl <| WL_nil ?_
   obtain rfl := Option.some.inj ho27
   refine x_A fun a hf => ⟨decide (x10 ≥ (x8.length : Int)), rfl, hf.sub ⟨rfl, rfl, rfl, trivial⟩, H⟩
 ·rintro a wd28 ⟨x26, rfl, hf, H⟩
  try dsimp only at hF
  refine CW.at hf ?_
  refine C_cond rfl (fun hb => ?_) (fun hb => ?_)
  ·replace hF := itT hb hF
   refine C_seq <| R_nd <| nq (Q_assign rfl) rfl rfl <| WL_nil <| x_then <| C_ret <| x_then_ret ?_
   replace H := H.e0
   obtain rfl := Option.some.inj hF
   exact fn_ret (l := [.tmp 4]) (vs := [.int .i64 0]) rfl rfl rfl ⟨0, rfl, rfl, H⟩
  ·replace hF := itF hb hF
   refine C_skip <| x_then <| C_seq <| R_nd <| nq (v := .pointer (some ⟨b24, 2, none⟩)) (Q_fld Tryz.underlying81 rfl ty23 (by decide) rfl rfl) rfl rfl <| nq (v := v7) (Q_ldB (k := 0) (cs := [v7]) H.ok rfl ty23 rfl rfl rfl (fun _ => rfl) rfl) rfl rfl <| nq (Q_move rfl) rfl rfl ?_
   obtain ⟨x29, hx29, hF⟩ := bnd hF
   obtain ⟨b30, o31, c32, hc33, ha34, hi35⟩ := idxR r9 hx29
   refine nq (Q_idx hi35 Tryz.underlying23 ty3 rfl rfl) rfl rfl <| nq (v := .int .i64 x29) (Q_ld (show cellsAt _ _ _ [.int .i64 x29] from (show _ = [_] from hc33) ▸ (ha34.up H.ok.view)) ty3 rfl (fun _ => rfl) rfl rfl) rfl rfl <| nq (Q_assign rfl) rfl rfl <| WL_nil <| x_then <| C_ret ?_
   replace H := H.e0
   obtain rfl := Option.some.inj hF
   exact fn_ret (l := [.tmp 4]) (vs := [.int .i64 x29]) rfl rfl rfl ⟨x29, rfl, rfl, H⟩
theorem c_53 {N : Nat} {C : Cx} {w : World} {ρ : View} {hs : List Hl} {gV : Nat → Value} {v1 : Value} {v4 : Value} {v7 : Value} {v10 : Value} {v13 : Value} {v16 : Value} {x2 : (List (List Int))} {x5 : (List Int)} {x8 : (List Int)} {x11 : (List (List Int))} {x14 : (List Int)} {x17 : (List Int)} {x19 : Int} {x20 : Int} (H : Hp C w ρ (hs)) (gle : GErrs ρ 394 errIds gV) (r3 : RdSl ρ (eA 256 (eI .i64)) v1 x2) (r6 : RdSl ρ (eI .i64) v4 x5) (r9 : RdSl ρ (eI .i64) v7 x8) (r12 : RdSl ρ (eA 256 (eI .i64)) v10 x11) (r15 : RdSl ρ (eI .i64) v13 x14) (r18 : RdSl ρ (eI .i64) v16 x17) {r : ((List Int) × Int × Int × Bool)} (hF : F_dofferref21_Way N x2 x5 x8 x11 x14 x17 x19 x20 = some r) :
  Calls Tryz.prog 53 [.agg #[v1, v4, v7], .agg #[v10, v13, v16], .int .i64 x19, .int .i64 x20].toArray w (Rets (fun v w' => (∃ (v2497 : Value) (c2498 : (List Value)) (x2499 : (List Int)) (x2501 : Int) (x2502 : Int) (x2503 : Bool), (x2499, x2501, x2502, x2503) = r ∧ .tuple [v2497, .int .i64 x2501, .int .i64 x2502, .bool x2503].toArray = v ∧ rdL (eI .u8) ρ x2499 c2498 ∧ Hp C w' ρ (Arr v2497 1 c2498 :: hs)))) := by
 unfold F_dofferref21_Way at hF
 have h0 : Tryz.f53.body = some _ := rfl
 refine fn_calls' Tryz.func53 h0 (n := 98) rfl (by simp) <| C_seq <| R_nd <| ne (E_box H (vs := [v1, v4, v7]) rfl rfl) rfl rfl ?_
 rintro _ wd2505 ⟨b2504, rfl, H⟩
 refine ne (E_box H (vs := [v10, v13, v16]) rfl rfl) rfl rfl ?_
 rintro _ wd2507 ⟨b2506, rfl, H⟩
 refine nq (Q_assign rfl) rfl rfl <| nq (Q_assign rfl) rfl rfl <| nq (Q_assign rfl) rfl rfl <| nq (Q_assign rfl) rfl rfl <| WL_nil <| x_then <| C_seq <| R_nd <| nq (v := .agg #[v1, v4, v7]) (Q_ldB (k := 1) (cs := [v1, v4, v7]) H.ok rfl ty81 rfl rfl rfl (fun h => nomatch h) rfl) rfl rfl <| nq (v := .agg #[v10, v13, v16]) (Q_ldB (k := 0) (cs := [v10, v13, v16]) H.ok rfl ty81 rfl rfl rfl (fun h => nomatch h) rfl) rfl rfl <| nq (Q_move rfl) rfl rfl ?_
 obtain ⟨q2508, hq2508, hF⟩ := bnd hF
 refine ne (E_call fn104 rfl (c_104 H gle  r3 r6 r9 r12 r15 r18 hq2508)) rfl rfl ?_
 rintro _ wd2513 ⟨v2510, c2511, x2512, rfl, rfl, H⟩
 try dsimp only at hF
 refine nq (Q_assign rfl) rfl rfl <| WL_nil <| x_then <| C_seq <| R_dr (.take 0 (.take 1 (.take 3 (.take 4 (.one 2 (.bar 5 none (.take 6 (.take 7 .done)))))))) (some 5) (S := fun w' => Ok w' ρ [NA (eI .i64) 1 v2510 c2511 x2512, Box b2506 [v10, v13, v16], Box b2504 [v1, v4, v7]]) hm0 (by kernel_rfl) (H.drew.okS (by simp)) ?_
 replace H := H.drew
 refine dq (v := .agg #[v1, v4, v7]) rfl (fun _ hw => Q_ldB (k := 2) (cs := [v1, v4, v7]) hw rfl ty81 rfl rfl rfl (fun h => nomatch h) rfl) rfl rfl <| dq rfl (fun _ _ => Q_move rfl) rfl rfl <| dq (v := .agg #[v10, v13, v16]) rfl (fun _ hw => Q_ldB (k := 1) (cs := [v10, v13, v16]) hw rfl ty81 rfl rfl rfl (fun h => nomatch h) rfl) rfl rfl <| dq rfl (fun _ _ => Q_move rfl) rfl rfl ?_
 obtain ⟨q2514, hq2514, hF⟩ := bnd hF
 refine d1 (de rfl (E_call fn105 rfl (c_105 H gle  r3 r6 r9 hq2514)) rfl rfl ?_)
 rintro _ wd2517 ⟨x2516, rfl, rfl, H⟩
 try dsimp only at hF
 refine ⟨H.okS (by simp), ?_⟩
 obtain ⟨q2518, hq2518, hF⟩ := bnd hF
 refine db rfl (E_call fn105 rfl (c_105 H gle  r12 r15 r18 hq2518)) rfl rfl ?_
 rintro _ wd2521 ⟨x2520, rfl, rfl, H⟩
 try dsimp only at hF
 refine H.okF <| dq rfl (fun _ _ => Q_assign rfl) rfl rfl <| dq rfl (fun _ _ => Q_assign rfl) rfl rfl <| DL_nil <| x_then <| C_seq <| C_seq <| R_nd <| nq (Q_move rfl) rfl rfl <| nq (Q_move rfl) rfl rfl ?_
 obtain ⟨x2522, hx2522, hF⟩ := bnd hF
 obtain ⟨b2523, o2524, u2526, hi2525, hu2527, ha2528, hl2529, hj2530⟩ := na_at1 (by decide) (H.okS (l := [NA (eI .i64) 1 v2510 c2511 x2512]) (by simp)) hx2522
 refine nq (Q_idx hi2525 Tryz.underlying171 ty23 rfl rfl) rfl rfl <| nq (v := u2526) (Q_ld (ha2528 _ (Ok.subS (by simp) H.ok)) ty23 rfl (fun _ => rfl) rfl rfl) rfl rfl <| nq (Q_move rfl) rfl rfl ?_
 obtain ⟨x2531, hx2531, hF⟩ := bnd hF
 obtain ⟨b2532, o2533, hi2534, ha2535⟩ := inn_at (by decide) (H.okS (l := [NA (eI .i64) 1 v2510 c2511 x2512]) (by simp)) hu2527 hj2530 hx2531
 refine nq (Q_idx hi2534 Tryz.underlying23 ty3 rfl rfl) rfl rfl <| nq (v := .int .i64 x2531) (Q_ld (show cellsAt _ _ _ [.int .i64 x2531] from match ha2535 _ (Ok.subS (by simp) H.ok) with | ⟨_, rfl, h⟩ => h) ty3 rfl (fun _ => rfl) rfl rfl) rfl rfl <| nq (Q_lss rfl rfl) rfl rfl <| WL_nil <| x_then ?_
 refine C_cond rfl (fun hb => ?_) (fun hb => ?_)
 ·replace hF := itT hb hF
  refine C_seq <| R_nd <| nq (Q_assign rfl) rfl rfl <| nq (Q_assign rfl) rfl rfl <| nq (Q_assign rfl) rfl rfl <| nq (Q_assign rfl) rfl rfl <| WL_nil <| x_then <| C_ret <| x_then_ret ?_
  have H := H.nilArr 1
  replace H := H.e3.e2.e1
  obtain rfl := Option.some.inj hF
  exact fn_ret (l := [.tmp 8, .tmp 9, .tmp 10, .tmp 11]) (vs := [(.slice none 0 0), .int .i64 0, .int .i64 0, .bool false]) rfl rfl rfl ⟨(.slice none 0 0), [], [], 0, 0, false, rfl, rfl, rdL.nil, H⟩
 ·replace hF := itF hb hF
  refine C_skip <| x_then <| C_seq <| R_nd <| ne (E_bslice0 H Tryz.underlying42 ty5) rfl rfl ?_
  rintro _ wd2537 ⟨b2536, rfl, H⟩
  refine nq (Q_assign rfl) rfl rfl <| WL_nil <| x_then ?_
  obtain ⟨o3754, ho3754, hF⟩ := bnd hF
  refine C_cut (fun a w' => ∃ (v3750 : Value) (c3751 : (List Value)) (x3748 : Int) (x3749 : Int) (x3752 : (List Int)), (x3748, x3749, x3752) = o3754 ∧ rdL (eI .u8) ρ x3752 c3751 ∧ Fr 98 a [(4, .pointer (some ⟨b2504, 0, none⟩)), (5, .pointer (some ⟨b2506, 0, none⟩)), (13, .int .i64 x3748), (14, .int .i64 x3749), (15, v3750)] ∧ Hp C w' ρ (Arr v3750 1 c3751 :: Box b2504 [v1, v4, v7] :: Box b2506 [v10, v13, v16] :: hs)) ?_ ?_
  ·refine C_block ?_
   replace H := H.f3.f1.f2
   refine C_iter (f := fun s => F_dofferref21_Way_l0 N x2 x11 x2512 s.1 s.2.1 s.2.2) ho3754 (fun s a w' => ∃ (v4159 : Value) (c4160 : (List Value)) (x4157 : Int) (x4158 : Int) (x4161 : (List Int)), (x4157, x4158, x4161) = s ∧ rdL (eI .u8) ρ x4161 c4160 ∧ Fr 98 a [(4, .pointer (some ⟨b2504, 0, none⟩)), (5, .pointer (some ⟨b2506, 0, none⟩)), (12, v2510), (13, .int .i64 x4157), (14, .int .i64 x4158), (15, v4159)] ∧ Hp C w' ρ (NA (eI .i64) 1 v2510 c2511 x2512 :: Arr v4159 1 c4160 :: Box b2504 [v1, v4, v7] :: Box b2506 [v10, v13, v16] :: hs)) ?_ ?_
   ·exact fun a hf => ⟨(.slice (some ⟨b2536, 0, none⟩) 0 0), [], x2516, x2520, [], rfl, rdL.nil, hf.sub ⟨rfl, rfl, rfl, rfl, rfl, rfl, trivial⟩, H⟩
   ·rintro s o4565 a wd4568 ⟨v4159, c4160, x4157, x4158, x4161, rfl, r4162, hf, H⟩ hB4566 hO4567
    replace hB4566 : F_dofferref21_Way_l0 N x2 x11 x2512 x4157 x4158 x4161 = some o4565 := hB4566
    unfold F_dofferref21_Way_l0 at hB4566
    refine CW.at hf <| C_seq <| C_seq <| R_nd <| nq (Q_move rfl) rfl rfl <| nq (Q_move rfl) rfl rfl ?_
    obtain ⟨x4569, hx4569, hB4566⟩ := bnd hB4566
    obtain ⟨b4570, o4571, u4573, hi4572, hu4574, ha4575, hl4576, hj4577⟩ := na_at1 (by decide) (H.okS (l := [NA (eI .i64) 1 v2510 c2511 x2512]) (by simp)) hx4569
    refine nq (Q_idx hi4572 Tryz.underlying171 ty23 rfl rfl) rfl rfl <| nq (v := u4573) (Q_ld (ha4575 _ (Ok.subS (by simp) H.ok)) ty23 rfl (fun _ => rfl) rfl rfl) rfl rfl <| nq (Q_move rfl) rfl rfl ?_
    obtain ⟨x4578, hx4578, hB4566⟩ := bnd hB4566
    obtain ⟨b4579, o4580, hi4581, ha4582⟩ := inn_at (by decide) (H.okS (l := [NA (eI .i64) 1 v2510 c2511 x2512]) (by simp)) hu4574 hj4577 hx4578
    refine nq (Q_idx hi4581 Tryz.underlying23 ty3 rfl rfl) rfl rfl <| nq (v := .int .i64 x4578) (Q_ld (show cellsAt _ _ _ [.int .i64 x4578] from match ha4582 _ (Ok.subS (by simp) H.ok) with | ⟨_, rfl, h⟩ => h) ty3 rfl (fun _ => rfl) rfl rfl) rfl rfl <| nq (Q_gtr rfl rfl) rfl rfl <| WL_nil <| x_then ?_
    refine C_cond rfl (fun hb => ?_) (fun hb => ?_)
    ·replace hB4566 := itT hb hB4566
     refine C_skip <| x_then <| C_block <| C_seq <| R_nd <| nq (Q_assign rfl) rfl rfl <| WL_nil <| x_then ?_
     obtain ⟨o4776, ho4776, hB4566⟩ := bnd hB4566
     refine C_cutQ (fun a w' => ∃ (v4772 : Value) (c4773 : (List Value)) (x4770 : Int) (x4771 : Int) (x4774 : (List Int)), (x4770, x4771, x4774) = o4776 ∧ rdL (eI .u8) ρ x4774 c4773 ∧ Fr 98 a [(4, .pointer (some ⟨b2504, 0, none⟩)), (5, .pointer (some ⟨b2506, 0, none⟩)), (12, v2510), (13, .int .i64 x4770), (14, .int .i64 x4771), (15, v4772)] ∧ Hp C w' ρ (NA (eI .i64) 1 v2510 c2511 x2512 :: Arr v4772 1 c4773 :: Box b2504 [v1, v4, v7] :: Box b2506 [v10, v13, v16] :: hs)) ?_ ?_
     ·refine C_block ?_
      refine C_iter (f := fun s => F_dofferref21_Way_l1 N x2 x11 x2512 x4157 x4158 x4161 s) ho4776 (fun s a w' => ∃ (x4838 : Int), x4838 = s ∧ Fr 98 a [(4, .pointer (some ⟨b2504, 0, none⟩)), (5, .pointer (some ⟨b2506, 0, none⟩)), (12, v2510), (13, .int .i64 x4157), (14, .int .i64 x4158), (15, v4159), (16, .int .i64 x4838)] ∧ Hp C w' ρ (NA (eI .i64) 1 v2510 c2511 x2512 :: Arr v4159 1 c4160 :: Box b2504 [v1, v4, v7] :: Box b2506 [v10, v13, v16] :: hs)) ?_ ?_
      ·exact fun a hf => ⟨0, rfl, hf.sub ⟨rfl, rfl, rfl, rfl, rfl, rfl, rfl, trivial⟩, H⟩
      ·rintro s o4900 a wd4903 ⟨x4838, rfl, hf, H⟩ hB4901 hO4902
       replace hB4901 : F_dofferref21_Way_l1 N x2 x11 x2512 x4157 x4158 x4161 x4838 = some o4900 := hB4901
       unfold F_dofferref21_Way_l1 at hB4901
       refine CW.at hf <| C_seq <| C_seq <| R_nd <| nq (Q_move rfl) rfl rfl <| nq (Q_lss rfl rfl) rfl rfl <| WL_nil <| x_then ?_
       refine C_cond rfl (fun hb => ?_) (fun hb => ?_)
       ·replace hB4901 := itT hb hB4901
        refine C_skip <| x_then <| C_seq <| C_block <| C_seq <| H.dr (.take 0 (.take 1 (.take 2 (.take 3 (.take 4 (.take 5 (.take 6 (.take 7 (.take 8 (.take 9 (.take 10 (.take 11 (.take 12 (.take 13 (.take 14 (.take 15 .done)))))))))))))))) none hm0 (by kernel_rfl) ?_
        replace H := H.drew
        refine dq (v := .pointer (some ⟨b2504, 0, none⟩)) rfl (fun _ _ => Q_fld Tryz.underlying81 rfl ty79 (by decide) rfl rfl) rfl rfl <| dq (v := v1) rfl (fun _ hw => Q_ldB (k := 2) (cs := [v1]) hw rfl ty79 rfl rfl rfl (fun _ => rfl) rfl) rfl rfl <| dq rfl (fun _ _ => Q_move rfl) rfl rfl <| dq rfl (fun _ _ => Q_move rfl) rfl rfl ?_
        obtain ⟨x4904, hx4904, hB4901⟩ := bnd hB4901
        obtain ⟨b4905, o4906, c4907, hc4908, ha4909, hi4910⟩ := idxR r3 hx4904
        refine dq rfl (fun _ _ => Q_idx hi4910 Tryz.underlying79 ty87 rfl rfl) rfl rfl ?_
        obtain ⟨x4911, hx4911, hB4901⟩ := bnd hB4901
        have hn4912 := idx_lt hc4908.1 hx4911
        refine dq rfl (fun _ _ => Q_idxA hn4912.1 hn4912.2 Tryz.underlying87 ty3 rfl rfl) rfl rfl ?_
        obtain ⟨c4913, hc4914, ha4915, _⟩ := arrR hc4908 ha4909 hx4911
        refine dq (v := .int .i64 x4911) rfl (fun _ hw => Q_ld (show cellsAt _ _ _ [.int .i64 x4911] from (show _ = [_] from hc4914) ▸ (ha4915.up hw.view)) ty3 rfl (fun _ => rfl) rfl rfl) rfl rfl <| dq (v := .pointer (some ⟨b2506, 0, none⟩)) rfl (fun _ _ => Q_fld Tryz.underlying81 rfl ty79 (by decide) rfl rfl) rfl rfl <| dq (v := v10) rfl (fun _ hw => Q_ldB (k := 3) (cs := [v10]) hw rfl ty79 rfl rfl rfl (fun _ => rfl) rfl) rfl rfl <| dq rfl (fun _ _ => Q_move rfl) rfl rfl <| dq rfl (fun _ _ => Q_move rfl) rfl rfl ?_
        obtain ⟨x4916, hx4916, hB4901⟩ := bnd hB4901
        obtain ⟨b4917, o4918, c4919, hc4920, ha4921, hi4922⟩ := idxR r12 hx4916
        refine dq rfl (fun _ _ => Q_idx hi4922 Tryz.underlying79 ty87 rfl rfl) rfl rfl ?_
        obtain ⟨x4923, hx4923, hB4901⟩ := bnd hB4901
        have hn4924 := idx_lt hc4920.1 hx4923
        refine dq rfl (fun _ _ => Q_idxA hn4924.1 hn4924.2 Tryz.underlying87 ty3 rfl rfl) rfl rfl ?_
        obtain ⟨c4925, hc4926, ha4927, _⟩ := arrR hc4920 ha4921 hx4923
        refine dq (v := .int .i64 x4923) rfl (fun _ hw => Q_ld (show cellsAt _ _ _ [.int .i64 x4923] from (show _ = [_] from hc4926) ▸ (ha4927.up hw.view)) ty3 rfl (fun _ => rfl) rfl rfl) rfl rfl <| dq rfl (fun _ _ => Q_assign rfl) rfl rfl <| dq rfl (fun _ _ => Q_assign rfl) rfl rfl <| DL_nil <| x_then <| C_seq <| H.dr (.take 0 (.take 1 (.take 2 (.take 3 (.take 4 (.take 5 (.take 6 (.take 7 (.take 8 (.take 9 (.take 10 (.take 11 (.take 12 (.take 13 (.take 14 (.take 15 .done)))))))))))))))) none hm0 (by kernel_rfl) ?_
        replace H := H.drew
        refine dq rfl (fun _ _ => Q_move rfl) rfl rfl <| dq rfl (fun _ _ => Q_move rfl) rfl rfl ?_
        obtain ⟨x4928, hx4928, hB4901⟩ := bnd hB4901
        obtain ⟨b4929, o4930, u4932, hi4931, hu4933, ha4934, hl4935, hj4936⟩ := na_at1 (by decide) (H.okS (l := [NA (eI .i64) 1 v2510 c2511 x2512]) (by simp)) hx4928
        refine dq rfl (fun _ _ => Q_idx hi4931 Tryz.underlying171 ty23 rfl rfl) rfl rfl <| dq (v := u4932) rfl (fun _ hw => Q_ld (ha4934 _ (Ok.subS (by simp) hw)) ty23 rfl (fun _ => rfl) rfl rfl) rfl rfl <| dq rfl (fun _ _ => Q_move rfl) rfl rfl ?_
        obtain ⟨x4937, hx4937, hB4901⟩ := bnd hB4901
        obtain ⟨b4938, o4939, hi4940, ha4941⟩ := inn_at (by decide) (H.okS (l := [NA (eI .i64) 1 v2510 c2511 x2512]) (by simp)) hu4933 hj4936 hx4937
        refine dq rfl (fun _ _ => Q_idx hi4940 Tryz.underlying23 ty3 rfl rfl) rfl rfl <| dq (v := .int .i64 x4937) rfl (fun _ hw => Q_ld (show cellsAt _ _ _ [.int .i64 x4937] from match ha4941 _ (Ok.subS (by simp) hw) with | ⟨_, rfl, h⟩ => h) ty3 rfl (fun _ => rfl) rfl rfl) rfl rfl <| dq rfl (fun _ _ => Q_move rfl) rfl rfl <| dq rfl (fun _ _ => Q_move rfl) rfl rfl ?_
        obtain ⟨x4942, hx4942, hB4901⟩ := bnd hB4901
        obtain ⟨b4943, o4944, u4946, hi4945, hu4947, ha4948, hl4949, hj4950⟩ := na_at1 (by decide) (H.okS (l := [NA (eI .i64) 1 v2510 c2511 x2512]) (by simp)) hx4942
        refine dq rfl (fun _ _ => Q_idx hi4945 Tryz.underlying171 ty23 rfl rfl) rfl rfl <| dq (v := u4946) rfl (fun _ hw => Q_ld (ha4948 _ (Ok.subS (by simp) hw)) ty23 rfl (fun _ => rfl) rfl rfl) rfl rfl <| dq rfl (fun _ _ => Q_move rfl) rfl rfl ?_
        obtain ⟨x4951, hx4951, hB4901⟩ := bnd hB4901
        obtain ⟨b4952, o4953, hi4954, ha4955⟩ := inn_at (by decide) (H.okS (l := [NA (eI .i64) 1 v2510 c2511 x2512]) (by simp)) hu4947 hj4950 hx4951
        refine dq rfl (fun _ _ => Q_idx hi4954 Tryz.underlying23 ty3 rfl rfl) rfl rfl <| dq (v := .int .i64 x4951) rfl (fun _ hw => Q_ld (show cellsAt _ _ _ [.int .i64 x4951] from match ha4955 _ (Ok.subS (by simp) hw) with | ⟨_, rfl, h⟩ => h) ty3 rfl (fun _ => rfl) rfl rfl) rfl rfl <| dq rfl (fun _ _ => Q_sub rfl rfl) rfl rfl <| dq rfl (fun _ _ => Q_eql rfl rfl) rfl rfl <| DL_nil <| x_then ?_
        refine C_cond rfl (fun hb => ?_) (fun hb => ?_)
        ·replace hB4901 := itT hb hB4901
         refine C_seq <| R_nd <| nq (Q_move rfl) rfl rfl <| nq (Q_move rfl) rfl rfl <| nq (Q_cvI ⟨_, Tryz.underlying3⟩ Tryz.underlying5 rfl) rfl rfl <| ne (E_bslice (xs := [.tmp 82]) (vs := [.int .u8 (IntKind.wrap .u8 x4838)]) H Tryz.underlying42 ty5 (by decide) (cs := [.int .u8 (IntKind.wrap .u8 x4838)]) rfl (sz_cons rfl sz_nil) rfl (by simp) (by simp) rfl rfl) rfl rfl ?_
         rintro _ wd4957 ⟨b4956, rfl, H⟩
         obtain ⟨x4958, hx4958, hB4901⟩ := bnd hB4901
         obtain ⟨ha4959a, ha4959b⟩ := app_some hx4958
         have r4961 : rdL (eI .u8) ρ x4958 (c4160 ++ ([.int .u8 (IntKind.wrap .u8 x4838)])) := ha4959b ▸ rdL.app r4162 (show rdL (eI .u8) ρ ([IntKind.wrap .u8 x4838]) ([.int .u8 (IntKind.wrap .u8 x4838)]) from ⟨([.int .u8 (IntKind.wrap .u8 x4838)]), _, rfl, rfl, rdL.nil⟩)
         refine ne (E_append (k := 2) H rfl Tryz.underlying42 ty5 rfl (by decide) (by decide) rfl rfl (Src.ofArr (k := 0) H.ok rfl) (rdL.one (show rdL (eI .u8) ρ ([IntKind.wrap .u8 x4838]) ([.int .u8 (IntKind.wrap .u8 x4838)]) from ⟨([.int .u8 (IntKind.wrap .u8 x4838)]), _, rfl, rfl, rdL.nil⟩)) (app_fit r4162 (show rdL (eI .u8) ρ ([IntKind.wrap .u8 x4838]) ([.int .u8 (IntKind.wrap .u8 x4838)]) from ⟨([.int .u8 (IntKind.wrap .u8 x4838)]), _, rfl, rfl, rdL.nil⟩) ha4959a)) rfl rfl ?_
         rintro v4960 wd4963 ⟨H, hc4962⟩
         dsimp only [List.set] at H
         refine nq (Q_assign rfl) rfl rfl <| WL_nil <| x_then <| C_seq <| R_nd <| nq (Q_move rfl) rfl rfl <| nq (Q_assign rfl) rfl rfl <| WL_nil <| x_then <| C_seq <| R_nd <| nq (Q_move rfl) rfl rfl <| nq (Q_assign rfl) rfl rfl <| WL_nil ?_
         refine x_then <| C_exit <| x_block_other rfl <| x_then_exit <| x_then_exit <| x_block_exit ?_
         replace H := H.e0
         obtain rfl := Option.some.inj hB4901
         obtain rfl := hO4902 _ rfl
         refine x_A fun a hf => ⟨v4960, (c4160 ++ ([.int .u8 (IntKind.wrap .u8 x4838)])), x4911, x4923, x4958, rfl, r4961, hf.sub ⟨rfl, rfl, rfl, rfl, rfl, rfl, trivial⟩, H⟩
        ·replace hB4901 := itF hb hB4901
         refine C_skip <| x_block <| x_then <| R_nd <| nq (Q_move rfl) rfl rfl <| nq (Q_add rfl rfl) rfl rfl <| nq (Q_assign rfl) rfl rfl <| WL_nil ?_
         obtain rfl := Option.some.inj hB4901
         refine x_A fun a hf => ⟨_, rfl, w64 (x4838 + 1), rfl, hf.sub ⟨rfl, rfl, rfl, rfl, rfl, rfl, rfl, trivial⟩, H⟩
       ·replace hB4901 := itF hb hB4901
        refine C_exit <| x_then_exit <| x_then_exit <| x_block_exit ?_
        obtain rfl := Option.some.inj hB4901
        obtain rfl := hO4902 _ rfl
        refine x_A fun a hf => ⟨v4159, c4160, x4157, x4158, x4161, rfl, r4162, hf.sub ⟨rfl, rfl, rfl, rfl, rfl, rfl, trivial⟩, H⟩
     ·rintro a wd4964 ⟨v4772, c4773, x4770, x4771, x4774, rfl, r4775, hf, H⟩
      try dsimp only at hB4566
      refine XX.at hf <| x_block ?_
      obtain rfl := Option.some.inj hB4566
      refine x_A fun a hf => ⟨_, rfl, v4772, c4773, x4770, x4771, x4774, rfl, r4775, hf.sub ⟨rfl, rfl, rfl, rfl, rfl, rfl, trivial⟩, H⟩
    ·replace hB4566 := itF hb hB4566
     refine C_exit <| x_then_exit <| x_then_exit <| x_block_exit ?_
     replace H := H.e0
     obtain rfl := Option.some.inj hB4566
     obtain rfl := hO4567 _ rfl
     refine x_A fun a hf => ⟨v4159, c4160, x4157, x4158, x4161, rfl, r4162, hf.sub ⟨rfl, rfl, rfl, rfl, rfl, trivial⟩, H⟩
  ·rintro a wd4965 ⟨v3750, c3751, x3748, x3749, x3752, rfl, r3753, hf, H⟩
   try dsimp only at hF
   refine CW.at hf <| C_seq <| H.dr (.take 0 (.take 1 (.take 2 (.take 3 (.take 4 (.take 5 (.take 6 (.take 7 (.take 8 (.take 9 (.take 10 (.take 11 (.take 12 (.take 13 (.take 14 .done))))))))))))))) none hm0 (by kernel_rfl) ?_
   replace H := H.drew
   refine dq rfl (fun _ _ => Q_move rfl) rfl rfl <| dq (v := .pointer (some ⟨b2504, 1, none⟩)) rfl (fun _ _ => Q_fld Tryz.underlying81 rfl ty23 (by decide) rfl rfl) rfl rfl <| dq (v := v4) rfl (fun _ hw => Q_ldB (k := 1) (cs := [v4]) hw rfl ty23 rfl rfl rfl (fun _ => rfl) rfl) rfl rfl <| dq rfl (fun _ _ => Q_move rfl) rfl rfl ?_
   obtain ⟨x4966, hx4966, hF⟩ := bnd hF
   obtain ⟨b4967, o4968, c4969, hc4970, ha4971, hi4972⟩ := idxR r6 hx4966
   refine dq rfl (fun _ _ => Q_idx hi4972 Tryz.underlying23 ty3 rfl rfl) rfl rfl <| dq (v := .int .i64 x4966) rfl (fun _ hw => Q_ld (show cellsAt _ _ _ [.int .i64 x4966] from (show _ = [_] from hc4970) ▸ (ha4971.up hw.view)) ty3 rfl (fun _ => rfl) rfl rfl) rfl rfl <| dq (v := .pointer (some ⟨b2506, 1, none⟩)) rfl (fun _ _ => Q_fld Tryz.underlying81 rfl ty23 (by decide) rfl rfl) rfl rfl <| dq (v := v13) rfl (fun _ hw => Q_ldB (k := 2) (cs := [v13]) hw rfl ty23 rfl rfl rfl (fun _ => rfl) rfl) rfl rfl <| dq rfl (fun _ _ => Q_move rfl) rfl rfl ?_
   obtain ⟨x4973, hx4973, hF⟩ := bnd hF
   obtain ⟨b4974, o4975, c4976, hc4977, ha4978, hi4979⟩ := idxR r15 hx4973
   refine dq rfl (fun _ _ => Q_idx hi4979 Tryz.underlying23 ty3 rfl rfl) rfl rfl <| dq (v := .int .i64 x4973) rfl (fun _ hw => Q_ld (show cellsAt _ _ _ [.int .i64 x4973] from (show _ = [_] from hc4977) ▸ (ha4978.up hw.view)) ty3 rfl (fun _ => rfl) rfl rfl) rfl rfl <| dq rfl (fun _ _ => Q_assign rfl) rfl rfl <| dq rfl (fun _ _ => Q_assign rfl) rfl rfl <| dq rfl (fun _ _ => Q_assign rfl) rfl rfl <| dq rfl (fun _ _ => Q_assign rfl) rfl rfl <| DL_nil <| x_then <| C_ret ?_
   replace H := H.e2.e1
   obtain rfl := Option.some.inj hF
   exact fn_ret (l := [.tmp 8, .tmp 9, .tmp 10, .tmp 11]) (vs := [v3750, .int .i64 x4966, .int .i64 x4973, .bool true]) rfl rfl rfl ⟨v3750, c3751, x3752, x4966, x4973, true, rfl, rfl, r3753, H⟩
theorem c_25 {N : Nat} {C : Cx} {w : World} {ρ : View} {hs : List Hl} {gV : Nat → Value} {v1 : Value} {v4 : Value} {x2 : (List Int)} {x5 : (List Int)} (H : Hp C w ρ (hs)) (_gle : GErrs ρ 394 errIds gV) (r3 : RdSl ρ (eI .i64) v1 x2) (r6 : RdSl ρ (eI .i64) v4 x5) {r : Bool} (hF : F_doffernum_SameInts N x2 x5 = some r) :
  Calls Tryz.prog 25 [v1, v4].toArray w (Rets (fun v w' => (∃ (x107 : Bool), x107 = r ∧ .bool x107 = v ∧ Hp C w' ρ (hs)))) := by
 unfold F_doffernum_SameInts at hF
 have h0 : Tryz.f25.body = some _ := rfl
 refine fn_calls' Tryz.func25 h0 (n := 26) rfl (by simp) <| C_seq <| R_nd <| nq (Q_assign rfl) rfl rfl <| WL_nil <| x_then <| C_seq <| C_seq <| R_nd <| nq (Q_move rfl) rfl rfl <| nq (Q_len Tryz.underlying23 rfl r3) rfl rfl <| nq (Q_move rfl) rfl rfl <| nq (Q_len Tryz.underlying23 rfl r6) rfl rfl <| nq (Q_neq rfl rfl) rfl rfl ?_
 refine WL_nil <| x_then ?_
 refine C_cond rfl (fun hb => ?_) (fun hb => ?_)
 ·replace hF := itT hb hF
  refine C_seq <| R_nd <| nq (Q_assign rfl) rfl rfl <| WL_nil <| x_then <| C_ret <| x_then_ret ?_
  obtain rfl := Option.some.inj hF
  exact fn_ret (l := [.tmp 4]) (vs := [.bool false]) rfl rfl rfl ⟨false, rfl, rfl, H⟩
 ·replace hF := itF hb hF
  refine C_skip <| x_then <| C_seq <| C_seq <| R_nd <| nq (Q_move rfl) rfl rfl <| nq (Q_len Tryz.underlying23 rfl r3) rfl rfl <| nq (Q_move rfl) rfl rfl <| WL_nil <| x_then ?_
  obtain ⟨o157, ho157, hF⟩ := bnd hF
  refine C_cutQ (fun a w' => .inl () = o157 ∧ Fr 26 a [] ∧ Hp C w' ρ (hs)) ?_ ?_
  ·refine C_block ?_
   refine C_iter (f := fun s => F_doffernum_SameInts_l0 N x2 x5 s) ho157 (fun s a w' => ∃ (x173 : Int), x173 = s ∧ Fr 26 a [(0, v1), (1, v4), (12, .int .i64 (x2.length : Int)), (13, .int .i64 x173)] ∧ Hp C w' ρ (hs)) ?_ ?_
   ·exact fun a hf => ⟨0, rfl, hf.sub ⟨rfl, rfl, rfl, rfl, trivial⟩, H⟩
   ·rintro s o189 a wd192 ⟨x173, rfl, hf, H⟩ hB190 hO191
    replace hB190 : F_doffernum_SameInts_l0 N x2 x5 x173 = some o189 := hB190
    unfold F_doffernum_SameInts_l0 at hB190
    refine CW.at hf <| C_seq <| R_nd <| nq (Q_lss rfl rfl) rfl rfl <| WL_nil <| x_then <| C_seq ?_
    refine C_cond rfl (fun hb => ?_) (fun hb => ?_)
    ·replace hB190 := itT hb hB190
     refine C_skip <| x_then <| C_seq <| C_block <| C_seq <| R_nd <| nq (Q_move rfl) rfl rfl <| nq (Q_assign rfl) rfl rfl <| WL_nil <| x_then <| C_seq <| H.dr (.take 0 (.take 1 (.take 2 (.take 3 (.take 4 (.take 5 (.take 6 (.take 7 (.take 8 .done))))))))) none hm0 (by kernel_rfl) ?_
     replace H := H.drew
     refine dq rfl (fun _ _ => Q_move rfl) rfl rfl <| dq rfl (fun _ _ => Q_move rfl) rfl rfl ?_
     obtain ⟨x193, hx193, hB190⟩ := bnd hB190
     obtain ⟨b194, o195, c196, hc197, ha198, hi199⟩ := idxR r3 hx193
     refine dq rfl (fun _ _ => Q_idx hi199 Tryz.underlying23 ty3 rfl rfl) rfl rfl <| dq (v := .int .i64 x193) rfl (fun _ hw => Q_ld (show cellsAt _ _ _ [.int .i64 x193] from (show _ = [_] from hc197) ▸ (ha198.up hw.view)) ty3 rfl (fun _ => rfl) rfl rfl) rfl rfl <| dq rfl (fun _ _ => Q_move rfl) rfl rfl <| dq rfl (fun _ _ => Q_move rfl) rfl rfl ?_
     obtain ⟨x200, hx200, hB190⟩ := bnd hB190
     obtain ⟨b201, o202, c203, hc204, ha205, hi206⟩ := idxR r6 hx200
     refine dq rfl (fun _ _ => Q_idx hi206 Tryz.underlying23 ty3 rfl rfl) rfl rfl <| dq (v := .int .i64 x200) rfl (fun _ hw => Q_ld (show cellsAt _ _ _ [.int .i64 x200] from (show _ = [_] from hc204) ▸ (ha205.up hw.view)) ty3 rfl (fun _ => rfl) rfl rfl) rfl rfl <| dq rfl (fun _ _ => Q_neq rfl rfl) rfl rfl <| DL_nil <| x_then ?_
     refine C_cond rfl (fun hb => ?_) (fun hb => ?_)
     ·replace hB190 := itT hb hB190
      refine C_seq <| R_nd <| nq (Q_assign rfl) rfl rfl <| WL_nil <| x_then <| C_ret <| x_block_ret <| x_then_ret <| x_then_ret <| x_block_ret <| x_then_ret <| x_then_ret ?_
      obtain rfl := Option.some.inj hB190
      obtain rfl := hO191 _ rfl
      obtain rfl := Option.some.inj (show some _ = some _ from hF)
      exact fn_ret (l := [.tmp 4]) (vs := [.bool false]) rfl rfl rfl ⟨false, rfl, rfl, H⟩
     ·replace hB190 := itF hb hB190
      refine C_skip <| x_block <| x_then <| R_nd <| nq (Q_add rfl rfl) rfl rfl <| nq (Q_move rfl) rfl rfl <| WL_nil ?_
      obtain rfl := Option.some.inj hB190
      refine x_A fun a hf => ⟨_, rfl, w64 (x173 + 1), rfl, hf.sub ⟨rfl, rfl, rfl, rfl, trivial⟩, H⟩
    ·replace hB190 := itF hb hB190
     refine C_exit <| x_then_exit <| x_then_exit <| x_block_exit ?_
     obtain rfl := Option.some.inj hB190
     obtain rfl := hO191 _ rfl
     refine x_A fun a hf => ⟨rfl, hf.sub trivial, H⟩
  ·rintro a wd207 ⟨rfl, hf, H⟩
   try dsimp only at hF
   refine XX.at hf <| x_then <| C_seq <| R_nd <| nq (Q_assign rfl) rfl rfl <| WL_nil <| x_then <| C_ret ?_
   obtain rfl := Option.some.inj hF
   exact fn_ret (l := [.tmp 4]) (vs := [.bool true]) rfl rfl rfl ⟨true, rfl, rfl, H⟩
theorem c_49 {N : Nat} {C : Cx} {w : World} {ρ : View} {hs : List Hl} {gV : Nat → Value} {v1 : Value} {v4 : Value} {v7 : Value} {v10 : Value} {v13 : Value} {v16 : Value} {x2 : (List (List Int))} {x5 : (List Int)} {x8 : (List Int)} {x11 : (List (List Int))} {x14 : (List Int)} {x17 : (List Int)} (H : Hp C w ρ (hs)) (gle : GErrs ρ 394 errIds gV) (r3 : RdSl ρ (eA 256 (eI .i64)) v1 x2) (r6 : RdSl ρ (eI .i64) v4 x5) (r9 : RdSl ρ (eI .i64) v7 x8) (r12 : RdSl ρ (eA 256 (eI .i64)) v10 x11) (r15 : RdSl ρ (eI .i64) v13 x14) (r18 : RdSl ρ (eI .i64) v16 x17) {r : Bool} (hF : F_dofferref17_Same N x2 x5 x8 x11 x14 x17 = some r) :
  Calls Tryz.prog 49 [.agg #[v1, v4, v7], .agg #[v10, v13, v16]].toArray w (Rets (fun v w' => (∃ (x142 : Bool), x142 = r ∧ .bool x142 = v ∧ Hp C w' ρ (hs)))) := by
 unfold F_dofferref17_Same at hF
 have h0 : Tryz.f49.body = some _ := rfl
 refine fn_calls' Tryz.func49 h0 (n := 47) rfl (by simp) <| C_seq <| R_nd <| ne (E_box H (vs := [v1, v4, v7]) rfl rfl) rfl rfl ?_
 rintro _ wd144 ⟨b143, rfl, H⟩
 refine ne (E_box H (vs := [v10, v13, v16]) rfl rfl) rfl rfl ?_
 rintro _ wd146 ⟨b145, rfl, H⟩
 refine nq (Q_assign rfl) rfl rfl <| WL_nil <| x_then <| C_seq ?_
 obtain ⟨o156, ho156, hF⟩ := bnd hF
 refine C_cut (fun a w' => ∃ (x155 : Bool), x155 = o156 ∧ Fr 47 a [(2, .pointer (some ⟨b143, 0, none⟩)), (3, .pointer (some ⟨b145, 0, none⟩)), (28, .bool x155)] ∧ Hp C w' ρ (Box b143 [v1, v4, v7] :: Box b145 [v10, v13, v16] :: hs)) ?_ ?_
 ·refine R_nd <| nq (v := .pointer (some ⟨b143, 0, none⟩)) (Q_fld Tryz.underlying81 rfl ty79 (by decide) rfl rfl) rfl rfl <| nq (v := v1) (Q_ldB (k := 1) (cs := [v1]) H.ok rfl ty79 rfl rfl rfl (fun _ => rfl) rfl) rfl rfl <| nq (Q_len Tryz.underlying79 rfl r3) rfl rfl <| nq (v := .pointer (some ⟨b145, 0, none⟩)) (Q_fld Tryz.underlying81 rfl ty79 (by decide) rfl rfl) rfl rfl <| nq (v := v10) (Q_ldB (k := 0) (cs := [v10]) H.ok rfl ty79 rfl rfl rfl (fun _ => rfl) rfl) rfl rfl <| nq (Q_len Tryz.underlying79 rfl r12) rfl rfl <| nq (Q_neq rfl rfl) rfl rfl <| nq (Q_move rfl) rfl rfl ?_
  rcases Bool.eq_false_or_eq_true ((x2.length : Int) != (x11.length : Int)) with hb | hb
  ·rw [hb]
   replace ho156 := itT hb ho156
   refine gs rfl rfl rfl rfl <| gs rfl rfl rfl rfl <| gs rfl rfl rfl rfl <| gs rfl rfl rfl rfl <| gs rfl rfl rfl rfl <| gs rfl rfl rfl rfl <| nq (Q_pickT rfl rfl) rfl rfl <| nq (Q_move rfl) rfl rfl <| gs rfl rfl rfl rfl <| gs rfl rfl rfl rfl <| gs rfl rfl rfl rfl <| gs rfl rfl rfl rfl <| gs rfl rfl rfl rfl <| gs rfl rfl rfl rfl ?_
   refine nq (Q_pickT rfl rfl) rfl rfl <| WL_nil ?_
   replace H := H.f1
   obtain rfl := Option.some.inj ho156
   refine x_A fun a hf => ⟨true, rfl, hf.sub ⟨rfl, rfl, rfl, trivial⟩, H⟩
  ·rw [hb]
   replace ho156 := itF hb ho156
   refine gq (v := .pointer (some ⟨b143, 1, none⟩)) (Q_fld Tryz.underlying81 rfl ty23 (by decide) rfl rfl) rfl rfl rfl <| gq (v := v4) (Q_ldB (k := 1) (cs := [v4]) H.ok rfl ty23 rfl rfl rfl (fun _ => rfl) rfl) rfl rfl rfl <| gq (v := .pointer (some ⟨b145, 1, none⟩)) (Q_fld Tryz.underlying81 rfl ty23 (by decide) rfl rfl) rfl rfl rfl <| gq (v := v13) (Q_ldB (k := 0) (cs := [v13]) H.ok rfl ty23 rfl rfl rfl (fun _ => rfl) rfl) rfl rfl rfl ?_
   obtain ⟨q157, hq157, ho156⟩ := bnd ho156
   refine ge (E_call fn25 rfl (c_25 H gle  r6 r15 hq157)) rfl rfl rfl ?_
   rintro _ wd160 ⟨x159, rfl, rfl, H⟩
   try dsimp only at ho156
   refine gq (Q_not rfl) rfl rfl rfl <| nq (Q_pickF rfl rfl) rfl rfl <| nq (Q_move rfl) rfl rfl ?_
   rcases Bool.eq_false_or_eq_true (!x159) with hb | hb
   ·rw [hb]
    replace ho156 := itT hb ho156
    refine gs rfl rfl rfl rfl <| gs rfl rfl rfl rfl <| gs rfl rfl rfl rfl <| gs rfl rfl rfl rfl <| gs rfl rfl rfl rfl <| gs rfl rfl rfl rfl <| nq (Q_pickT rfl rfl) rfl rfl <| WL_nil ?_
    replace H := H.f1
    obtain rfl := Option.some.inj ho156
    refine x_A fun a hf => ⟨true, rfl, hf.sub ⟨rfl, rfl, rfl, trivial⟩, H⟩
   ·rw [hb]
    replace ho156 := itF hb ho156
    refine gq (v := .pointer (some ⟨b143, 2, none⟩)) (Q_fld Tryz.underlying81 rfl ty23 (by decide) rfl rfl) rfl rfl rfl <| gq (v := v7) (Q_ldB (k := 1) (cs := [v7]) H.ok rfl ty23 rfl rfl rfl (fun _ => rfl) rfl) rfl rfl rfl <| gq (v := .pointer (some ⟨b145, 2, none⟩)) (Q_fld Tryz.underlying81 rfl ty23 (by decide) rfl rfl) rfl rfl rfl <| gq (v := v16) (Q_ldB (k := 0) (cs := [v16]) H.ok rfl ty23 rfl rfl rfl (fun _ => rfl) rfl) rfl rfl rfl ?_
    obtain ⟨q161, hq161, ho156⟩ := bnd ho156
    refine ge (E_call fn25 rfl (c_25 H gle  r9 r18 hq161)) rfl rfl rfl ?_
    rintro _ wd164 ⟨x163, rfl, rfl, H⟩
    try dsimp only at ho156
    refine gq (Q_not rfl) rfl rfl rfl <| nq (Q_pickF rfl rfl) rfl rfl <| WL_nil ?_
    replace H := H.f1
    obtain rfl := Option.some.inj ho156
    refine x_A fun a hf => ⟨!x163, rfl, hf.sub ⟨rfl, rfl, rfl, trivial⟩, H⟩
 ·rintro a wd165 ⟨x155, rfl, hf, H⟩
  try dsimp only at hF
  refine CW.at hf ?_
  refine C_cond rfl (fun hb => ?_) (fun hb => ?_)
  ·replace hF := itT hb hF
   refine C_seq <| R_nd <| nq (Q_assign rfl) rfl rfl <| WL_nil <| x_then <| C_ret <| x_then_ret ?_
   replace H := H.e1.e0
   obtain rfl := Option.some.inj hF
   exact fn_ret (l := [.tmp 4]) (vs := [.bool false]) rfl rfl rfl ⟨false, rfl, rfl, H⟩
  ·replace hF := itF hb hF
   refine C_skip <| x_then <| C_seq <| C_seq <| R_nd <| nq (v := .pointer (some ⟨b143, 0, none⟩)) (Q_fld Tryz.underlying81 rfl ty79 (by decide) rfl rfl) rfl rfl <| nq (v := v1) (Q_ldB (k := 0) (cs := [v1]) H.ok rfl ty79 rfl rfl rfl (fun _ => rfl) rfl) rfl rfl <| nq (Q_len Tryz.underlying79 rfl r3) rfl rfl <| nq (Q_move rfl) rfl rfl <| WL_nil <| x_then ?_
   obtain ⟨o215, ho215, hF⟩ := bnd hF
   refine C_cutQ (fun a w' => .inl () = o215 ∧ Fr 47 a [] ∧ Hp C w' ρ (hs)) ?_ ?_
   ·refine C_block ?_
    refine C_iter (f := fun s => F_dofferref17_Same_l0 N x2 x11 s) ho215 (fun s a w' => ∃ (x231 : Int), x231 = s ∧ Fr 47 a [(2, .pointer (some ⟨b143, 0, none⟩)), (3, .pointer (some ⟨b145, 0, none⟩)), (31, .int .i64 (x2.length : Int)), (32, .int .i64 x231)] ∧ Hp C w' ρ (Box b143 [v1, v4, v7] :: Box b145 [v10, v13, v16] :: hs)) ?_ ?_
    ·exact fun a hf => ⟨0, rfl, hf.sub ⟨rfl, rfl, rfl, rfl, trivial⟩, H⟩
    ·rintro s o247 a wd250 ⟨x231, rfl, hf, H⟩ hB248 hO249
     replace hB248 : F_dofferref17_Same_l0 N x2 x11 x231 = some o247 := hB248
     unfold F_dofferref17_Same_l0 at hB248
     refine CW.at hf <| C_seq <| R_nd <| nq (Q_lss rfl rfl) rfl rfl <| WL_nil <| x_then <| C_seq ?_
     refine C_cond rfl (fun hb => ?_) (fun hb => ?_)
     ·replace hB248 := itT hb hB248
      refine C_skip <| x_then <| C_seq <| C_block <| C_seq <| R_nd <| nq (Q_move rfl) rfl rfl <| nq (Q_assign rfl) rfl rfl <| WL_nil <| x_then <| C_seq <| H.dr (.take 0 (.take 1 (.take 2 (.take 3 (.take 4 (.take 5 (.take 6 (.take 7 (.take 8 (.take 9 (.take 10 .done))))))))))) none hm0 (by kernel_rfl) ?_
      replace H := H.drew
      refine dq (v := .pointer (some ⟨b143, 0, none⟩)) rfl (fun _ _ => Q_fld Tryz.underlying81 rfl ty79 (by decide) rfl rfl) rfl rfl <| dq (v := v1) rfl (fun _ hw => Q_ldB (k := 0) (cs := [v1]) hw rfl ty79 rfl rfl rfl (fun _ => rfl) rfl) rfl rfl <| dq rfl (fun _ _ => Q_move rfl) rfl rfl ?_
      obtain ⟨x251, hx251, hB248⟩ := bnd hB248
      obtain ⟨b252, o253, c254, hc255, ha256, hi257⟩ := idxR r3 hx251
      refine dq rfl (fun _ _ => Q_idx hi257 Tryz.underlying79 ty87 rfl rfl) rfl rfl <| dq (v := .agg c254.toArray) rfl (fun _ hw => Q_ld (ha256.up hw.view) ty87 ((eA 256 (eI .i64)).len hc255) (fun h => nomatch h) rfl rfl) rfl rfl <| dq (v := .pointer (some ⟨b145, 0, none⟩)) rfl (fun _ _ => Q_fld Tryz.underlying81 rfl ty79 (by decide) rfl rfl) rfl rfl <| dq (v := v10) rfl (fun _ hw => Q_ldB (k := 1) (cs := [v10]) hw rfl ty79 rfl rfl rfl (fun _ => rfl) rfl) rfl rfl <| dq rfl (fun _ _ => Q_move rfl) rfl rfl ?_
      obtain ⟨x258, hx258, hB248⟩ := bnd hB248
      obtain ⟨b259, o260, c261, hc262, ha263, hi264⟩ := idxR r12 hx258
      refine dq rfl (fun _ _ => Q_idx hi264 Tryz.underlying79 ty87 rfl rfl) rfl rfl <| dq (v := .agg c261.toArray) rfl (fun _ hw => Q_ld (ha263.up hw.view) ty87 ((eA 256 (eI .i64)).len hc262) (fun h => nomatch h) rfl rfl) rfl rfl <| dq (v := .bool (x251 != x258)) rfl (fun _ _ => Q_neqA Tryz.underlying87 ty3 (by kernel_rfl) Tryz.underlying3 hc255.2 hc255.1 hc262.2 hc262.1 rfl rfl) rfl rfl <| DL_nil <| x_then ?_
      refine C_cond rfl (fun hb => ?_) (fun hb => ?_)
      ·replace hB248 := itT hb hB248
       refine C_seq <| R_nd <| nq (Q_assign rfl) rfl rfl <| WL_nil <| x_then <| C_ret <| x_block_ret <| x_then_ret <| x_then_ret <| x_block_ret <| x_then_ret <| x_then_ret ?_
       replace H := H.e1.e0
       obtain rfl := Option.some.inj hB248
       obtain rfl := hO249 _ rfl
       obtain rfl := Option.some.inj (show some _ = some _ from hF)
       exact fn_ret (l := [.tmp 4]) (vs := [.bool false]) rfl rfl rfl ⟨false, rfl, rfl, H⟩
      ·replace hB248 := itF hb hB248
       refine C_skip <| x_block <| x_then <| R_nd <| nq (Q_add rfl rfl) rfl rfl <| nq (Q_move rfl) rfl rfl <| WL_nil ?_
       obtain rfl := Option.some.inj hB248
       refine x_A fun a hf => ⟨_, rfl, w64 (x231 + 1), rfl, hf.sub ⟨rfl, rfl, rfl, rfl, trivial⟩, H⟩
     ·replace hB248 := itF hb hB248
      refine C_exit <| x_then_exit <| x_then_exit <| x_block_exit ?_
      replace H := H.e1.e0
      obtain rfl := Option.some.inj hB248
      obtain rfl := hO249 _ rfl
      refine x_A fun a hf => ⟨rfl, hf.sub trivial, H⟩
   ·rintro a wd265 ⟨rfl, hf, H⟩
    try dsimp only at hF
    refine XX.at hf <| x_then <| C_seq <| R_nd <| nq (Q_assign rfl) rfl rfl <| WL_nil <| x_then <| C_ret ?_
    obtain rfl := Option.some.inj hF
    exact fn_ret (l := [.tmp 4]) (vs := [.bool true]) rfl rfl rfl ⟨true, rfl, rfl, H⟩
set_option maxHeartbeats 8000000 in
theorem c_14 {N : Nat} {C : Cx} {w : World} {ρ : View} {hs : List Hl} {gV : Nat → Value} {v1 : Value} {v4 : Value} {v7 : Value} {v10 : Value} {v13 : Value} {v16 : Value} {x2 : (List (List Int))} {x5 : (List Int)} {x8 : (List Int)} {x11 : (List (List Int))} {x14 : (List Int)} {x17 : (List Int)} {x19 : Int} (H : Hp C w ρ (hs)) (gle : GErrs ρ 394 errIds gV) (gl18 : GTab ρ 18 .u8 tab_math_bits_deBruijn64tab) (r3 : RdSl ρ (eA 256 (eI .i64)) v1 x2) (r6 : RdSl ρ (eI .i64) v4 x5) (r9 : RdSl ρ (eI .i64) v7 x8) (r12 : RdSl ρ (eA 256 (eI .i64)) v10 x11) (r15 : RdSl ρ (eI .i64) v13 x14) (r18 : RdSl ρ (eI .i64) v16 x17) {r : Bool} (hF : F_dofferlaw21_ProductBoth N x2 x5 x8 x11 x14 x17 x19 = some r) :
  Calls Tryz.prog 14 [.agg #[v1, v4, v7], .agg #[v10, v13, v16], .int .i64 x19].toArray w (Rets (fun v w' => (∃ (ρ' : View) (x320 : Bool), x320 = r ∧ .bool x320 = v ∧ View.le ρ ρ' ∧ Hp C w' ρ' (hs)))) := by
 unfold F_dofferlaw21_ProductBoth at hF
 have h0 : Tryz.f14.body = some _ := rfl
 refine fn_calls' Tryz.func14 h0 (n := 137) rfl (by simp) <| C_seq <| R_nd <| ne (E_box H (vs := [v1, v4, v7]) rfl rfl) rfl rfl ?_
 rintro _ wd322 ⟨b321, rfl, H⟩
 refine ne (E_box H (vs := [v10, v13, v16]) rfl rfl) rfl rfl ?_
 rintro _ wd324 ⟨b323, rfl, H⟩
 refine nq (Q_assign rfl) rfl rfl <| WL_nil <| x_then <| C_seq <| C_seq <| R_nd ?_
 obtain ⟨q325, hq325, hF⟩ := bnd hF
 refine ne (E_call fn50 rfl (c_50 H gle gl18  hq325)) rfl rfl ?_
 rintro _ wd329 ⟨ρ, x327, rfl, rfl, lw328, H⟩
 try dsimp only at hF
 replace r3 := RdSl.up lw328 r3
 replace r6 := RdSl.up lw328 r6
 replace r9 := RdSl.up lw328 r9
 replace r12 := RdSl.up lw328 r12
 replace r15 := RdSl.up lw328 r15
 replace r18 := RdSl.up lw328 r18
 replace gle := GErrs.up lw328 gle
 replace gl18 := GTab.up lw328 gl18
 refine nq (Q_not rfl) rfl rfl <| WL_nil <| x_then ?_
 refine C_cond rfl (fun hb => ?_) (fun hb => ?_)
 ·replace hF := itT hb hF
  refine C_seq <| R_nd <| nq (Q_assign rfl) rfl rfl <| WL_nil <| x_then <| C_ret <| x_then_ret ?_
  replace H := H.e1.e0
  obtain rfl := Option.some.inj hF
  exact fn_ret (l := [.tmp 6]) (vs := [.bool false]) rfl rfl rfl ⟨ρ, false, rfl, rfl, lw328, H⟩
 ·replace hF := itF hb hF
  refine C_skip <| x_then <| C_seq <| R_nd <| nq (v := .agg #[v1, v4, v7]) (Q_ldB (k := 1) (cs := [v1, v4, v7]) H.ok rfl ty78 rfl rfl rfl (fun h => nomatch h) rfl) rfl rfl ?_
  obtain ⟨q330, hq330, hF⟩ := bnd hF
  refine ne (E_call fn46 rfl (c_46 H gle  r3 r6 r9 hq330)) rfl rfl ?_
  rintro _ wd337 ⟨v332, c333, x334, x335, rfl, rfl, r336, H⟩
  try dsimp only at hF
  refine nq (Q_move rfl) rfl rfl <| nq (Q_extract rfl rfl) rfl rfl <| nq (Q_extract rfl rfl) rfl rfl <| ne (E_alloc H ty81 (zs := [.slice none 0 0, .slice none 0 0, .slice none 0 0]) rfl) rfl rfl ?_
  rintro _ wd339 ⟨b338, rfl, H⟩
  refine ne (E_stB (k := 0) (cs := [v332, v4, v7]) (vs' := [v332, v4, v7]) H rfl ty81 rfl rfl rfl rfl (one_cons (arr_cells (H.ok.get (k := 1) rfl)).2 (one_cons (RdSl.one r6) (one_cons (RdSl.one r9) one_nil))) (by simp) rfl) rfl rfl ?_
  rintro _ wd340 H
  dsimp only [List.set] at H
  refine nq (Q_assign rfl) rfl rfl <| WL_nil <| x_then <| C_seq <| R_nd <| nq (v := .agg #[v10, v13, v16]) (Q_ldB (k := 2) (cs := [v10, v13, v16]) H.ok rfl ty78 rfl rfl rfl (fun h => nomatch h) rfl) rfl rfl ?_
  obtain ⟨q341, hq341, hF⟩ := bnd hF
  refine ne (E_call fn46 rfl (c_46 H gle  r12 r15 r18 hq341)) rfl rfl ?_
  rintro _ wd348 ⟨v343, c344, x345, x346, rfl, rfl, r347, H⟩
  try dsimp only at hF
  refine nq (Q_move rfl) rfl rfl <| nq (Q_extract rfl rfl) rfl rfl <| nq (Q_extract rfl rfl) rfl rfl <| ne (E_alloc H ty81 (zs := [.slice none 0 0, .slice none 0 0, .slice none 0 0]) rfl) rfl rfl ?_
  rintro _ wd350 ⟨b349, rfl, H⟩
  refine ne (E_stB (k := 0) (cs := [v343, v13, v16]) (vs' := [v343, v13, v16]) H rfl ty81 rfl rfl rfl rfl (one_cons (arr_cells (H.ok.get (k := 1) rfl)).2 (one_cons (RdSl.one r15) (one_cons (RdSl.one r18) one_nil))) (by simp) rfl) rfl rfl ?_
  rintro _ wd351 H
  dsimp only [List.set] at H
  refine nq (Q_assign rfl) rfl rfl <| WL_nil <| x_then <| C_seq ?_
  obtain ⟨o353, ho353, hF⟩ := bnd hF
  refine C_cut (fun a w' => ∃ (x352 : Bool), x352 = o353 ∧ Fr 137 a [(2, .int .i64 x19), (3, .pointer (some ⟨b321, 0, none⟩)), (4, .pointer (some ⟨b323, 0, none⟩)), (7, .pointer (some ⟨b338, 0, none⟩)), (9, .pointer (some ⟨b349, 0, none⟩)), (40, .bool x352)] ∧ Hp C w' ρ (Box b321 [v1, v4, v7] :: Box b323 [v10, v13, v16] :: Box b338 [v332, v4, v7] :: Arr v332 256 c333 :: Box b349 [v343, v13, v16] :: Arr v343 256 c344 :: hs)) ?_ ?_
  ·refine R_nd <| nq (Q_move rfl) rfl rfl <| nq (Q_not rfl) rfl rfl <| nq (Q_move rfl) rfl rfl ?_
   rcases Bool.eq_false_or_eq_true (!x335) with hb | hb
   ·rw [hb]
    replace ho353 := itT hb ho353
    refine gs rfl rfl rfl rfl <| gs rfl rfl rfl rfl <| nq (Q_pickT rfl rfl) rfl rfl <| WL_nil ?_
    replace H := H.f3.f3.f4.f5
    obtain rfl := Option.some.inj ho353
    refine x_A fun a hf => ⟨true, rfl, hf.sub ⟨rfl, rfl, rfl, rfl, rfl, rfl, trivial⟩, H⟩
   ·rw [hb]
    replace ho353 := itF hb ho353
    refine gq (Q_move rfl) rfl rfl rfl <| gq (Q_not rfl) rfl rfl rfl <| nq (Q_pickF rfl rfl) rfl rfl <| WL_nil ?_
    replace H := H.f3.f3.f4.f5
    obtain rfl := Option.some.inj ho353
    refine x_A fun a hf => ⟨!x346, rfl, hf.sub ⟨rfl, rfl, rfl, rfl, rfl, rfl, trivial⟩, H⟩
  ·rintro a wd354 ⟨x352, rfl, hf, H⟩
   try dsimp only at hF
   refine CW.at hf ?_
   refine C_cond rfl (fun hb => ?_) (fun hb => ?_)
   ·replace hF := itT hb hF
    refine C_seq <| R_nd <| nq (Q_assign rfl) rfl rfl <| WL_nil <| x_then <| C_ret <| x_then_ret ?_
    replace H := H.e5.e4.e3.e2.e1.e0
    obtain rfl := Option.some.inj hF
    exact fn_ret (l := [.tmp 6]) (vs := [.bool true]) rfl rfl rfl ⟨ρ, true, rfl, rfl, lw328, H⟩
   ·replace hF := itF hb hF
    refine C_skip <| x_then <| C_seq <| R_nd <| nq (v := .agg #[v1, v4, v7]) (Q_ldB (k := 0) (cs := [v1, v4, v7]) H.ok rfl ty78 rfl rfl rfl (fun h => nomatch h) rfl) rfl rfl <| nq (v := .agg #[v10, v13, v16]) (Q_ldB (k := 1) (cs := [v10, v13, v16]) H.ok rfl ty78 rfl rfl rfl (fun h => nomatch h) rfl) rfl rfl ?_
    obtain ⟨q355, hq355, hF⟩ := bnd hF
    refine ne (E_call fn66 rfl (c_66 H gle  r3 r6 r9 r12 r15 r18 hq355)) rfl rfl ?_
    rintro _ wd370 ⟨v357, c358, v359, c360, v361, c362, x363, x364, x365, x366, rfl, rfl, r367, r368, r369, H⟩
    try dsimp only at hF
    refine nq (Q_move rfl) rfl rfl <| nq (Q_extract rfl rfl) rfl rfl <| nq (Q_extract rfl rfl) rfl rfl <| ne (E_alloc H ty78 (zs := [.slice none 0 0, .slice none 0 0, .slice none 0 0]) rfl) rfl rfl ?_
    rintro _ wd372 ⟨b371, rfl, H⟩
    refine ne (E_stB (k := 0) (cs := [v357, v359, v361]) (vs' := [v357, v359, v361]) H rfl ty78 rfl rfl rfl rfl (one_cons (arr_cells (H.ok.get (k := 1) rfl)).2 (one_cons (arr_cells (H.ok.get (k := 2) rfl)).2 (one_cons (arr_cells (H.ok.get (k := 3) rfl)).2 one_nil))) (by simp) rfl) rfl rfl ?_
    rintro _ wd373 H
    dsimp only [List.set] at H
    refine nq (Q_assign rfl) rfl rfl <| WL_nil <| x_then <| C_seq <| R_nd <| nq (v := .agg #[v1, v4, v7]) (Q_ldB (k := 4) (cs := [v1, v4, v7]) H.ok rfl ty78 rfl rfl rfl (fun h => nomatch h) rfl) rfl rfl <| nq (v := .agg #[v10, v13, v16]) (Q_ldB (k := 5) (cs := [v10, v13, v16]) H.ok rfl ty78 rfl rfl rfl (fun h => nomatch h) rfl) rfl rfl <| nq (Q_move rfl) rfl rfl ?_
    obtain ⟨q374, hq374, hF⟩ := bnd hF
    refine ne (E_call fn67 rfl (c_67 H gle  r3 r6 r9 r12 r15 r18 hq374)) rfl rfl ?_
    rintro _ wd381 (⟨ρ, rfl, rfl, lw376, H⟩ | ⟨ρ, v377, x378, rfl, rfl, lw379, r380, H⟩)
    ·try dsimp only at hF
     replace r3 := RdSl.up lw376 r3
     replace r6 := RdSl.up lw376 r6
     replace r9 := RdSl.up lw376 r9
     replace r12 := RdSl.up lw376 r12
     replace r15 := RdSl.up lw376 r15
     replace r18 := RdSl.up lw376 r18
     replace r336 := rdL.up lw376 r336
     replace r347 := rdL.up lw376 r347
     replace r367 := rdL.up lw376 r367
     replace r368 := rdL.up lw376 r368
     replace r369 := rdL.up lw376 r369
     replace gle := GErrs.up lw376 gle
     replace gl18 := GTab.up lw376 gl18
     refine nq (Q_move rfl) rfl rfl <| nq (Q_extract rfl rfl) rfl rfl <| nq (Q_extract rfl rfl) rfl rfl <| nq (Q_assign rfl) rfl rfl <| nq (Q_assign rfl) rfl rfl <| WL_nil <| x_then <| C_seq ?_
     obtain ⟨o391, ho391, hF⟩ := bnd hF
     refine C_cut (fun a w' => ∃ (x390 : Bool), x390 = o391 ∧ Fr 137 a [(2, .int .i64 x19), (7, .pointer (some ⟨b338, 0, none⟩)), (9, .pointer (some ⟨b349, 0, none⟩)), (11, .pointer (some ⟨b371, 0, none⟩)), (12, errV errIds gV x366), (13, (.slice none 0 0)), (14, .bool false), (61, .bool x390)] ∧ Hp C w' ρ (Box b371 [v357, v359, v361] :: Arr v357 256 c358 :: Arr v359 1 c360 :: Arr v361 1 c362 :: Arr (.slice none 0 0) 1 ([]) :: Box b338 [v332, v4, v7] :: Arr v332 256 c333 :: Box b349 [v343, v13, v16] :: Arr v343 256 c344 :: hs)) ?_ ?_
     ·refine R_nd <| nq (v := .agg #[v332, v4, v7]) (Q_ldB (k := 7) (cs := [v332, v4, v7]) H.ok rfl ty81 rfl rfl rfl (fun h => nomatch h) rfl) rfl rfl ?_
      replace H := H.f8
      obtain ⟨q392, hq392, ho391⟩ := bnd ho391
      obtain ⟨C', ρ', hl393, HA, hL, hback⟩ := Hp.lend (A := []) (L := [Arr v332 256 c333]) (F := Arr (.slice none 0 0) 1 ([]) :: Box b371 [v357, v359, v361] :: Arr v357 256 c358 :: Arr v359 1 c360 :: Arr v361 1 c362 :: Box b321 [v1, v4, v7] :: Box b323 [v10, v13, v16] :: Box b338 [v332, v4, v7] :: Box b349 [v343, v13, v16] :: Arr v343 256 c344 :: hs) H
      refine ne (E_call fn52 rfl (c_52 HA (gle.up hl393)  (arr_rd (by decide) hl393 (hL (Arr v332 256 c333) (by simp)) r336) (r6.up hl393) (r9.up hl393) hq392)) rfl rfl ?_
      rintro _ wd395 ⟨x394, rfl, rfl, H⟩
      try dsimp only at ho391
      replace H := hback H
      dsimp only [List.cons_append, List.nil_append] at H
      refine nq (Q_not rfl) rfl rfl <| nq (Q_move rfl) rfl rfl ?_
      rcases Bool.eq_false_or_eq_true (!x394) with hb | hb
      ·rw [hb]
       replace ho391 := itT hb ho391
       refine gs rfl rfl rfl rfl <| gs rfl rfl rfl rfl <| gs rfl rfl rfl rfl <| nq (Q_pickT rfl rfl) rfl rfl <| WL_nil ?_
       replace H := H.e7.e6.f6.f2.f6.f6.f6.f6
       obtain rfl := Option.some.inj ho391
       refine x_A fun a hf => ⟨true, rfl, hf.sub ⟨rfl, rfl, rfl, rfl, rfl, rfl, rfl, rfl, trivial⟩, H⟩
      ·rw [hb]
       replace ho391 := itF hb ho391
       refine gq (v := .agg #[v343, v13, v16]) (Q_ldB (k := 9) (cs := [v343, v13, v16]) H.ok rfl ty81 rfl rfl rfl (fun h => nomatch h) rfl) rfl rfl rfl ?_
       replace H := H.f10
       obtain ⟨q396, hq396, ho391⟩ := bnd ho391
       obtain ⟨C', ρ', hl397, HA, hL, hback⟩ := Hp.lend (A := []) (L := [Arr v343 256 c344]) (F := Arr v332 256 c333 :: Arr (.slice none 0 0) 1 ([]) :: Box b371 [v357, v359, v361] :: Arr v357 256 c358 :: Arr v359 1 c360 :: Arr v361 1 c362 :: Box b321 [v1, v4, v7] :: Box b323 [v10, v13, v16] :: Box b338 [v332, v4, v7] :: Box b349 [v343, v13, v16] :: hs) H
       refine ge (E_call fn52 rfl (c_52 HA (gle.up hl397)  (arr_rd (by decide) hl397 (hL (Arr v343 256 c344) (by simp)) r347) (r15.up hl397) (r18.up hl397) hq396)) rfl rfl rfl ?_
       rintro _ wd399 ⟨x398, rfl, rfl, H⟩
       try dsimp only at ho391
       replace H := hback H
       dsimp only [List.cons_append, List.nil_append] at H
       refine gq (Q_not rfl) rfl rfl rfl <| nq (Q_pickF rfl rfl) rfl rfl <| WL_nil ?_
       replace H := H.e8.e7.f8.f2.f8.f4.f8.f8.f8.f8
       obtain rfl := Option.some.inj ho391
       refine x_A fun a hf => ⟨!x398, rfl, hf.sub ⟨rfl, rfl, rfl, rfl, rfl, rfl, rfl, rfl, trivial⟩, H⟩
     ·rintro a wd400 ⟨x390, rfl, hf, H⟩
      try dsimp only at hF
      refine CW.at hf ?_
      refine C_cond rfl (fun hb => ?_) (fun hb => ?_)
      ·replace hF := itT hb hF
       obtain ⟨o406, ho406, hF⟩ := bnd hF
       refine C_cut (fun a w' => ∃ (x405 : Bool), x405 = o406 ∧ Fr 137 a [(6, .bool x405)] ∧ Hp C w' ρ (hs)) ?_ ?_
       ·refine R_nd <| nq (Q_move rfl) rfl rfl ?_
        obtain ⟨q407, hq407, ho406⟩ := bnd ho406
        refine ne (E_call fn65 rfl (c_65 H gle   hq407)) rfl rfl ?_
        rintro _ wd410 ⟨x409, rfl, rfl, H⟩
        try dsimp only at ho406
        refine nq (Q_eql rfl rfl) rfl rfl <| nq (Q_move rfl) rfl rfl ?_
        rcases Bool.eq_false_or_eq_true (x409 == 4) with hb | hb
        ·rw [hb]
         replace ho406 := itT hb ho406
         refine gq (v := .pointer (some ⟨b371, 0, none⟩)) (Q_fld Tryz.underlying78 rfl ty76 (by decide) rfl rfl) rfl rfl rfl <| gq (v := v357) (Q_ldB (k := 0) (cs := [v357]) H.ok rfl ty76 rfl rfl rfl (fun _ => rfl) rfl) rfl rfl rfl <| gq (Q_lenA (k := 1) H.ok rfl r367 (by decide) Tryz.underlying76 rfl) rfl rfl rfl <| gq (Q_eql rfl rfl) rfl rfl rfl <| nq (Q_pickT rfl rfl) rfl rfl <| nq (Q_move rfl) rfl rfl ?_
         rcases Bool.eq_false_or_eq_true ((x363.length : Int) == 0) with hb | hb
         ·rw [hb]
          replace ho406 := itT hb ho406
          refine gq (Q_move rfl) rfl rfl rfl <| gq (Q_not rfl) rfl rfl rfl <| nq (Q_pickT rfl rfl) rfl rfl <| nq (Q_move rfl) rfl rfl <| gq (Q_move rfl) rfl rfl rfl <| gq (Q_lenA (en := (eI .u8)) (k := 4) H.ok rfl rdL.nil (by decide) Tryz.underlying42 rfl) rfl rfl rfl <| gq (Q_eql rfl rfl) rfl rfl rfl <| nq (Q_pickT rfl rfl) rfl rfl <| nq (Q_assign rfl) rfl rfl <| WL_nil ?_
          replace H := H.e8.e7.e6.e5.e4.e3.e2.e1.e0
          obtain rfl := Option.some.inj ho406
          refine x_A fun a hf => ⟨(([] : List Int).length : Int) == 0, rfl, hf.sub ⟨rfl, trivial⟩, H⟩
         ·rw [hb]
          replace ho406 := itF hb ho406
          refine gs rfl rfl rfl rfl <| gs rfl rfl rfl rfl <| nq (Q_pickF rfl rfl) rfl rfl <| nq (Q_move rfl) rfl rfl <| gs rfl rfl rfl rfl <| gs rfl rfl rfl rfl <| gs rfl rfl rfl rfl <| nq (Q_pickF rfl rfl) rfl rfl <| nq (Q_assign rfl) rfl rfl <| WL_nil ?_
          replace H := H.e8.e7.e6.e5.e4.e3.e2.e1.e0
          obtain rfl := Option.some.inj ho406
          refine x_A fun a hf => ⟨false, rfl, hf.sub ⟨rfl, trivial⟩, H⟩
        ·rw [hb]
         replace ho406 := itF hb ho406
         refine gs rfl rfl rfl rfl <| gs rfl rfl rfl rfl <| gs rfl rfl rfl rfl <| gs rfl rfl rfl rfl <| nq (Q_pickF rfl rfl) rfl rfl <| nq (Q_move rfl) rfl rfl <| gs rfl rfl rfl rfl <| gs rfl rfl rfl rfl <| nq (Q_pickF rfl rfl) rfl rfl <| nq (Q_move rfl) rfl rfl <| gs rfl rfl rfl rfl <| gs rfl rfl rfl rfl <| gs rfl rfl rfl rfl <| nq (Q_pickF rfl rfl) rfl rfl ?_
         refine nq (Q_assign rfl) rfl rfl <| WL_nil ?_
         replace H := H.e8.e7.e6.e5.e4.e3.e2.e1.e0
         obtain rfl := Option.some.inj ho406
         refine x_A fun a hf => ⟨false, rfl, hf.sub ⟨rfl, trivial⟩, H⟩
       ·rintro a wd411 ⟨x405, rfl, hf, H⟩
        try dsimp only at hF
        refine CW.at hf <| C_ret <| x_then_ret ?_
        obtain rfl := Option.some.inj hF
        exact fn_ret (l := [.tmp 6]) (vs := [.bool x405]) rfl rfl rfl ⟨ρ, x405, rfl, rfl, (View.le_trans lw328 lw376), H⟩
      ·replace hF := itF hb hF
       refine C_skip <| x_then <| C_seq <| R_nd <| nq (v := .agg #[v332, v4, v7]) (Q_ldB (k := 5) (cs := [v332, v4, v7]) H.ok rfl ty81 rfl rfl rfl (fun h => nomatch h) rfl) rfl rfl <| nq (v := .agg #[v343, v13, v16]) (Q_ldB (k := 7) (cs := [v343, v13, v16]) H.ok rfl ty81 rfl rfl rfl (fun h => nomatch h) rfl) rfl rfl ?_
       replace H := H.f8.f7
       obtain ⟨q412, hq412, hF⟩ := bnd hF
       obtain ⟨C', ρ', hl413, HA, hL, hback⟩ := Hp.lend (A := []) (L := [Arr v332 256 c333, Arr v343 256 c344]) (F := Box b371 [v357, v359, v361] :: Arr v357 256 c358 :: Arr v359 1 c360 :: Arr v361 1 c362 :: Arr (.slice none 0 0) 1 ([]) :: Box b338 [v332, v4, v7] :: Box b349 [v343, v13, v16] :: hs) H
       refine ne (E_call fn68 rfl (c_68 HA (gle.up hl413)  (arr_rd (by decide) hl413 (hL (Arr v332 256 c333) (by simp)) r336) (r6.up hl413) (r9.up hl413) (arr_rd (by decide) hl413 (hL (Arr v343 256 c344) (by simp)) r347) (r15.up hl413) (r18.up hl413) hq412)) rfl rfl ?_
       rintro _ wd427 ⟨v414, c415, v416, c417, v418, c419, x420, x421, x422, x423, rfl, rfl, r424, r425, r426, H⟩
       try dsimp only at hF
       replace H := hback H
       replace r424 := rdL.flat (ρ := ρ') (ρ' := ρ) (flat_A _ (flat_I _)) r424
       replace r425 := rdL.flat (ρ := ρ') (ρ' := ρ) (flat_I _) r425
       replace r426 := rdL.flat (ρ := ρ') (ρ' := ρ) (flat_I _) r426
       dsimp only [List.cons_append, List.nil_append] at H
       refine nq (Q_move rfl) rfl rfl <| nq (Q_extract rfl rfl) rfl rfl <| nq (Q_extract rfl rfl) rfl rfl <| ne (E_alloc H ty81 (zs := [.slice none 0 0, .slice none 0 0, .slice none 0 0]) rfl) rfl rfl ?_
       rintro _ wd429 ⟨b428, rfl, H⟩
       refine ne (E_stB (k := 0) (cs := [v414, v416, v418]) (vs' := [v414, v416, v418]) H rfl ty81 rfl rfl rfl rfl (one_cons (arr_cells (H.ok.get (k := 1) rfl)).2 (one_cons (arr_cells (H.ok.get (k := 2) rfl)).2 (one_cons (arr_cells (H.ok.get (k := 3) rfl)).2 one_nil))) (by simp) rfl) rfl rfl ?_
       rintro _ wd430 H
       dsimp only [List.set] at H
       refine nq (Q_assign rfl) rfl rfl <| WL_nil <| x_then <| C_seq <| R_nd <| nq (v := .agg #[v332, v4, v7]) (Q_ldB (k := 11) (cs := [v332, v4, v7]) H.ok rfl ty81 rfl rfl rfl (fun h => nomatch h) rfl) rfl rfl <| nq (v := .agg #[v343, v13, v16]) (Q_ldB (k := 12) (cs := [v343, v13, v16]) H.ok rfl ty81 rfl rfl rfl (fun h => nomatch h) rfl) rfl rfl <| nq (Q_move rfl) rfl rfl ?_
       replace H := H.f5.f5
       obtain ⟨q431, hq431, hF⟩ := bnd hF
       obtain ⟨C', ρ', hl432, HA, hL, hback⟩ := Hp.lend (A := []) (L := [Arr v332 256 c333, Arr v343 256 c344]) (F := Box b428 [v414, v416, v418] :: Arr v414 256 c415 :: Arr v416 1 c417 :: Arr v418 1 c419 :: Box b371 [v357, v359, v361] :: Arr v357 256 c358 :: Arr v359 1 c360 :: Arr v361 1 c362 :: Arr (.slice none 0 0) 1 ([]) :: Box b338 [v332, v4, v7] :: Box b349 [v343, v13, v16] :: hs) H
       refine ne (E_call fn53 rfl (c_53 HA (gle.up hl432)  (arr_rd (by decide) hl432 (hL (Arr v332 256 c333) (by simp)) r336) (r6.up hl432) (r9.up hl432) (arr_rd (by decide) hl432 (hL (Arr v343 256 c344) (by simp)) r347) (r15.up hl432) (r18.up hl432) hq431)) rfl rfl ?_
       rintro _ wd440 ⟨v433, c434, x435, x436, x437, x438, rfl, rfl, r439, H⟩
       try dsimp only at hF
       replace H := hback H
       replace r439 := rdL.flat (ρ := ρ') (ρ' := ρ) (flat_I _) r439
       dsimp only [List.cons_append, List.nil_append] at H
       refine nq (Q_move rfl) rfl rfl <| nq (Q_extract rfl rfl) rfl rfl <| nq (Q_extract rfl rfl) rfl rfl <| nq (Q_extract rfl rfl) rfl rfl <| nq (Q_extract rfl rfl) rfl rfl <| nq (Q_assign rfl) rfl rfl <| nq (Q_assign rfl) rfl rfl <| nq (Q_assign rfl) rfl rfl <| nq (Q_assign rfl) rfl rfl <| WL_nil <| x_then <| C_seq ?_
       obtain ⟨o448, ho448, hF⟩ := bnd hF
       refine C_cut (fun a w' => ∃ (x447 : Bool), x447 = o448 ∧ Fr 137 a [(11, .pointer (some ⟨b371, 0, none⟩)), (15, .pointer (some ⟨b428, 0, none⟩)), (16, .int .i64 x423), (110, .bool x447)] ∧ Hp C w' ρ (Box b371 [v357, v359, v361] :: Arr v357 256 c358 :: Arr v359 1 c360 :: Arr v361 1 c362 :: Box b428 [v414, v416, v418] :: Arr v414 256 c415 :: Arr v416 1 c417 :: Arr v418 1 c419 :: hs)) ?_ ?_
       ·refine R_nd <| nq (Q_move rfl) rfl rfl ?_
        obtain ⟨q449, hq449, ho448⟩ := bnd ho448
        refine ne (E_call fn65 rfl (c_65 H gle   hq449)) rfl rfl ?_
        rintro _ wd452 ⟨x451, rfl, rfl, H⟩
        try dsimp only at ho448
        refine nq (Q_move rfl) rfl rfl <| nq (Q_neq rfl rfl) rfl rfl <| nq (Q_move rfl) rfl rfl ?_
        rcases Bool.eq_false_or_eq_true (x451 != x423) with hb | hb
        ·rw [hb]
         replace ho448 := itT hb ho448
         refine gs rfl rfl rfl rfl <| gs rfl rfl rfl rfl <| gs rfl rfl rfl rfl <| nq (Q_pickT rfl rfl) rfl rfl <| nq (Q_move rfl) rfl rfl <| gs rfl rfl rfl rfl <| gs rfl rfl rfl rfl <| gs rfl rfl rfl rfl <| gs rfl rfl rfl rfl <| gs rfl rfl rfl rfl <| nq (Q_pickT rfl rfl) rfl rfl <| WL_nil ?_
         replace H := H.e13.e12.e11.e2.e1.e0.f7.f7.f7.f7
         obtain rfl := Option.some.inj ho448
         refine x_A fun a hf => ⟨true, rfl, hf.sub ⟨rfl, rfl, rfl, rfl, trivial⟩, H⟩
        ·rw [hb]
         replace ho448 := itF hb ho448
         refine gq (Q_move rfl) rfl rfl rfl <| gq (Q_move rfl) rfl rfl rfl <| gq (v := .bool (false != x438)) (Q_neqB Tryz.underlying4 rfl rfl) rfl rfl rfl <| nq (Q_pickF rfl rfl) rfl rfl <| nq (Q_move rfl) rfl rfl ?_
         rcases Bool.eq_false_or_eq_true (false != x438) with hb | hb
         ·rw [hb]
          replace ho448 := itT hb ho448
          refine gs rfl rfl rfl rfl <| gs rfl rfl rfl rfl <| gs rfl rfl rfl rfl <| gs rfl rfl rfl rfl <| gs rfl rfl rfl rfl <| nq (Q_pickT rfl rfl) rfl rfl <| WL_nil ?_
          replace H := H.e13.e12.e11.e2.e1.e0.f7.f7.f7.f7
          obtain rfl := Option.some.inj ho448
          refine x_A fun a hf => ⟨true, rfl, hf.sub ⟨rfl, rfl, rfl, rfl, trivial⟩, H⟩
         ·rw [hb]
          replace ho448 := itF hb ho448
          refine gq (Q_move rfl) rfl rfl rfl <| ge (E_bstrA (k := 11) H rfl rdL.nil Tryz.underlying42 Tryz.underlying5 Tryz.underlying9 rfl) rfl rfl rfl ?_
          rintro _ wd453 ⟨rfl, rfl⟩
          refine gq (Q_move rfl) rfl rfl rfl <| ge (E_bstrA (k := 0) H rfl r439 Tryz.underlying42 Tryz.underlying5 Tryz.underlying9 rfl) rfl rfl rfl ?_
          rintro _ wd454 ⟨rfl, rfl⟩
          refine gq (v := .bool ((bstr ([])).toList != (bstr x435).toList)) (Q_neqStr Tryz.underlying9 rfl rfl) rfl rfl rfl <| nq (Q_pickF rfl rfl) rfl rfl <| WL_nil ?_
          replace H := H.e13.e12.e11.e2.e1.e0.f7.f7.f7.f7
          obtain rfl := Option.some.inj ho448
          refine x_A fun a hf => ⟨(bstr ([])).toList != (bstr x435).toList, rfl, hf.sub ⟨rfl, rfl, rfl, rfl, trivial⟩, H⟩
       ·rintro a wd455 ⟨x447, rfl, hf, H⟩
        try dsimp only at hF
        refine CW.at hf ?_
        refine C_cond rfl (fun hb => ?_) (fun hb => ?_)
        ·replace hF := itT hb hF
         refine C_seq <| R_nd <| nq (Q_assign rfl) rfl rfl <| WL_nil <| x_then <| C_ret <| x_then_ret ?_
         replace H := H.e7.e6.e5.e4.e3.e2.e1.e0
         obtain rfl := Option.some.inj hF
         exact fn_ret (l := [.tmp 6]) (vs := [.bool false]) rfl rfl rfl ⟨ρ, false, rfl, rfl, (View.le_trans lw328 lw376), H⟩
        ·replace hF := itF hb hF
         refine C_skip <| x_then <| C_seq <| R_nd <| nq (v := .agg #[v357, v359, v361]) (Q_ldB (k := 0) (cs := [v357, v359, v361]) H.ok rfl ty78 rfl rfl rfl (fun h => nomatch h) rfl) rfl rfl ?_
         replace H := H.f3.f3.f3
         obtain ⟨q456, hq456, hF⟩ := bnd hF
         obtain ⟨C', ρ', hl457, HA, hL, hback⟩ := Hp.lend (A := []) (L := [Arr v357 256 c358, Arr v359 1 c360, Arr v361 1 c362]) (F := Box b371 [v357, v359, v361] :: Box b428 [v414, v416, v418] :: Arr v414 256 c415 :: Arr v416 1 c417 :: Arr v418 1 c419 :: hs) H
         refine ne (E_call fn46 rfl (c_46 HA (gle.up hl457)  (arr_rd (by decide) hl457 (hL (Arr v357 256 c358) (by simp)) r367) (arr_rd (by decide) hl457 (hL (Arr v359 1 c360) (by simp)) r368) (arr_rd (by decide) hl457 (hL (Arr v361 1 c362) (by simp)) r369) hq456)) rfl rfl ?_
         rintro _ wd463 ⟨v458, c459, x460, x461, rfl, rfl, r462, H⟩
         try dsimp only at hF
         replace H := hback H
         replace r462 := rdL.flat (ρ := ρ') (ρ' := ρ) (flat_A _ (flat_I _)) r462
         dsimp only [List.cons_append, List.nil_append] at H
         refine nq (Q_move rfl) rfl rfl <| nq (Q_extract rfl rfl) rfl rfl <| nq (Q_extract rfl rfl) rfl rfl <| ne (E_alloc H ty81 (zs := [.slice none 0 0, .slice none 0 0, .slice none 0 0]) rfl) rfl rfl ?_
         rintro _ wd465 ⟨b464, rfl, H⟩
         refine ne (E_stB (k := 0) (cs := [v458, v359, v361]) (vs' := [v458, v359, v361]) H rfl ty81 rfl rfl rfl rfl (one_cons (arr_cells (H.ok.get (k := 1) rfl)).2 (one_cons (arr_cells (H.ok.get (k := 3) rfl)).2 (one_cons (arr_cells (H.ok.get (k := 4) rfl)).2 one_nil))) (by simp) rfl) rfl rfl ?_
         rintro _ wd466 H
         dsimp only [List.set] at H
         refine nq (Q_assign rfl) rfl rfl <| WL_nil <| x_then ?_
         obtain ⟨o484, ho484, hF⟩ := bnd hF
         refine C_cut (fun a w' => ∃ (x483 : Bool), x483 = o484 ∧ Fr 137 a [(6, .bool x483)] ∧ Hp C w' ρ (hs)) ?_ ?_
         ·refine R_nd <| nq (Q_move rfl) rfl rfl <| nq (Q_neq rfl rfl) rfl rfl <| nq (Q_move rfl) rfl rfl ?_
          rcases Bool.eq_false_or_eq_true (x423 != 0) with hb | hb
          ·rw [hb]
           replace ho484 := itT hb ho484
           refine gq (v := .pointer (some ⟨b371, 0, none⟩)) (Q_fld Tryz.underlying78 rfl ty76 (by decide) rfl rfl) rfl rfl rfl <| gq (v := v357) (Q_ldB (k := 5) (cs := [v357]) H.ok rfl ty76 rfl rfl rfl (fun _ => rfl) rfl) rfl rfl rfl <| gq (Q_lenA (k := 2) H.ok rfl r367 (by decide) Tryz.underlying76 rfl) rfl rfl rfl <| gq (Q_eql rfl rfl) rfl rfl rfl <| nq (Q_pickT rfl rfl) rfl rfl <| nq (Q_move rfl) rfl rfl ?_
           rcases Bool.eq_false_or_eq_true ((x363.length : Int) == 0) with hb | hb
           ·rw [hb]
            replace ho484 := itT hb ho484
            refine gs rfl rfl rfl rfl <| gs rfl rfl rfl rfl <| gs rfl rfl rfl rfl <| gsu rfl ⟨_, _, rfl, rfl, rfl⟩ rfl <| gsu rfl ⟨_, _, rfl, rfl, rfl⟩ rfl <| gsu rfl ⟨_, _, rfl, rfl, rfl⟩ rfl <| gs rfl rfl rfl rfl <| gs rfl rfl rfl rfl <| gsu rfl ⟨_, _, rfl, rfl, rfl⟩ rfl <| gsu rfl ⟨_, _, rfl, rfl, rfl⟩ rfl <| gs rfl rfl rfl rfl <| nq (Q_pickT rfl rfl) rfl rfl <| nq (Q_assign rfl) rfl rfl <| WL_nil ?_
            replace H := H.e9.e8.e7.e6.e5.e4.e3.e2.e1.e0
            obtain rfl := Option.some.inj ho484
            refine x_A fun a hf => ⟨true, rfl, hf.sub ⟨rfl, trivial⟩, H⟩
           ·rw [hb]
            replace ho484 := itF hb ho484
            refine gq (Q_move rfl) rfl rfl rfl <| gq (Q_eql rfl rfl) rfl rfl rfl <| gq (Q_move rfl) rfl rfl rfl ?_
            rcases Bool.eq_false_or_eq_true (x423 == 0) with hb | hb
            ·rw [hb]
             replace ho484 := itT hb ho484
             refine gq (v := .agg #[v458, v359, v361]) (Q_ldB (k := 0) (cs := [v458, v359, v361]) H.ok rfl ty81 rfl rfl rfl (fun h => nomatch h) rfl) rfl rfl rfl <| gq (v := .agg #[v414, v416, v418]) (Q_ldB (k := 6) (cs := [v414, v416, v418]) H.ok rfl ty81 rfl rfl rfl (fun h => nomatch h) rfl) rfl rfl rfl ?_
             replace H := H.f9.f9.f9.f7.f7.f6
             obtain ⟨q485, hq485, ho484⟩ := bnd ho484
             obtain ⟨C', ρ', hl486, HA, hL, hback⟩ := Hp.lend (A := []) (L := [Arr v458 256 c459, Arr v359 1 c360, Arr v361 1 c362, Arr v414 256 c415, Arr v416 1 c417, Arr v418 1 c419]) (F := Box b464 [v458, v359, v361] :: Arr v357 256 c358 :: Box b371 [v357, v359, v361] :: Box b428 [v414, v416, v418] :: hs) H
             refine ge (E_call fn49 rfl (c_49 HA (gle.up hl486)  (arr_rd (by decide) hl486 (hL (Arr v458 256 c459) (by simp)) r462) (arr_rd (by decide) hl486 (hL (Arr v359 1 c360) (by simp)) r368) (arr_rd (by decide) hl486 (hL (Arr v361 1 c362) (by simp)) r369) (arr_rd (by decide) hl486 (hL (Arr v414 256 c415) (by simp)) r424) (arr_rd (by decide) hl486 (hL (Arr v416 1 c417) (by simp)) r425) (arr_rd (by decide) hl486 (hL (Arr v418 1 c419) (by simp)) r426) hq485)) rfl rfl rfl ?_
             rintro _ wd488 ⟨x487, rfl, rfl, H⟩
             try dsimp only at ho484
             replace H := hback H
             dsimp only [List.cons_append, List.nil_append] at H
             refine gq (Q_pickT rfl rfl) rfl rfl rfl <| gq (Q_move rfl) rfl rfl rfl ?_
             rcases Bool.eq_false_or_eq_true x487 with hb | hb
             ·rw [hb]
              replace ho484 := itT hb ho484
              refine gq (v := .agg #[v357, v359, v361]) (Q_ldB (k := 8) (cs := [v357, v359, v361]) H.ok rfl ty78 rfl rfl rfl (fun h => nomatch h) rfl) rfl rfl rfl ?_
              replace H := H.f2.f2.f7
              obtain ⟨q489, hq489, ho484⟩ := bnd ho484
              obtain ⟨C', ρ', hl490, HA, hL, hback⟩ := Hp.lend (A := []) (L := [Arr v357 256 c358, Arr v359 1 c360, Arr v361 1 c362]) (F := Arr v458 256 c459 :: Arr v414 256 c415 :: Arr v416 1 c417 :: Arr v418 1 c419 :: Box b464 [v458, v359, v361] :: Box b371 [v357, v359, v361] :: Box b428 [v414, v416, v418] :: hs) H
              refine ge (E_call fn57 rfl (c_57 HA (gle.up hl490)  (arr_rd (by decide) hl490 (hL (Arr v357 256 c358) (by simp)) r367) (arr_rd (by decide) hl490 (hL (Arr v359 1 c360) (by simp)) r368) (arr_rd (by decide) hl490 (hL (Arr v361 1 c362) (by simp)) r369) hq489)) rfl rfl rfl ?_
              rintro _ wd492 ⟨x491, rfl, rfl, H⟩
              try dsimp only at ho484
              replace H := hback H
              dsimp only [List.cons_append, List.nil_append] at H
              refine gq (Q_pickT rfl rfl) rfl rfl rfl <| nq (Q_pickF rfl rfl) rfl rfl <| nq (Q_assign rfl) rfl rfl <| WL_nil ?_
              replace H := H.e9.e8.e7.e6.e5.e4.e3.e2.e1.e0
              obtain rfl := Option.some.inj ho484
              refine x_A fun a hf => ⟨x491, rfl, hf.sub ⟨rfl, trivial⟩, H⟩
             ·rw [hb]
              replace ho484 := itF hb ho484
              refine gs rfl rfl rfl rfl <| gs rfl rfl rfl rfl <| gq (Q_pickF rfl rfl) rfl rfl rfl <| nq (Q_pickF rfl rfl) rfl rfl <| nq (Q_assign rfl) rfl rfl <| WL_nil ?_
              replace H := H.e9.e8.e7.e6.e5.e4.e3.e2.e1.e0
              obtain rfl := Option.some.inj ho484
              refine x_A fun a hf => ⟨false, rfl, hf.sub ⟨rfl, trivial⟩, H⟩
            ·rw [hb]
             replace ho484 := itF hb ho484
             refine gs rfl rfl rfl rfl <| gs rfl rfl rfl rfl <| gs rfl rfl rfl rfl <| gq (Q_pickF rfl rfl) rfl rfl rfl <| gq (Q_move rfl) rfl rfl rfl <| gs rfl rfl rfl rfl <| gs rfl rfl rfl rfl <| gq (Q_pickF rfl rfl) rfl rfl rfl <| nq (Q_pickF rfl rfl) rfl rfl <| nq (Q_assign rfl) rfl rfl <| WL_nil ?_
             replace H := H.e9.e8.e7.e6.e5.e4.e3.e2.e1.e0
             obtain rfl := Option.some.inj ho484
             refine x_A fun a hf => ⟨false, rfl, hf.sub ⟨rfl, trivial⟩, H⟩
          ·rw [hb]
           replace ho484 := itF hb ho484
           refine gs rfl rfl rfl rfl <| gs rfl rfl rfl rfl <| gs rfl rfl rfl rfl <| gs rfl rfl rfl rfl <| nq (Q_pickF rfl rfl) rfl rfl <| nq (Q_move rfl) rfl rfl <| gq (Q_move rfl) rfl rfl rfl <| gq (Q_eql rfl rfl) rfl rfl rfl <| gq (Q_move rfl) rfl rfl rfl ?_
           rcases Bool.eq_false_or_eq_true (x423 == 0) with hb | hb
           ·rw [hb]
            replace ho484 := itT hb ho484
            refine gq (v := .agg #[v458, v359, v361]) (Q_ldB (k := 0) (cs := [v458, v359, v361]) H.ok rfl ty81 rfl rfl rfl (fun h => nomatch h) rfl) rfl rfl rfl <| gq (v := .agg #[v414, v416, v418]) (Q_ldB (k := 6) (cs := [v414, v416, v418]) H.ok rfl ty81 rfl rfl rfl (fun h => nomatch h) rfl) rfl rfl rfl ?_
            replace H := H.f9.f9.f9.f7.f7.f6
            obtain ⟨q493, hq493, ho484⟩ := bnd ho484
            obtain ⟨C', ρ', hl494, HA, hL, hback⟩ := Hp.lend (A := []) (L := [Arr v458 256 c459, Arr v359 1 c360, Arr v361 1 c362, Arr v414 256 c415, Arr v416 1 c417, Arr v418 1 c419]) (F := Box b464 [v458, v359, v361] :: Arr v357 256 c358 :: Box b371 [v357, v359, v361] :: Box b428 [v414, v416, v418] :: hs) H
            refine ge (E_call fn49 rfl (c_49 HA (gle.up hl494)  (arr_rd (by decide) hl494 (hL (Arr v458 256 c459) (by simp)) r462) (arr_rd (by decide) hl494 (hL (Arr v359 1 c360) (by simp)) r368) (arr_rd (by decide) hl494 (hL (Arr v361 1 c362) (by simp)) r369) (arr_rd (by decide) hl494 (hL (Arr v414 256 c415) (by simp)) r424) (arr_rd (by decide) hl494 (hL (Arr v416 1 c417) (by simp)) r425) (arr_rd (by decide) hl494 (hL (Arr v418 1 c419) (by simp)) r426) hq493)) rfl rfl rfl ?_
            rintro _ wd496 ⟨x495, rfl, rfl, H⟩
            try dsimp only at ho484
            replace H := hback H
            dsimp only [List.cons_append, List.nil_append] at H
            refine gq (Q_pickT rfl rfl) rfl rfl rfl <| gq (Q_move rfl) rfl rfl rfl ?_
            rcases Bool.eq_false_or_eq_true x495 with hb | hb
            ·rw [hb]
             replace ho484 := itT hb ho484
             refine gq (v := .agg #[v357, v359, v361]) (Q_ldB (k := 8) (cs := [v357, v359, v361]) H.ok rfl ty78 rfl rfl rfl (fun h => nomatch h) rfl) rfl rfl rfl ?_
             replace H := H.f2.f2.f7
             obtain ⟨q497, hq497, ho484⟩ := bnd ho484
             obtain ⟨C', ρ', hl498, HA, hL, hback⟩ := Hp.lend (A := []) (L := [Arr v357 256 c358, Arr v359 1 c360, Arr v361 1 c362]) (F := Arr v458 256 c459 :: Arr v414 256 c415 :: Arr v416 1 c417 :: Arr v418 1 c419 :: Box b464 [v458, v359, v361] :: Box b371 [v357, v359, v361] :: Box b428 [v414, v416, v418] :: hs) H
             refine ge (E_call fn57 rfl (c_57 HA (gle.up hl498)  (arr_rd (by decide) hl498 (hL (Arr v357 256 c358) (by simp)) r367) (arr_rd (by decide) hl498 (hL (Arr v359 1 c360) (by simp)) r368) (arr_rd (by decide) hl498 (hL (Arr v361 1 c362) (by simp)) r369) hq497)) rfl rfl rfl ?_
             rintro _ wd500 ⟨x499, rfl, rfl, H⟩
             try dsimp only at ho484
             replace H := hback H
             dsimp only [List.cons_append, List.nil_append] at H
             refine gq (Q_pickT rfl rfl) rfl rfl rfl <| nq (Q_pickF rfl rfl) rfl rfl <| nq (Q_assign rfl) rfl rfl <| WL_nil ?_
             replace H := H.e9.e8.e7.e6.e5.e4.e3.e2.e1.e0
             obtain rfl := Option.some.inj ho484
             refine x_A fun a hf => ⟨x499, rfl, hf.sub ⟨rfl, trivial⟩, H⟩
            ·rw [hb]
             replace ho484 := itF hb ho484
             refine gs rfl rfl rfl rfl <| gs rfl rfl rfl rfl <| gq (Q_pickF rfl rfl) rfl rfl rfl <| nq (Q_pickF rfl rfl) rfl rfl <| nq (Q_assign rfl) rfl rfl <| WL_nil ?_
             replace H := H.e9.e8.e7.e6.e5.e4.e3.e2.e1.e0
             obtain rfl := Option.some.inj ho484
             refine x_A fun a hf => ⟨false, rfl, hf.sub ⟨rfl, trivial⟩, H⟩
           ·rw [hb]
            replace ho484 := itF hb ho484
            refine gs rfl rfl rfl rfl <| gs rfl rfl rfl rfl <| gs rfl rfl rfl rfl <| gq (Q_pickF rfl rfl) rfl rfl rfl <| gq (Q_move rfl) rfl rfl rfl <| gs rfl rfl rfl rfl <| gs rfl rfl rfl rfl <| gq (Q_pickF rfl rfl) rfl rfl rfl <| nq (Q_pickF rfl rfl) rfl rfl <| nq (Q_assign rfl) rfl rfl <| WL_nil ?_
            replace H := H.e9.e8.e7.e6.e5.e4.e3.e2.e1.e0
            obtain rfl := Option.some.inj ho484
            refine x_A fun a hf => ⟨false, rfl, hf.sub ⟨rfl, trivial⟩, H⟩
         ·rintro a wd501 ⟨x483, rfl, hf, H⟩
          try dsimp only at hF
          refine CW.at hf <| C_ret ?_
          obtain rfl := Option.some.inj hF
          exact fn_ret (l := [.tmp 6]) (vs := [.bool x483]) rfl rfl rfl ⟨ρ, x483, rfl, rfl, (View.le_trans lw328 lw376), H⟩
    ·try dsimp only at hF
     replace r3 := RdSl.up lw379 r3
     replace r6 := RdSl.up lw379 r6
     replace r9 := RdSl.up lw379 r9
     replace r12 := RdSl.up lw379 r12
     replace r15 := RdSl.up lw379 r15
     replace r18 := RdSl.up lw379 r18
     replace r336 := rdL.up lw379 r336
     replace r347 := rdL.up lw379 r347
     replace r367 := rdL.up lw379 r367
     replace r368 := rdL.up lw379 r368
     replace r369 := rdL.up lw379 r369
     replace gle := GErrs.up lw379 gle
     replace gl18 := GTab.up lw379 gl18
     refine nq (Q_move rfl) rfl rfl <| nq (Q_extract rfl rfl) rfl rfl <| nq (Q_extract rfl rfl) rfl rfl <| nq (Q_assign rfl) rfl rfl <| nq (Q_assign rfl) rfl rfl <| WL_nil <| x_then <| C_seq ?_
     obtain ⟨o511, ho511, hF⟩ := bnd hF
     refine C_cut (fun a w' => ∃ (x510 : Bool), x510 = o511 ∧ Fr 137 a [(2, .int .i64 x19), (7, .pointer (some ⟨b338, 0, none⟩)), (9, .pointer (some ⟨b349, 0, none⟩)), (11, .pointer (some ⟨b371, 0, none⟩)), (12, errV errIds gV x366), (13, v377), (14, .bool true), (61, .bool x510)] ∧ Hp C w' ρ (Box b371 [v357, v359, v361] :: Arr v357 256 c358 :: Arr v359 1 c360 :: Arr v361 1 c362 :: Box b338 [v332, v4, v7] :: Arr v332 256 c333 :: Box b349 [v343, v13, v16] :: Arr v343 256 c344 :: hs)) ?_ ?_
     ·refine R_nd <| nq (v := .agg #[v332, v4, v7]) (Q_ldB (k := 6) (cs := [v332, v4, v7]) H.ok rfl ty81 rfl rfl rfl (fun h => nomatch h) rfl) rfl rfl ?_
      replace H := H.f7
      obtain ⟨q512, hq512, ho511⟩ := bnd ho511
      obtain ⟨C', ρ', hl513, HA, hL, hback⟩ := Hp.lend (A := []) (L := [Arr v332 256 c333]) (F := Box b371 [v357, v359, v361] :: Arr v357 256 c358 :: Arr v359 1 c360 :: Arr v361 1 c362 :: Box b321 [v1, v4, v7] :: Box b323 [v10, v13, v16] :: Box b338 [v332, v4, v7] :: Box b349 [v343, v13, v16] :: Arr v343 256 c344 :: hs) H
      refine ne (E_call fn52 rfl (c_52 HA (gle.up hl513)  (arr_rd (by decide) hl513 (hL (Arr v332 256 c333) (by simp)) r336) (r6.up hl513) (r9.up hl513) hq512)) rfl rfl ?_
      rintro _ wd515 ⟨x514, rfl, rfl, H⟩
      try dsimp only at ho511
      replace H := hback H
      dsimp only [List.cons_append, List.nil_append] at H
      refine nq (Q_not rfl) rfl rfl <| nq (Q_move rfl) rfl rfl ?_
      rcases Bool.eq_false_or_eq_true (!x514) with hb | hb
      ·rw [hb]
       replace ho511 := itT hb ho511
       refine gs rfl rfl rfl rfl <| gs rfl rfl rfl rfl <| gs rfl rfl rfl rfl <| nq (Q_pickT rfl rfl) rfl rfl <| WL_nil ?_
       replace H := H.e6.e5.f5.f5.f5.f5.f5
       obtain rfl := Option.some.inj ho511
       refine x_A fun a hf => ⟨true, rfl, hf.sub ⟨rfl, rfl, rfl, rfl, rfl, rfl, rfl, rfl, trivial⟩, H⟩
      ·rw [hb]
       replace ho511 := itF hb ho511
       refine gq (v := .agg #[v343, v13, v16]) (Q_ldB (k := 8) (cs := [v343, v13, v16]) H.ok rfl ty81 rfl rfl rfl (fun h => nomatch h) rfl) rfl rfl rfl ?_
       replace H := H.f9
       obtain ⟨q516, hq516, ho511⟩ := bnd ho511
       obtain ⟨C', ρ', hl517, HA, hL, hback⟩ := Hp.lend (A := []) (L := [Arr v343 256 c344]) (F := Arr v332 256 c333 :: Box b371 [v357, v359, v361] :: Arr v357 256 c358 :: Arr v359 1 c360 :: Arr v361 1 c362 :: Box b321 [v1, v4, v7] :: Box b323 [v10, v13, v16] :: Box b338 [v332, v4, v7] :: Box b349 [v343, v13, v16] :: hs) H
       refine ge (E_call fn52 rfl (c_52 HA (gle.up hl517)  (arr_rd (by decide) hl517 (hL (Arr v343 256 c344) (by simp)) r347) (r15.up hl517) (r18.up hl517) hq516)) rfl rfl rfl ?_
       rintro _ wd519 ⟨x518, rfl, rfl, H⟩
       try dsimp only at ho511
       replace H := hback H
       dsimp only [List.cons_append, List.nil_append] at H
       refine gq (Q_not rfl) rfl rfl rfl <| nq (Q_pickF rfl rfl) rfl rfl <| WL_nil ?_
       replace H := H.e7.e6.f7.f2.f7.f7.f7.f7.f7
       obtain rfl := Option.some.inj ho511
       refine x_A fun a hf => ⟨!x518, rfl, hf.sub ⟨rfl, rfl, rfl, rfl, rfl, rfl, rfl, rfl, trivial⟩, H⟩
     ·rintro a wd520 ⟨x510, rfl, hf, H⟩
      try dsimp only at hF
      refine CW.at hf ?_
      refine C_cond rfl (fun hb => ?_) (fun hb => ?_)
      ·replace hF := itT hb hF
       obtain ⟨o525, ho525, hF⟩ := bnd hF
       refine C_cut (fun a w' => Fr 137 a [(6, .bool false)] ∧ Hp C w' ρ (hs)) ?_ ?_
       ·refine R_nd <| nq (Q_move rfl) rfl rfl ?_
        obtain ⟨q526, hq526, ho525⟩ := bnd ho525
        refine ne (E_call fn65 rfl (c_65 H gle   hq526)) rfl rfl ?_
        rintro _ wd529 ⟨x528, rfl, rfl, H⟩
        try dsimp only at ho525
        refine nq (Q_eql rfl rfl) rfl rfl <| nq (Q_move rfl) rfl rfl ?_
        rcases Bool.eq_false_or_eq_true (x528 == 4) with hb | hb
        ·rw [hb]
         replace ho525 := itT hb ho525
         refine gq (v := .pointer (some ⟨b371, 0, none⟩)) (Q_fld Tryz.underlying78 rfl ty76 (by decide) rfl rfl) rfl rfl rfl <| gq (v := v357) (Q_ldB (k := 0) (cs := [v357]) H.ok rfl ty76 rfl rfl rfl (fun _ => rfl) rfl) rfl rfl rfl <| gq (Q_lenA (k := 1) H.ok rfl r367 (by decide) Tryz.underlying76 rfl) rfl rfl rfl <| gq (Q_eql rfl rfl) rfl rfl rfl <| nq (Q_pickT rfl rfl) rfl rfl <| nq (Q_move rfl) rfl rfl ?_
         rcases Bool.eq_false_or_eq_true ((x363.length : Int) == 0) with hb | hb
         ·rw [hb]
          replace ho525 := itT hb ho525
          refine gq (Q_move rfl) rfl rfl rfl <| gq (Q_not rfl) rfl rfl rfl <| nq (Q_pickT rfl rfl) rfl rfl <| nq (Q_move rfl) rfl rfl <| gs rfl rfl rfl rfl <| gs rfl rfl rfl rfl <| gs rfl rfl rfl rfl <| nq (Q_pickF rfl rfl) rfl rfl <| nq (Q_assign rfl) rfl rfl <| WL_nil ?_
          replace H := H.e7.e6.e5.e4.e3.e2.e1.e0
          obtain rfl := Option.some.inj ho525
          refine x_A fun a hf => ⟨hf.sub ⟨rfl, trivial⟩, H⟩
         ·rw [hb]
          replace ho525 := itF hb ho525
          refine gs rfl rfl rfl rfl <| gs rfl rfl rfl rfl <| nq (Q_pickF rfl rfl) rfl rfl <| nq (Q_move rfl) rfl rfl <| gs rfl rfl rfl rfl <| gs rfl rfl rfl rfl <| gs rfl rfl rfl rfl <| nq (Q_pickF rfl rfl) rfl rfl <| nq (Q_assign rfl) rfl rfl <| WL_nil ?_
          replace H := H.e7.e6.e5.e4.e3.e2.e1.e0
          obtain rfl := Option.some.inj ho525
          refine x_A fun a hf => ⟨hf.sub ⟨rfl, trivial⟩, H⟩
        ·rw [hb]
         replace ho525 := itF hb ho525
         refine gs rfl rfl rfl rfl <| gs rfl rfl rfl rfl <| gs rfl rfl rfl rfl <| gs rfl rfl rfl rfl <| nq (Q_pickF rfl rfl) rfl rfl <| nq (Q_move rfl) rfl rfl <| gs rfl rfl rfl rfl <| gs rfl rfl rfl rfl <| nq (Q_pickF rfl rfl) rfl rfl <| nq (Q_move rfl) rfl rfl <| gs rfl rfl rfl rfl <| gs rfl rfl rfl rfl <| gs rfl rfl rfl rfl <| nq (Q_pickF rfl rfl) rfl rfl ?_
         refine nq (Q_assign rfl) rfl rfl <| WL_nil ?_
         replace H := H.e7.e6.e5.e4.e3.e2.e1.e0
         obtain rfl := Option.some.inj ho525
         refine x_A fun a hf => ⟨hf.sub ⟨rfl, trivial⟩, H⟩
       ·rintro a wd530 ⟨hf, H⟩
        try dsimp only at hF
        refine CW.at hf <| C_ret <| x_then_ret ?_
        obtain rfl := Option.some.inj hF
        exact fn_ret (l := [.tmp 6]) (vs := [.bool false]) rfl rfl rfl ⟨ρ, false, rfl, rfl, (View.le_trans lw328 lw379), H⟩
      ·replace hF := itF hb hF
       refine C_skip <| x_then <| C_seq <| R_nd <| nq (v := .agg #[v332, v4, v7]) (Q_ldB (k := 4) (cs := [v332, v4, v7]) H.ok rfl ty81 rfl rfl rfl (fun h => nomatch h) rfl) rfl rfl <| nq (v := .agg #[v343, v13, v16]) (Q_ldB (k := 6) (cs := [v343, v13, v16]) H.ok rfl ty81 rfl rfl rfl (fun h => nomatch h) rfl) rfl rfl ?_
       replace H := H.f7.f6
       obtain ⟨q531, hq531, hF⟩ := bnd hF
       obtain ⟨C', ρ', hl532, HA, hL, hback⟩ := Hp.lend (A := []) (L := [Arr v332 256 c333, Arr v343 256 c344]) (F := Box b371 [v357, v359, v361] :: Arr v357 256 c358 :: Arr v359 1 c360 :: Arr v361 1 c362 :: Box b338 [v332, v4, v7] :: Box b349 [v343, v13, v16] :: hs) H
       refine ne (E_call fn68 rfl (c_68 HA (gle.up hl532)  (arr_rd (by decide) hl532 (hL (Arr v332 256 c333) (by simp)) r336) (r6.up hl532) (r9.up hl532) (arr_rd (by decide) hl532 (hL (Arr v343 256 c344) (by simp)) r347) (r15.up hl532) (r18.up hl532) hq531)) rfl rfl ?_
       rintro _ wd546 ⟨v533, c534, v535, c536, v537, c538, x539, x540, x541, x542, rfl, rfl, r543, r544, r545, H⟩
       try dsimp only at hF
       replace H := hback H
       replace r543 := rdL.flat (ρ := ρ') (ρ' := ρ) (flat_A _ (flat_I _)) r543
       replace r544 := rdL.flat (ρ := ρ') (ρ' := ρ) (flat_I _) r544
       replace r545 := rdL.flat (ρ := ρ') (ρ' := ρ) (flat_I _) r545
       dsimp only [List.cons_append, List.nil_append] at H
       refine nq (Q_move rfl) rfl rfl <| nq (Q_extract rfl rfl) rfl rfl <| nq (Q_extract rfl rfl) rfl rfl <| ne (E_alloc H ty81 (zs := [.slice none 0 0, .slice none 0 0, .slice none 0 0]) rfl) rfl rfl ?_
       rintro _ wd548 ⟨b547, rfl, H⟩
       refine ne (E_stB (k := 0) (cs := [v533, v535, v537]) (vs' := [v533, v535, v537]) H rfl ty81 rfl rfl rfl rfl (one_cons (arr_cells (H.ok.get (k := 1) rfl)).2 (one_cons (arr_cells (H.ok.get (k := 2) rfl)).2 (one_cons (arr_cells (H.ok.get (k := 3) rfl)).2 one_nil))) (by simp) rfl) rfl rfl ?_
       rintro _ wd549 H
       dsimp only [List.set] at H
       refine nq (Q_assign rfl) rfl rfl <| WL_nil <| x_then <| C_seq <| R_nd <| nq (v := .agg #[v332, v4, v7]) (Q_ldB (k := 10) (cs := [v332, v4, v7]) H.ok rfl ty81 rfl rfl rfl (fun h => nomatch h) rfl) rfl rfl <| nq (v := .agg #[v343, v13, v16]) (Q_ldB (k := 11) (cs := [v343, v13, v16]) H.ok rfl ty81 rfl rfl rfl (fun h => nomatch h) rfl) rfl rfl <| nq (Q_move rfl) rfl rfl ?_
       replace H := H.f5.f5
       obtain ⟨q550, hq550, hF⟩ := bnd hF
       obtain ⟨C', ρ', hl551, HA, hL, hback⟩ := Hp.lend (A := []) (L := [Arr v332 256 c333, Arr v343 256 c344]) (F := Box b547 [v533, v535, v537] :: Arr v533 256 c534 :: Arr v535 1 c536 :: Arr v537 1 c538 :: Box b371 [v357, v359, v361] :: Arr v357 256 c358 :: Arr v359 1 c360 :: Arr v361 1 c362 :: Box b338 [v332, v4, v7] :: Box b349 [v343, v13, v16] :: hs) H
       refine ne (E_call fn53 rfl (c_53 HA (gle.up hl551)  (arr_rd (by decide) hl551 (hL (Arr v332 256 c333) (by simp)) r336) (r6.up hl551) (r9.up hl551) (arr_rd (by decide) hl551 (hL (Arr v343 256 c344) (by simp)) r347) (r15.up hl551) (r18.up hl551) hq550)) rfl rfl ?_
       rintro _ wd559 ⟨v552, c553, x554, x555, x556, x557, rfl, rfl, r558, H⟩
       try dsimp only at hF
       replace H := hback H
       replace r558 := rdL.flat (ρ := ρ') (ρ' := ρ) (flat_I _) r558
       dsimp only [List.cons_append, List.nil_append] at H
       refine nq (Q_move rfl) rfl rfl <| nq (Q_extract rfl rfl) rfl rfl <| nq (Q_extract rfl rfl) rfl rfl <| nq (Q_extract rfl rfl) rfl rfl <| nq (Q_extract rfl rfl) rfl rfl <| nq (Q_assign rfl) rfl rfl <| nq (Q_assign rfl) rfl rfl <| nq (Q_assign rfl) rfl rfl <| nq (Q_assign rfl) rfl rfl <| WL_nil <| x_then <| C_seq ?_
       obtain ⟨o567, ho567, hF⟩ := bnd hF
       refine C_cut (fun a w' => ∃ (x566 : Bool), x566 = o567 ∧ Fr 137 a [(11, .pointer (some ⟨b371, 0, none⟩)), (15, .pointer (some ⟨b547, 0, none⟩)), (16, .int .i64 x542), (110, .bool x566)] ∧ Hp C w' ρ (Box b371 [v357, v359, v361] :: Arr v357 256 c358 :: Arr v359 1 c360 :: Arr v361 1 c362 :: Box b547 [v533, v535, v537] :: Arr v533 256 c534 :: Arr v535 1 c536 :: Arr v537 1 c538 :: hs)) ?_ ?_
       ·refine R_nd <| nq (Q_move rfl) rfl rfl ?_
        obtain ⟨q568, hq568, ho567⟩ := bnd ho567
        refine ne (E_call fn65 rfl (c_65 H gle   hq568)) rfl rfl ?_
        rintro _ wd571 ⟨x570, rfl, rfl, H⟩
        try dsimp only at ho567
        refine nq (Q_move rfl) rfl rfl <| nq (Q_neq rfl rfl) rfl rfl <| nq (Q_move rfl) rfl rfl ?_
        rcases Bool.eq_false_or_eq_true (x570 != x542) with hb | hb
        ·rw [hb]
         replace ho567 := itT hb ho567
         refine gs rfl rfl rfl rfl <| gs rfl rfl rfl rfl <| gs rfl rfl rfl rfl <| nq (Q_pickT rfl rfl) rfl rfl <| nq (Q_move rfl) rfl rfl <| gs rfl rfl rfl rfl <| gs rfl rfl rfl rfl <| gs rfl rfl rfl rfl <| gs rfl rfl rfl rfl <| gs rfl rfl rfl rfl <| nq (Q_pickT rfl rfl) rfl rfl <| WL_nil ?_
         replace H := H.e12.e11.e2.e1.e0.f7.f7.f7.f7
         obtain rfl := Option.some.inj ho567
         refine x_A fun a hf => ⟨true, rfl, hf.sub ⟨rfl, rfl, rfl, rfl, trivial⟩, H⟩
        ·rw [hb]
         replace ho567 := itF hb ho567
         refine gq (Q_move rfl) rfl rfl rfl <| gq (Q_move rfl) rfl rfl rfl <| gq (v := .bool (true != x557)) (Q_neqB Tryz.underlying4 rfl rfl) rfl rfl rfl <| nq (Q_pickF rfl rfl) rfl rfl <| nq (Q_move rfl) rfl rfl ?_
         rcases Bool.eq_false_or_eq_true (true != x557) with hb | hb
         ·rw [hb]
          replace ho567 := itT hb ho567
          refine gs rfl rfl rfl rfl <| gs rfl rfl rfl rfl <| gs rfl rfl rfl rfl <| gs rfl rfl rfl rfl <| gs rfl rfl rfl rfl <| nq (Q_pickT rfl rfl) rfl rfl <| WL_nil ?_
          replace H := H.e12.e11.e2.e1.e0.f7.f7.f7.f7
          obtain rfl := Option.some.inj ho567
          refine x_A fun a hf => ⟨true, rfl, hf.sub ⟨rfl, rfl, rfl, rfl, trivial⟩, H⟩
         ·rw [hb]
          replace ho567 := itF hb ho567
          refine gq (Q_move rfl) rfl rfl rfl <| ge (E_bstrR H Tryz.underlying42 Tryz.underlying5 Tryz.underlying9 rfl r380) rfl rfl rfl ?_
          rintro _ wd572 ⟨rfl, rfl⟩
          refine gq (Q_move rfl) rfl rfl rfl <| ge (E_bstrA (k := 0) H rfl r558 Tryz.underlying42 Tryz.underlying5 Tryz.underlying9 rfl) rfl rfl rfl ?_
          rintro _ wd573 ⟨rfl, rfl⟩
          refine gq (v := .bool ((bstr x378).toList != (bstr x554).toList)) (Q_neqStr Tryz.underlying9 rfl rfl) rfl rfl rfl <| nq (Q_pickF rfl rfl) rfl rfl <| WL_nil ?_
          replace H := H.e12.e11.e2.e1.e0.f7.f7.f7.f7
          obtain rfl := Option.some.inj ho567
          refine x_A fun a hf => ⟨(bstr x378).toList != (bstr x554).toList, rfl, hf.sub ⟨rfl, rfl, rfl, rfl, trivial⟩, H⟩
       ·rintro a wd574 ⟨x566, rfl, hf, H⟩
        try dsimp only at hF
        refine CW.at hf ?_
        refine C_cond rfl (fun hb => ?_) (fun hb => ?_)
        ·replace hF := itT hb hF
         refine C_seq <| R_nd <| nq (Q_assign rfl) rfl rfl <| WL_nil <| x_then <| C_ret <| x_then_ret ?_
         replace H := H.e7.e6.e5.e4.e3.e2.e1.e0
         obtain rfl := Option.some.inj hF
         exact fn_ret (l := [.tmp 6]) (vs := [.bool false]) rfl rfl rfl ⟨ρ, false, rfl, rfl, (View.le_trans lw328 lw379), H⟩
        ·replace hF := itF hb hF
         refine C_skip <| x_then <| C_seq <| R_nd <| nq (v := .agg #[v357, v359, v361]) (Q_ldB (k := 0) (cs := [v357, v359, v361]) H.ok rfl ty78 rfl rfl rfl (fun h => nomatch h) rfl) rfl rfl ?_
         replace H := H.f3.f3.f3
         obtain ⟨q575, hq575, hF⟩ := bnd hF
         obtain ⟨C', ρ', hl576, HA, hL, hback⟩ := Hp.lend (A := []) (L := [Arr v357 256 c358, Arr v359 1 c360, Arr v361 1 c362]) (F := Box b371 [v357, v359, v361] :: Box b547 [v533, v535, v537] :: Arr v533 256 c534 :: Arr v535 1 c536 :: Arr v537 1 c538 :: hs) H
         refine ne (E_call fn46 rfl (c_46 HA (gle.up hl576)  (arr_rd (by decide) hl576 (hL (Arr v357 256 c358) (by simp)) r367) (arr_rd (by decide) hl576 (hL (Arr v359 1 c360) (by simp)) r368) (arr_rd (by decide) hl576 (hL (Arr v361 1 c362) (by simp)) r369) hq575)) rfl rfl ?_
         rintro _ wd582 ⟨v577, c578, x579, x580, rfl, rfl, r581, H⟩
         try dsimp only at hF
         replace H := hback H
         replace r581 := rdL.flat (ρ := ρ') (ρ' := ρ) (flat_A _ (flat_I _)) r581
         dsimp only [List.cons_append, List.nil_append] at H
         refine nq (Q_move rfl) rfl rfl <| nq (Q_extract rfl rfl) rfl rfl <| nq (Q_extract rfl rfl) rfl rfl <| ne (E_alloc H ty81 (zs := [.slice none 0 0, .slice none 0 0, .slice none 0 0]) rfl) rfl rfl ?_
         rintro _ wd584 ⟨b583, rfl, H⟩
         refine ne (E_stB (k := 0) (cs := [v577, v359, v361]) (vs' := [v577, v359, v361]) H rfl ty81 rfl rfl rfl rfl (one_cons (arr_cells (H.ok.get (k := 1) rfl)).2 (one_cons (arr_cells (H.ok.get (k := 3) rfl)).2 (one_cons (arr_cells (H.ok.get (k := 4) rfl)).2 one_nil))) (by simp) rfl) rfl rfl ?_
         rintro _ wd585 H
         dsimp only [List.set] at H
         refine nq (Q_assign rfl) rfl rfl <| WL_nil <| x_then ?_
         obtain ⟨o603, ho603, hF⟩ := bnd hF
         refine C_cut (fun a w' => ∃ (x602 : Bool), x602 = o603 ∧ Fr 137 a [(6, .bool x602)] ∧ Hp C w' ρ (hs)) ?_ ?_
         ·refine R_nd <| nq (Q_move rfl) rfl rfl <| nq (Q_neq rfl rfl) rfl rfl <| nq (Q_move rfl) rfl rfl ?_
          rcases Bool.eq_false_or_eq_true (x542 != 0) with hb | hb
          ·rw [hb]
           replace ho603 := itT hb ho603
           refine gq (v := .pointer (some ⟨b371, 0, none⟩)) (Q_fld Tryz.underlying78 rfl ty76 (by decide) rfl rfl) rfl rfl rfl <| gq (v := v357) (Q_ldB (k := 5) (cs := [v357]) H.ok rfl ty76 rfl rfl rfl (fun _ => rfl) rfl) rfl rfl rfl <| gq (Q_lenA (k := 2) H.ok rfl r367 (by decide) Tryz.underlying76 rfl) rfl rfl rfl <| gq (Q_eql rfl rfl) rfl rfl rfl <| nq (Q_pickT rfl rfl) rfl rfl <| nq (Q_move rfl) rfl rfl ?_
           rcases Bool.eq_false_or_eq_true ((x363.length : Int) == 0) with hb | hb
           ·rw [hb]
            replace ho603 := itT hb ho603
            refine gs rfl rfl rfl rfl <| gs rfl rfl rfl rfl <| gs rfl rfl rfl rfl <| gsu rfl ⟨_, _, rfl, rfl, rfl⟩ rfl <| gsu rfl ⟨_, _, rfl, rfl, rfl⟩ rfl <| gsu rfl ⟨_, _, rfl, rfl, rfl⟩ rfl <| gs rfl rfl rfl rfl <| gs rfl rfl rfl rfl <| gsu rfl ⟨_, _, rfl, rfl, rfl⟩ rfl <| gsu rfl ⟨_, _, rfl, rfl, rfl⟩ rfl <| gs rfl rfl rfl rfl <| nq (Q_pickT rfl rfl) rfl rfl <| nq (Q_assign rfl) rfl rfl <| WL_nil ?_
            replace H := H.e9.e8.e7.e6.e5.e4.e3.e2.e1.e0
            obtain rfl := Option.some.inj ho603
            refine x_A fun a hf => ⟨true, rfl, hf.sub ⟨rfl, trivial⟩, H⟩
           ·rw [hb]
            replace ho603 := itF hb ho603
            refine gq (Q_move rfl) rfl rfl rfl <| gq (Q_eql rfl rfl) rfl rfl rfl <| gq (Q_move rfl) rfl rfl rfl ?_
            rcases Bool.eq_false_or_eq_true (x542 == 0) with hb | hb
            ·rw [hb]
             replace ho603 := itT hb ho603
             refine gq (v := .agg #[v577, v359, v361]) (Q_ldB (k := 0) (cs := [v577, v359, v361]) H.ok rfl ty81 rfl rfl rfl (fun h => nomatch h) rfl) rfl rfl rfl <| gq (v := .agg #[v533, v535, v537]) (Q_ldB (k := 6) (cs := [v533, v535, v537]) H.ok rfl ty81 rfl rfl rfl (fun h => nomatch h) rfl) rfl rfl rfl ?_
             replace H := H.f9.f9.f9.f7.f7.f6
             obtain ⟨q604, hq604, ho603⟩ := bnd ho603
             obtain ⟨C', ρ', hl605, HA, hL, hback⟩ := Hp.lend (A := []) (L := [Arr v577 256 c578, Arr v359 1 c360, Arr v361 1 c362, Arr v533 256 c534, Arr v535 1 c536, Arr v537 1 c538]) (F := Box b583 [v577, v359, v361] :: Arr v357 256 c358 :: Box b371 [v357, v359, v361] :: Box b547 [v533, v535, v537] :: hs) H
             refine ge (E_call fn49 rfl (c_49 HA (gle.up hl605)  (arr_rd (by decide) hl605 (hL (Arr v577 256 c578) (by simp)) r581) (arr_rd (by decide) hl605 (hL (Arr v359 1 c360) (by simp)) r368) (arr_rd (by decide) hl605 (hL (Arr v361 1 c362) (by simp)) r369) (arr_rd (by decide) hl605 (hL (Arr v533 256 c534) (by simp)) r543) (arr_rd (by decide) hl605 (hL (Arr v535 1 c536) (by simp)) r544) (arr_rd (by decide) hl605 (hL (Arr v537 1 c538) (by simp)) r545) hq604)) rfl rfl rfl ?_
             rintro _ wd607 ⟨x606, rfl, rfl, H⟩
             try dsimp only at ho603
             replace H := hback H
             dsimp only [List.cons_append, List.nil_append] at H
             refine gq (Q_pickT rfl rfl) rfl rfl rfl <| gq (Q_move rfl) rfl rfl rfl ?_
             rcases Bool.eq_false_or_eq_true x606 with hb | hb
             ·rw [hb]
              replace ho603 := itT hb ho603
              refine gq (v := .agg #[v357, v359, v361]) (Q_ldB (k := 8) (cs := [v357, v359, v361]) H.ok rfl ty78 rfl rfl rfl (fun h => nomatch h) rfl) rfl rfl rfl ?_
              replace H := H.f2.f2.f7
              obtain ⟨q608, hq608, ho603⟩ := bnd ho603
              obtain ⟨C', ρ', hl609, HA, hL, hback⟩ := Hp.lend (A := []) (L := [Arr v357 256 c358, Arr v359 1 c360, Arr v361 1 c362]) (F := Arr v577 256 c578 :: Arr v533 256 c534 :: Arr v535 1 c536 :: Arr v537 1 c538 :: Box b583 [v577, v359, v361] :: Box b371 [v357, v359, v361] :: Box b547 [v533, v535, v537] :: hs) H
              refine ge (E_call fn57 rfl (c_57 HA (gle.up hl609)  (arr_rd (by decide) hl609 (hL (Arr v357 256 c358) (by simp)) r367) (arr_rd (by decide) hl609 (hL (Arr v359 1 c360) (by simp)) r368) (arr_rd (by decide) hl609 (hL (Arr v361 1 c362) (by simp)) r369) hq608)) rfl rfl rfl ?_
              rintro _ wd611 ⟨x610, rfl, rfl, H⟩
              try dsimp only at ho603
              replace H := hback H
              dsimp only [List.cons_append, List.nil_append] at H
              refine gq (Q_pickT rfl rfl) rfl rfl rfl <| nq (Q_pickF rfl rfl) rfl rfl <| nq (Q_assign rfl) rfl rfl <| WL_nil ?_
              replace H := H.e9.e8.e7.e6.e5.e4.e3.e2.e1.e0
              obtain rfl := Option.some.inj ho603
              refine x_A fun a hf => ⟨x610, rfl, hf.sub ⟨rfl, trivial⟩, H⟩
             ·rw [hb]
              replace ho603 := itF hb ho603
              refine gs rfl rfl rfl rfl <| gs rfl rfl rfl rfl <| gq (Q_pickF rfl rfl) rfl rfl rfl <| nq (Q_pickF rfl rfl) rfl rfl <| nq (Q_assign rfl) rfl rfl <| WL_nil ?_
              replace H := H.e9.e8.e7.e6.e5.e4.e3.e2.e1.e0
              obtain rfl := Option.some.inj ho603
              refine x_A fun a hf => ⟨false, rfl, hf.sub ⟨rfl, trivial⟩, H⟩
            ·rw [hb]
             replace ho603 := itF hb ho603
             refine gs rfl rfl rfl rfl <| gs rfl rfl rfl rfl <| gs rfl rfl rfl rfl <| gq (Q_pickF rfl rfl) rfl rfl rfl <| gq (Q_move rfl) rfl rfl rfl <| gs rfl rfl rfl rfl <| gs rfl rfl rfl rfl <| gq (Q_pickF rfl rfl) rfl rfl rfl <| nq (Q_pickF rfl rfl) rfl rfl <| nq (Q_assign rfl) rfl rfl <| WL_nil ?_
             replace H := H.e9.e8.e7.e6.e5.e4.e3.e2.e1.e0
             obtain rfl := Option.some.inj ho603
             refine x_A fun a hf => ⟨false, rfl, hf.sub ⟨rfl, trivial⟩, H⟩
          ·rw [hb]
           replace ho603 := itF hb ho603
           refine gs rfl rfl rfl rfl <| gs rfl rfl rfl rfl <| gs rfl rfl rfl rfl <| gs rfl rfl rfl rfl <| nq (Q_pickF rfl rfl) rfl rfl <| nq (Q_move rfl) rfl rfl <| gq (Q_move rfl) rfl rfl rfl <| gq (Q_eql rfl rfl) rfl rfl rfl <| gq (Q_move rfl) rfl rfl rfl ?_
           rcases Bool.eq_false_or_eq_true (x542 == 0) with hb | hb
           ·rw [hb]
            replace ho603 := itT hb ho603
            refine gq (v := .agg #[v577, v359, v361]) (Q_ldB (k := 0) (cs := [v577, v359, v361]) H.ok rfl ty81 rfl rfl rfl (fun h => nomatch h) rfl) rfl rfl rfl <| gq (v := .agg #[v533, v535, v537]) (Q_ldB (k := 6) (cs := [v533, v535, v537]) H.ok rfl ty81 rfl rfl rfl (fun h => nomatch h) rfl) rfl rfl rfl ?_
            replace H := H.f9.f9.f9.f7.f7.f6
            obtain ⟨q612, hq612, ho603⟩ := bnd ho603
            obtain ⟨C', ρ', hl613, HA, hL, hback⟩ := Hp.lend (A := []) (L := [Arr v577 256 c578, Arr v359 1 c360, Arr v361 1 c362, Arr v533 256 c534, Arr v535 1 c536, Arr v537 1 c538]) (F := Box b583 [v577, v359, v361] :: Arr v357 256 c358 :: Box b371 [v357, v359, v361] :: Box b547 [v533, v535, v537] :: hs) H
            refine ge (E_call fn49 rfl (c_49 HA (gle.up hl613)  (arr_rd (by decide) hl613 (hL (Arr v577 256 c578) (by simp)) r581) (arr_rd (by decide) hl613 (hL (Arr v359 1 c360) (by simp)) r368) (arr_rd (by decide) hl613 (hL (Arr v361 1 c362) (by simp)) r369) (arr_rd (by decide) hl613 (hL (Arr v533 256 c534) (by simp)) r543) (arr_rd (by decide) hl613 (hL (Arr v535 1 c536) (by simp)) r544) (arr_rd (by decide) hl613 (hL (Arr v537 1 c538) (by simp)) r545) hq612)) rfl rfl rfl ?_
            rintro _ wd615 ⟨x614, rfl, rfl, H⟩
            try dsimp only at ho603
            replace H := hback H
            dsimp only [List.cons_append, List.nil_append] at H
            refine gq (Q_pickT rfl rfl) rfl rfl rfl <| gq (Q_move rfl) rfl rfl rfl ?_
            rcases Bool.eq_false_or_eq_true x614 with hb | hb
            ·rw [hb]
             replace ho603 := itT hb ho603
             refine gq (v := .agg #[v357, v359, v361]) (Q_ldB (k := 8) (cs := [v357, v359, v361]) H.ok rfl ty78 rfl rfl rfl (fun h => nomatch h) rfl) rfl rfl rfl ?_
             replace H := H.f2.f2.f7
             obtain ⟨q616, hq616, ho603⟩ := bnd ho603
             obtain ⟨C', ρ', hl617, HA, hL, hback⟩ := Hp.lend (A := []) (L := [Arr v357 256 c358, Arr v359 1 c360, Arr v361 1 c362]) (F := Arr v577 256 c578 :: Arr v533 256 c534 :: Arr v535 1 c536 :: Arr v537 1 c538 :: Box b583 [v577, v359, v361] :: Box b371 [v357, v359, v361] :: Box b547 [v533, v535, v537] :: hs) H
             refine ge (E_call fn57 rfl (c_57 HA (gle.up hl617)  (arr_rd (by decide) hl617 (hL (Arr v357 256 c358) (by simp)) r367) (arr_rd (by decide) hl617 (hL (Arr v359 1 c360) (by simp)) r368) (arr_rd (by decide) hl617 (hL (Arr v361 1 c362) (by simp)) r369) hq616)) rfl rfl rfl ?_
             rintro _ wd619 ⟨x618, rfl, rfl, H⟩
             try dsimp only at ho603
             replace H := hback H
             dsimp only [List.cons_append, List.nil_append] at H
             refine gq (Q_pickT rfl rfl) rfl rfl rfl <| nq (Q_pickF rfl rfl) rfl rfl <| nq (Q_assign rfl) rfl rfl <| WL_nil ?_
             replace H := H.e9.e8.e7.e6.e5.e4.e3.e2.e1.e0
             obtain rfl := Option.some.inj ho603
             refine x_A fun a hf => ⟨x618, rfl, hf.sub ⟨rfl, trivial⟩, H⟩
            ·rw [hb]
             replace ho603 := itF hb ho603
             refine gs rfl rfl rfl rfl <| gs rfl rfl rfl rfl <| gq (Q_pickF rfl rfl) rfl rfl rfl <| nq (Q_pickF rfl rfl) rfl rfl <| nq (Q_assign rfl) rfl rfl <| WL_nil ?_
             replace H := H.e9.e8.e7.e6.e5.e4.e3.e2.e1.e0
             obtain rfl := Option.some.inj ho603
             refine x_A fun a hf => ⟨false, rfl, hf.sub ⟨rfl, trivial⟩, H⟩
           ·rw [hb]
            replace ho603 := itF hb ho603
            refine gs rfl rfl rfl rfl <| gs rfl rfl rfl rfl <| gs rfl rfl rfl rfl <| gq (Q_pickF rfl rfl) rfl rfl rfl <| gq (Q_move rfl) rfl rfl rfl <| gs rfl rfl rfl rfl <| gs rfl rfl rfl rfl <| gq (Q_pickF rfl rfl) rfl rfl rfl <| nq (Q_pickF rfl rfl) rfl rfl <| nq (Q_assign rfl) rfl rfl <| WL_nil ?_
            replace H := H.e9.e8.e7.e6.e5.e4.e3.e2.e1.e0
            obtain rfl := Option.some.inj ho603
            refine x_A fun a hf => ⟨false, rfl, hf.sub ⟨rfl, trivial⟩, H⟩
         ·rintro a wd620 ⟨x602, rfl, hf, H⟩
          try dsimp only at hF
          refine CW.at hf <| C_ret ?_
          obtain rfl := Option.some.inj hF
          exact fn_ret (l := [.tmp 6]) (vs := [.bool x602]) rfl rfl rfl ⟨ρ, x602, rfl, rfl, (View.le_trans lw328 lw379), H⟩
end Go.Proofs.YtealkahefalaeaaGreatDoor
