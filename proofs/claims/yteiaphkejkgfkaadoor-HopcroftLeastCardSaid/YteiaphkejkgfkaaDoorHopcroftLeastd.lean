/-
  The walks of the law HopcroftLeast, printed by my program, part 4: each function of the code computes its pure function.
-/
import Derived.Test.YteiaphkejkgfkaaDoorHopcroftLeastc
namespace Go.Proofs.YteiaphkejkgfkaaDoor
open Go Go.Eng
set_option maxRecDepth 100000
theorem c_47 {N : Nat} {C : Cx} {w : World} {ρ : View} {hs : List Hl} {v1 : Value} {v4 : Value} {v7 : Value} {x2 : (List (List Int))} {x5 : (List Int)} {x8 : (List Int)} (H : Hp C w ρ (hs)) (r3 : RdSl ρ (eA 256 (eI .i64)) v1 x2) (r6 : RdSl ρ (eI .i64) v4 x5) (r9 : RdSl ρ (eI .i64) v7 x8) {r : (List Int)} (hF : F_dofferref19_Parts N x2 x5 x8 = some r) :
    Calls Tryd.prog 47 [.agg #[v1, v4, v7]].toArray w (Rets (fun v w' => (∃ (v5428 : Value) (c5429 : (List Value)) (x5430 : (List Int)), x5430 = r ∧ v5428 = v ∧ rdL (eI .i64) ρ x5430 c5429 ∧ Hp C w' ρ (Arr v5428 1 c5429 :: hs)))) := by
  unfold F_dofferref19_Parts at hF
  have h0 : Tryd.f47.body = some _ := rfl
  refine fn_calls' Tryd.func47 h0 (n := 50) rfl (by simp) <| C_seq <| R_nd <| ne (E_box H (vs := [v1, v4, v7]) rfl rfl) rfl rfl ?_
  rintro _ wd5433 ⟨b5432, rfl, H⟩
  refine nq (Q_assign rfl) rfl rfl <| WL_nil <| x_then <| C_seq <| R_nd <| nq (v := .agg #[v1, v4, v7]) (Q_ldB (k := 0) (cs := [v1, v4, v7]) H.ok rfl ty29 rfl rfl rfl (fun h => nomatch h) rfl) rfl rfl ?_
  obtain ⟨q5434, hq5434, hF⟩ := bnd hF
  refine ne (E_call fn73 rfl (c_73 H  r3 r6 r9 hq5434)) rfl rfl ?_
  rintro _ wd5439 ⟨v5436, c5437, x5438, rfl, rfl, H⟩
  try dsimp only at hF
  refine nq (Q_assign rfl) rfl rfl <| WL_nil <| x_then <| C_seq <| R_nd <| ne (E_bslice0 H Tryd.underlying23 ty3) rfl rfl ?_
  rintro _ wd5441 ⟨b5440, rfl, H⟩
  refine nq (Q_assign rfl) rfl rfl <| WL_nil <| x_then <| C_seq <| R_nd <| nq (Q_assign rfl) rfl rfl <| WL_nil <| x_then <| C_seq <| C_seq <| R_nd <| nq (v := .pointer (some ⟨b5432, 0, none⟩)) (Q_fld Tryd.underlying29 rfl ty27 (by decide) rfl rfl) rfl rfl <| nq (v := v1) (Q_ldB (k := 2) (cs := [v1]) H.ok rfl ty27 rfl rfl rfl (fun _ => rfl) rfl) rfl rfl <| nq (Q_len Tryd.underlying27 rfl r3) rfl rfl ?_
  refine nq (Q_move rfl) rfl rfl <| WL_nil <| x_then ?_
  obtain ⟨o8147, ho8147, hF⟩ := bnd hF
  refine C_cutQ (fun a w' => ∃ (v8143 : Value) (c8144 : (List Value)) (x8145 : (List Int)), x8145 = o8147 ∧ rdL (eI .i64) ρ x8145 c8144 ∧ Fr 50 a [(4, v8143)] ∧ Hp C w' ρ (Arr v8143 1 c8144 :: hs)) ?_ ?_
  · refine C_block ?_
    replace H := H.front 1 rfl
    dsimp only [List.eraseIdx] at H
    replace H := H.drop 2 rfl
    dsimp only [List.eraseIdx] at H
    refine C_iter (f := fun s => F_dofferref19_Parts_l0 N x2 x5438 s.1 s.2.1 s.2.2) ho8147 (fun s a w' => ∃ (v9048 : Value) (c9049 : (List Value)) (x9047 : Int) (x9050 : (List Int)) (x9052 : Int), (x9047, x9050, x9052) = s ∧ rdL (eI .i64) ρ x9050 c9049 ∧ Fr 50 a [(3, v5436), (4, v9048), (5, .int .i64 x9052), (14, .int .i64 (x2.length : Int)), (15, .int .i64 x9047)] ∧ Hp C w' ρ (NA (eI .i64) 1 v5436 c5437 x5438 :: Arr v9048 1 c9049 :: hs)) ?_ ?_
    · exact fun a hf => ⟨(.slice (some ⟨b5440, 0, none⟩) 0 0), [], 0, [], 0, rfl, rdL.nil, hf.sub ⟨rfl, rfl, rfl, rfl, rfl, trivial⟩, H⟩
    · rintro s o9952 a wd9955 ⟨v9048, c9049, x9047, x9050, x9052, rfl, r9051, hf, H⟩ hB9953 hO9954
      replace hB9953 : F_dofferref19_Parts_l0 N x2 x5438 x9047 x9050 x9052 = some o9952 := hB9953
      unfold F_dofferref19_Parts_l0 at hB9953
      refine CW.at hf <| C_seq <| R_nd <| nq (Q_lss rfl rfl) rfl rfl <| WL_nil <| x_then <| C_seq ?_
      refine C_cond rfl (fun hb => ?_) (fun hb => ?_)
      · replace hB9953 := itT hb hB9953
        refine C_skip <| x_then ?_
        obtain ⟨o10404, ho10404, hB9953⟩ := bnd hB9953
        refine C_cut (fun a w' => ∃ (v10399 : Value) (c10400 : (List Value)) (x10401 : (List Int)) (x10403 : Int), (x10401, x10403) = o10404 ∧ rdL (eI .i64) ρ x10401 c10400 ∧ Fr 50 a [(3, v5436), (4, v10399), (5, .int .i64 x10403), (14, .int .i64 (x2.length : Int)), (15, .int .i64 x9047)] ∧ Hp C w' ρ (NA (eI .i64) 1 v5436 c5437 x5438 :: Arr v10399 1 c10400 :: hs)) ?_ ?_
        · refine C_block <| C_seq <| R_nd <| nq (Q_move rfl) rfl rfl <| nq (Q_assign rfl) rfl rfl <| WL_nil <| x_then <| C_seq <| R_nd <| nq (Q_assign rfl) rfl rfl <| WL_nil <| x_then <| C_seq <| C_seq ?_
          refine R_nd <| nq (Q_assign rfl) rfl rfl <| WL_nil <| x_then ?_
          obtain ⟨o10620, ho10620, ho10404⟩ := bnd ho10404
          refine C_cutQ (fun a w' => ∃ (x10619 : Int), x10619 = o10620 ∧ Fr 50 a [(3, v5436), (4, v9048), (5, .int .i64 x9052), (7, .int .i64 x10619), (14, .int .i64 (x2.length : Int)), (15, .int .i64 x9047)] ∧ Hp C w' ρ (NA (eI .i64) 1 v5436 c5437 x5438 :: Arr v9048 1 c9049 :: hs)) ?_ ?_
          · refine C_block ?_
            replace H := H.front 1 rfl
            dsimp only [List.eraseIdx] at H
            replace H := H.front 1 rfl
            dsimp only [List.eraseIdx] at H
            refine C_iter (f := fun s => F_dofferref19_Parts_l1 N x5438 x9047 x9050 s.1 s.2) ho10620 (fun s a w' => ∃ (x10691 : Int) (x10692 : Int), (x10691, x10692) = s ∧ Fr 50 a [(3, v5436), (4, v9048), (5, .int .i64 x9052), (6, .int .i64 x9047), (7, .int .i64 x10691), (8, .int .i64 x10692), (14, .int .i64 (x2.length : Int)), (15, .int .i64 x9047)] ∧ Hp C w' ρ (NA (eI .i64) 1 v5436 c5437 x5438 :: Arr v9048 1 c9049 :: hs)) ?_ ?_
            · exact fun a hf => ⟨(-1), 0, rfl, hf.sub ⟨rfl, rfl, rfl, rfl, rfl, rfl, rfl, rfl, trivial⟩, H⟩
            · rintro s o10763 a wd10766 ⟨x10691, x10692, rfl, hf, H⟩ hB10764 hO10765
              replace hB10764 : F_dofferref19_Parts_l1 N x5438 x9047 x9050 x10691 x10692 = some o10763 := hB10764
              unfold F_dofferref19_Parts_l1 at hB10764
              refine CW.at hf <| C_seq ?_
              obtain ⟨o10768, ho10768, hB10764⟩ := bnd hB10764
              refine C_cut (fun a w' => ∃ (x10767 : Bool), x10767 = o10768 ∧ Fr 50 a [(3, v5436), (4, v9048), (5, .int .i64 x9052), (6, .int .i64 x9047), (7, .int .i64 x10691), (8, .int .i64 x10692), (14, .int .i64 (x2.length : Int)), (15, .int .i64 x9047), (24, .bool x10767)] ∧ Hp C w' ρ (NA (eI .i64) 1 v5436 c5437 x5438 :: Arr v9048 1 c9049 :: hs)) ?_ ?_
              · refine R_nd <| nq (Q_move rfl) rfl rfl <| nq (Q_move rfl) rfl rfl <| nq (Q_lss rfl rfl) rfl rfl <| nq (Q_move rfl) rfl rfl ?_
                rcases Bool.eq_false_or_eq_true (decide (x10692 < x9047)) with hb | hb
                · rw [hb]
                  replace ho10768 := itT hb ho10768
                  refine gq (Q_move rfl) rfl rfl rfl <| gq (Q_lss rfl rfl) rfl rfl rfl <| nq (Q_pickT rfl rfl) rfl rfl <| WL_nil ?_
                  replace H := H.front 1 rfl
                  dsimp only [List.eraseIdx] at H
                  replace H := H.front 1 rfl
                  dsimp only [List.eraseIdx] at H
                  obtain rfl := Option.some.inj ho10768
                  refine x_A fun a hf => ⟨decide (x10691 < 0), rfl, hf.sub ⟨rfl, rfl, rfl, rfl, rfl, rfl, rfl, rfl, rfl, trivial⟩, H⟩
                · rw [hb]
                  replace ho10768 := itF hb ho10768
                  refine gs rfl rfl rfl rfl <| gs rfl rfl rfl rfl <| nq (Q_pickF rfl rfl) rfl rfl <| WL_nil ?_
                  replace H := H.front 1 rfl
                  dsimp only [List.eraseIdx] at H
                  replace H := H.front 1 rfl
                  dsimp only [List.eraseIdx] at H
                  obtain rfl := Option.some.inj ho10768
                  refine x_A fun a hf => ⟨false, rfl, hf.sub ⟨rfl, rfl, rfl, rfl, rfl, rfl, rfl, rfl, rfl, trivial⟩, H⟩
              · rintro a wd10769 ⟨x10767, rfl, hf, H⟩
                try dsimp only at hB10764
                refine CW.at hf ?_
                refine C_cond rfl (fun hb => ?_) (fun hb => ?_)
                · replace hB10764 := itT hb hB10764
                  refine C_skip <| x_then ?_
                  obtain ⟨o10802, ho10802, hB10764⟩ := bnd hB10764
                  refine C_cut (fun a w' => ∃ (x10801 : Int), x10801 = o10802 ∧ Fr 50 a [(3, v5436), (4, v9048), (5, .int .i64 x9052), (6, .int .i64 x9047), (7, .int .i64 x10801), (8, .int .i64 x10692), (14, .int .i64 (x2.length : Int)), (15, .int .i64 x9047)] ∧ Hp C w' ρ (NA (eI .i64) 1 v5436 c5437 x5438 :: Arr v9048 1 c9049 :: hs)) ?_ ?_
                  · refine C_block <| C_seq <| R_nd <| nq (Q_move rfl) rfl rfl <| nq (Q_move rfl) rfl rfl ?_
                    obtain ⟨x10803, hx10803, ho10802⟩ := bnd ho10802
                    obtain ⟨b10804, o10805, u10807, hi10806, hu10808, ha10809, hl10810, hj10811⟩ := na_at1 (by decide) (H.okS (l := [NA (eI .i64) 1 v5436 c5437 x5438]) (by simp)) hx10803
                    refine nq (Q_idx hi10806 Tryd.underlying84 ty23 rfl rfl) rfl rfl <| nq (v := u10807) (Q_ld (ha10809 _ (Ok.subS (by simp) H.ok)) ty23 rfl (fun _ => rfl) rfl rfl) rfl rfl <| nq (Q_move rfl) rfl rfl ?_
                    obtain ⟨x10812, hx10812, ho10802⟩ := bnd ho10802
                    obtain ⟨b10813, o10814, hi10815, ha10816⟩ := inn_at (by decide) (H.okS (l := [NA (eI .i64) 1 v5436 c5437 x5438]) (by simp)) hu10808 hj10811 hx10812
                    refine nq (Q_idx hi10815 Tryd.underlying23 ty3 rfl rfl) rfl rfl <| nq (v := .int .i64 x10812) (Q_ld (show cellsAt _ _ _ [.int .i64 x10812] from match ha10816 _ (Ok.subS (by simp) H.ok) with | ⟨_, rfl, h⟩ => h) ty3 rfl (fun _ => rfl) rfl rfl) rfl rfl <| nq (Q_lss rfl rfl) rfl rfl <| WL_nil <| x_then ?_
                    obtain ⟨o10825, ho10825, ho10802⟩ := bnd ho10802
                    refine C_cutQ (fun a w' => ∃ (x10824 : Int), x10824 = o10825 ∧ Fr 50 a [(3, v5436), (4, v9048), (5, .int .i64 x9052), (6, .int .i64 x9047), (7, .int .i64 x10824), (8, .int .i64 x10692), (14, .int .i64 (x2.length : Int)), (15, .int .i64 x9047)] ∧ Hp C w' ρ (NA (eI .i64) 1 v5436 c5437 x5438 :: Arr v9048 1 c9049 :: hs)) ?_ ?_
                    · refine C_cond rfl (fun hb => ?_) (fun hb => ?_)
                      · replace ho10825 := itT hb ho10825
                        refine R_nd <| nq (Q_move rfl) rfl rfl <| nq (Q_move rfl) rfl rfl ?_
                        obtain ⟨x10826, hx10826, ho10825⟩ := bnd ho10825
                        obtain ⟨b10827, o10828, hi10832, hc10830, ha10831⟩ := arr_at (hs := [Arr v9048 1 c9049]) (k := 0) (by decide) (H.okS (by simp)) rfl r9051 hx10826
                        refine nq (Q_idx hi10832 Tryd.underlying23 ty3 rfl rfl) rfl rfl <| nq (v := .int .i64 x10826) (Q_ld (show cellsAt _ _ _ [.int .i64 x10826] from (show _ = [_] from hc10830) ▸ (ha10831 _ (Ok.subS (by simp) H.ok))) ty3 rfl (fun _ => rfl) rfl rfl) rfl rfl <| nq (Q_assign rfl) rfl rfl <| WL_nil ?_
                        replace H := H.front 1 rfl
                        dsimp only [List.eraseIdx] at H
                        replace H := H.front 1 rfl
                        dsimp only [List.eraseIdx] at H
                        obtain rfl := Option.some.inj ho10825
                        refine x_A fun a hf => ⟨x10826, rfl, hf.sub ⟨rfl, rfl, rfl, rfl, rfl, rfl, rfl, rfl, trivial⟩, H⟩
                      · replace ho10825 := itF hb ho10825
                        refine C_skip ?_
                        replace H := H.front 1 rfl
                        dsimp only [List.eraseIdx] at H
                        replace H := H.front 1 rfl
                        dsimp only [List.eraseIdx] at H
                        obtain rfl := Option.some.inj ho10825
                        refine x_A fun a hf => ⟨x10691, rfl, hf.sub ⟨rfl, rfl, rfl, rfl, rfl, rfl, rfl, rfl, trivial⟩, H⟩
                    · rintro a wd10833 ⟨x10824, rfl, hf, H⟩
                      try dsimp only at ho10802
                      refine XX.at hf <| x_block ?_
                      replace H := H.front 1 rfl
                      dsimp only [List.eraseIdx] at H
                      replace H := H.front 1 rfl
                      dsimp only [List.eraseIdx] at H
                      obtain rfl := Option.some.inj ho10802
                      refine x_A fun a hf => ⟨x10824, rfl, hf.sub ⟨rfl, rfl, rfl, rfl, rfl, rfl, rfl, rfl, trivial⟩, H⟩
                  · rintro a wd10834 ⟨x10801, rfl, hf, H⟩
                    try dsimp only at hB10764
                    refine CW.at hf <| R_nd <| nq (Q_move rfl) rfl rfl <| nq (Q_add rfl rfl) rfl rfl <| nq (Q_assign rfl) rfl rfl <| WL_nil ?_
                    replace H := H.front 1 rfl
                    dsimp only [List.eraseIdx] at H
                    replace H := H.front 1 rfl
                    dsimp only [List.eraseIdx] at H
                    obtain rfl := Option.some.inj hB10764
                    refine x_A fun a hf => ⟨_, rfl, x10801, w64 (x10692 + 1), rfl, hf.sub ⟨rfl, rfl, rfl, rfl, rfl, rfl, rfl, rfl, trivial⟩, H⟩
                · replace hB10764 := itF hb hB10764
                  refine C_exit <| x_then_exit <| x_then_exit <| x_block_exit ?_
                  replace H := H.front 1 rfl
                  dsimp only [List.eraseIdx] at H
                  replace H := H.front 1 rfl
                  dsimp only [List.eraseIdx] at H
                  obtain rfl := Option.some.inj hB10764
                  obtain rfl := hO10765 _ rfl
                  refine x_A fun a hf => ⟨x10691, rfl, hf.sub ⟨rfl, rfl, rfl, rfl, rfl, rfl, trivial⟩, H⟩
          · rintro a wd10835 ⟨x10619, rfl, hf, H⟩
            try dsimp only at ho10404
            refine XX.at hf <| x_then <| C_seq <| C_seq <| R_nd <| nq (Q_move rfl) rfl rfl <| nq (Q_lss rfl rfl) rfl rfl <| WL_nil <| x_then ?_
            obtain ⟨o10838, ho10838, ho10404⟩ := bnd ho10404
            refine C_cutQ (fun a w' => ∃ (x10836 : Int) (x10837 : Int), (x10836, x10837) = o10838 ∧ Fr 50 a [(3, v5436), (4, v9048), (5, .int .i64 x10836), (7, .int .i64 x10837), (14, .int .i64 (x2.length : Int)), (15, .int .i64 x9047)] ∧ Hp C w' ρ (NA (eI .i64) 1 v5436 c5437 x5438 :: Arr v9048 1 c9049 :: hs)) ?_ ?_
            · refine C_cond rfl (fun hb => ?_) (fun hb => ?_)
              · replace ho10838 := itT hb ho10838
                refine C_seq <| R_nd <| nq (Q_move rfl) rfl rfl <| nq (Q_assign rfl) rfl rfl <| WL_nil <| x_then <| R_nd <| nq (Q_move rfl) rfl rfl <| nq (Q_add rfl rfl) rfl rfl <| nq (Q_assign rfl) rfl rfl <| WL_nil ?_
                replace H := H.front 1 rfl
                dsimp only [List.eraseIdx] at H
                replace H := H.front 1 rfl
                dsimp only [List.eraseIdx] at H
                obtain rfl := Option.some.inj ho10838
                refine x_A fun a hf => ⟨w64 (x9052 + 1), x9052, rfl, hf.sub ⟨rfl, rfl, rfl, rfl, rfl, rfl, trivial⟩, H⟩
              · replace ho10838 := itF hb ho10838
                refine C_skip ?_
                replace H := H.front 1 rfl
                dsimp only [List.eraseIdx] at H
                replace H := H.front 1 rfl
                dsimp only [List.eraseIdx] at H
                obtain rfl := Option.some.inj ho10838
                refine x_A fun a hf => ⟨x9052, x10619, rfl, hf.sub ⟨rfl, rfl, rfl, rfl, rfl, rfl, trivial⟩, H⟩
            · rintro a wd10839 ⟨x10836, x10837, rfl, hf, H⟩
              try dsimp only at ho10404
              refine XX.at hf <| x_then <| R_nd <| nq (Q_move rfl) rfl rfl <| nq (Q_move rfl) rfl rfl <| ne (E_bslice (xs := [.tmp 45]) (vs := [.int .i64 x10837]) H Tryd.underlying23 ty3 (by decide) (cs := [.int .i64 x10837]) rfl (sz_cons rfl sz_nil) rfl (by simp) (by simp) rfl rfl) rfl rfl ?_
              rintro _ wd10841 ⟨b10840, rfl, H⟩
              obtain ⟨x10842, hx10842, ho10404⟩ := bnd ho10404
              obtain ⟨ha10843a, ha10843b⟩ := app_some hx10842
              have r10845 : rdL (eI .i64) ρ x10842 (c9049 ++ ([.int .i64 x10837])) := ha10843b ▸ rdL.app r9051 (show rdL (eI .i64) ρ ([x10837]) ([.int .i64 x10837]) from ⟨([.int .i64 x10837]), _, rfl, rfl, rdL.nil⟩)
              refine ne (E_append (k := 2) H rfl Tryd.underlying23 ty3 rfl (by decide) (by decide) rfl rfl (Src.ofArr (k := 0) H.ok rfl) (rdL.one (show rdL (eI .i64) ρ ([x10837]) ([.int .i64 x10837]) from ⟨([.int .i64 x10837]), _, rfl, rfl, rdL.nil⟩)) (app_fit r9051 (show rdL (eI .i64) ρ ([x10837]) ([.int .i64 x10837]) from ⟨([.int .i64 x10837]), _, rfl, rfl, rdL.nil⟩) ha10843a)) rfl rfl ?_
              rintro v10844 wd10847 ⟨H, hc10846⟩
              dsimp only [List.set] at H
              refine nq (Q_assign rfl) rfl rfl <| WL_nil <| x_block ?_
              replace H := H.front 2 rfl
              dsimp only [List.eraseIdx] at H
              replace H := H.front 2 rfl
              dsimp only [List.eraseIdx] at H
              replace H := H.drop 2 rfl
              dsimp only [List.eraseIdx] at H
              obtain rfl := Option.some.inj ho10404
              refine x_A fun a hf => ⟨v10844, (c9049 ++ ([.int .i64 x10837])), x10842, x10836, rfl, r10845, hf.sub ⟨rfl, rfl, rfl, rfl, rfl, trivial⟩, H⟩
        · rintro a wd10848 ⟨v10399, c10400, x10401, x10403, rfl, r10402, hf, H⟩
          try dsimp only at hB9953
          refine CW.at hf <| R_nd <| nq (Q_add rfl rfl) rfl rfl <| nq (Q_move rfl) rfl rfl <| WL_nil ?_
          replace H := H.front 1 rfl
          dsimp only [List.eraseIdx] at H
          replace H := H.front 1 rfl
          dsimp only [List.eraseIdx] at H
          obtain rfl := Option.some.inj hB9953
          refine x_A fun a hf => ⟨_, rfl, v10399, c10400, w64 (x9047 + 1), x10401, x10403, rfl, r10402, hf.sub ⟨rfl, rfl, rfl, rfl, rfl, trivial⟩, H⟩
      · replace hB9953 := itF hb hB9953
        refine C_exit <| x_then_exit <| x_then_exit <| x_block_exit ?_
        replace H := H.front 1 rfl
        dsimp only [List.eraseIdx] at H
        replace H := H.drop 1 rfl
        dsimp only [List.eraseIdx] at H
        obtain rfl := Option.some.inj hB9953
        obtain rfl := hO9954 _ rfl
        refine x_A fun a hf => ⟨v9048, c9049, x9050, rfl, r9051, hf.sub ⟨rfl, trivial⟩, H⟩
  · rintro a wd10849 ⟨v8143, c8144, x8145, rfl, r8146, hf, H⟩
    try dsimp only at hF
    refine XX.at hf <| x_then <| C_seq <| R_nd <| nq (Q_move rfl) rfl rfl <| nq (Q_assign rfl) rfl rfl <| WL_nil <| x_then <| C_ret ?_
    obtain rfl := Option.some.inj hF
    exact fn_ret (l := [.tmp 2]) (vs := [v8143]) rfl rfl rfl ⟨v8143, c8144, x8145, rfl, rfl, r8146, H⟩
theorem c_48 {N : Nat} {C : Cx} {w : World} {ρ : View} {hs : List Hl} {v1 : Value} {v4 : Value} {v7 : Value} {x2 : (List (List Int))} {x5 : (List Int)} {x8 : (List Int)} (H : Hp C w ρ (hs)) (r3 : RdSl ρ (eA 256 (eI .i64)) v1 x2) (r6 : RdSl ρ (eI .i64) v4 x5) (r9 : RdSl ρ (eI .i64) v7 x8) {r : ((List (List Int)) × (List Int) × (List Int))} (hF : F_dofferref19_Merge N x2 x5 x8 = some r) :
    Calls Tryd.prog 48 [.agg #[v1, v4, v7]].toArray w (Rets (fun v w' => (∃ (v3174 : Value) (c3175 : (List Value)) (v3178 : Value) (c3179 : (List Value)) (v3182 : Value) (c3183 : (List Value)) (x3176 : (List (List Int))) (x3180 : (List Int)) (x3184 : (List Int)), (x3176, x3180, x3184) = r ∧ .agg #[v3174, v3178, v3182] = v ∧ rdL (eA 256 (eI .i64)) ρ x3176 c3175 ∧ rdL (eI .i64) ρ x3180 c3179 ∧ rdL (eI .i64) ρ x3184 c3183 ∧ Hp C w' ρ (Arr v3174 256 c3175 :: Arr v3178 1 c3179 :: Arr v3182 1 c3183 :: hs)))) := by
  unfold F_dofferref19_Merge at hF
  have h0 : Tryd.f48.body = some _ := rfl
  refine fn_calls' Tryd.func48 h0 (n := 79) rfl (by simp) <| C_seq <| R_nd <| ne (E_box H (vs := [v1, v4, v7]) rfl rfl) rfl rfl ?_
  rintro _ wd3187 ⟨b3186, rfl, H⟩
  refine ne (E_alloc H ty29 (zs := [.slice none 0 0, .slice none 0 0, .slice none 0 0]) rfl) rfl rfl ?_
  rintro _ wd3189 ⟨b3188, rfl, H⟩
  refine WL_nil <| x_then <| C_seq <| R_nd <| nq (v := .agg #[v1, v4, v7]) (Q_ldB (k := 1) (cs := [v1, v4, v7]) H.ok rfl ty29 rfl rfl rfl (fun h => nomatch h) rfl) rfl rfl ?_
  obtain ⟨q3190, hq3190, hF⟩ := bnd hF
  refine ne (E_call fn47 rfl (c_47 H  r3 r6 r9 hq3190)) rfl rfl ?_
  rintro _ wd3196 ⟨v3192, c3193, x3194, rfl, rfl, r3195, H⟩
  try dsimp only at hF
  refine nq (Q_assign rfl) rfl rfl <| WL_nil <| x_then <| C_seq <| R_nd <| nq (v := .agg #[.slice none 0 0, .slice none 0 0, .slice none 0 0]) (Q_buildS st29.choose_spec (ps := []) rfl trivial rfl) rfl rfl <| ne (E_alloc H ty29 (zs := [.slice none 0 0, .slice none 0 0, .slice none 0 0]) rfl) rfl rfl ?_
  rintro _ wd3198 ⟨b3197, rfl, H⟩
  refine ne (E_stB (k := 0) (cs := [.slice none 0 0, .slice none 0 0, .slice none 0 0]) (vs' := [.slice none 0 0, .slice none 0 0, .slice none 0 0]) H rfl ty29 rfl rfl rfl rfl (one_cons rfl (one_cons rfl (one_cons rfl one_nil))) (by simp) rfl) rfl rfl ?_
  rintro _ wd3199 H
  dsimp only [List.set] at H
  refine WL_nil <| x_then <| C_seq <| C_seq <| R_nd <| nq (Q_move rfl) rfl rfl <| nq (Q_lenA (k := 1) H.ok rfl r3195 (by decide) Tryd.underlying23 rfl) rfl rfl <| nq (Q_move rfl) rfl rfl <| WL_nil <| x_then ?_
  obtain ⟨o4565, ho4565, hF⟩ := bnd hF
  refine C_cutQ (fun a w' => ∃ (v4557 : Value) (c4558 : (List Value)) (v4561 : Value) (c4562 : (List Value)) (x4559 : (List (List Int))) (x4563 : (List Int)), (x4559, x4563) = o4565 ∧ rdL (eA 256 (eI .i64)) ρ x4559 c4558 ∧ rdL (eI .i64) ρ x4563 c4562 ∧ Fr 79 a [(1, .pointer (some ⟨b3186, 0, none⟩)), (2, .pointer (some ⟨b3188, 0, none⟩)), (3, v3192), (4, .pointer (some ⟨b3197, 0, none⟩))] ∧ Hp C w' ρ (Box b3186 [v1, v4, v7] :: Box b3188 [.slice none 0 0, .slice none 0 0, .slice none 0 0] :: Arr v3192 1 c3193 :: Box b3197 [v4557, v4561, .slice none 0 0] :: Arr v4557 256 c4558 :: Arr v4561 1 c4562 :: hs)) ?_ ?_
  · refine C_block ?_
    have H := H.nilArr 256
    have H := H.nilArr 1
    replace H := H.front 1 rfl
    dsimp only [List.eraseIdx] at H
    replace H := H.front 2 rfl
    dsimp only [List.eraseIdx] at H
    replace H := H.front 4 rfl
    dsimp only [List.eraseIdx] at H
    replace H := H.front 4 rfl
    dsimp only [List.eraseIdx] at H
    replace H := H.front 5 rfl
    dsimp only [List.eraseIdx] at H
    refine C_iter (f := fun s => F_dofferref19_Merge_l0 N x2 x5 x3194 s.1 s.2.1 s.2.2) ho4565 (fun s a w' => ∃ (v5018 : Value) (c5019 : (List Value)) (v5022 : Value) (c5023 : (List Value)) (x5017 : Int) (x5020 : (List (List Int))) (x5024 : (List Int)), (x5017, x5020, x5024) = s ∧ rdL (eA 256 (eI .i64)) ρ x5020 c5019 ∧ rdL (eI .i64) ρ x5024 c5023 ∧ Fr 79 a [(1, .pointer (some ⟨b3186, 0, none⟩)), (2, .pointer (some ⟨b3188, 0, none⟩)), (3, v3192), (4, .pointer (some ⟨b3197, 0, none⟩)), (15, v3192), (16, .int .i64 (x3194.length : Int)), (17, .int .i64 x5017)] ∧ Hp C w' ρ (Box b3186 [v1, v4, v7] :: Arr v3192 1 c3193 :: Box b3188 [.slice none 0 0, .slice none 0 0, .slice none 0 0] :: Box b3197 [v5018, v5022, .slice none 0 0] :: Arr v5018 256 c5019 :: Arr v5022 1 c5023 :: hs)) ?_ ?_
    · exact fun a hf => ⟨(.slice none 0 0), [], (.slice none 0 0), [], 0, [], [], rfl, rdL.nil, rdL.nil, hf.sub ⟨rfl, rfl, rfl, rfl, rfl, rfl, rfl, trivial⟩, H⟩
    · rintro s o5477 a wd5480 ⟨v5018, c5019, v5022, c5023, x5017, x5020, x5024, rfl, r5021, r5025, hf, H⟩ hB5478 hO5479
      replace hB5478 : F_dofferref19_Merge_l0 N x2 x5 x3194 x5017 x5020 x5024 = some o5477 := hB5478
      unfold F_dofferref19_Merge_l0 at hB5478
      refine CW.at hf <| C_seq <| R_nd <| nq (Q_lss rfl rfl) rfl rfl <| WL_nil <| x_then <| C_seq ?_
      refine C_cond rfl (fun hb => ?_) (fun hb => ?_)
      · replace hB5478 := itT hb hB5478
        refine C_skip <| x_then ?_
        obtain ⟨o5705, ho5705, hB5478⟩ := bnd hB5478
        refine C_cut (fun a w' => ∃ (v5697 : Value) (c5698 : (List Value)) (v5701 : Value) (c5702 : (List Value)) (x5699 : (List (List Int))) (x5703 : (List Int)), (x5699, x5703) = o5705 ∧ rdL (eA 256 (eI .i64)) ρ x5699 c5698 ∧ rdL (eI .i64) ρ x5703 c5702 ∧ Fr 79 a [(1, .pointer (some ⟨b3186, 0, none⟩)), (2, .pointer (some ⟨b3188, 0, none⟩)), (3, v3192), (4, .pointer (some ⟨b3197, 0, none⟩)), (15, v3192), (16, .int .i64 (x3194.length : Int)), (17, .int .i64 x5017)] ∧ Hp C w' ρ (Box b3186 [v1, v4, v7] :: Arr v3192 1 c3193 :: Box b3188 [.slice none 0 0, .slice none 0 0, .slice none 0 0] :: Box b3197 [v5697, v5701, .slice none 0 0] :: Arr v5697 256 c5698 :: Arr v5701 1 c5702 :: hs)) ?_ ?_
        · refine C_block <| C_seq <| R_nd <| nq (Q_move rfl) rfl rfl ?_
          obtain ⟨x5706, hx5706, ho5705⟩ := bnd ho5705
          obtain ⟨b5707, o5708, hi5712, hc5710, ha5711⟩ := arr_at (hs := [Arr v3192 1 c3193]) (k := 0) (by decide) (H.okS (by simp)) rfl r3195 hx5706
          refine nq (Q_idx hi5712 Tryd.underlying23 ty3 rfl rfl) rfl rfl <| nq (v := .int .i64 x5706) (Q_ld (show cellsAt _ _ _ [.int .i64 x5706] from (show _ = [_] from hc5710) ▸ (ha5711 _ (Ok.subS (by simp) H.ok))) ty3 rfl (fun _ => rfl) rfl rfl) rfl rfl <| nq (Q_assign rfl) rfl rfl <| nq (Q_assign rfl) rfl rfl <| WL_nil <| x_then <| C_seq <| C_seq <| R_nd <| nq (Q_move rfl) rfl rfl <| nq (v := .pointer (some ⟨b3197, 0, none⟩)) (Q_fld Tryd.underlying29 rfl ty27 (by decide) rfl rfl) rfl rfl <| nq (v := v5018) (Q_ldB (k := 3) (cs := [v5018]) H.ok rfl ty27 rfl rfl rfl (fun _ => rfl) rfl) rfl rfl <| nq (Q_lenA (k := 4) H.ok rfl r5021 (by decide) Tryd.underlying27 rfl) rfl rfl <| nq (Q_lss rfl rfl) rfl rfl ?_
          refine WL_nil <| x_then ?_
          refine C_cond rfl (fun hb => ?_) (fun hb => ?_)
          · replace ho5705 := itT hb ho5705
            refine C_exit <| x_then_exit <| x_block_exit ?_
            replace H := H.front 5 rfl
            dsimp only [List.eraseIdx] at H
            replace H := H.front 5 rfl
            dsimp only [List.eraseIdx] at H
            replace H := H.front 5 rfl
            dsimp only [List.eraseIdx] at H
            replace H := H.front 5 rfl
            dsimp only [List.eraseIdx] at H
            replace H := H.front 5 rfl
            dsimp only [List.eraseIdx] at H
            replace H := H.front 5 rfl
            dsimp only [List.eraseIdx] at H
            obtain rfl := Option.some.inj ho5705
            refine x_A fun a hf => ⟨v5018, c5019, v5022, c5023, x5020, x5024, rfl, r5021, r5025, hf.sub ⟨rfl, rfl, rfl, rfl, rfl, rfl, rfl, trivial⟩, H⟩
          · replace ho5705 := itF hb ho5705
            refine C_skip <| x_then <| C_seq <| R_nd <| nq (v := .agg (repC 256 [.int .i64 0]).toArray) (Q_build0 (zs := (repC 256 [.int .i64 0])) ty57 Tryd.underlying57 ty3 rfl) rfl rfl <| ne (E_allocA (N := 256) (n := 1) (zs := (repC 256 [.int .i64 0])) H ty57 rfl (by simp [repC_length])) rfl rfl ?_
            rintro _ wd5714 ⟨b5713, rfl, H⟩
            refine ne (E_stW (k := 0) H rfl ty57 rfl rfl (rdL.one (rdL_rep (e:=(eI .i64)) (ρ:=ρ) (rfl) 256)) (arr_clen (rdL_rep (e:=(eI .i64)) (ρ:=ρ) (rfl) 256) List.length_replicate) (arr_clen (rdL_rep (e:=(eI .i64)) (ρ:=ρ) (rfl) 256) List.length_replicate)) rfl rfl ?_
            rintro _ wd5715 H
            dsimp only [List.set] at H
            refine WL_nil <| x_then <| C_seq <| C_seq <| R_nd <| nq (v := .pointer (some ⟨b3186, 0, none⟩)) (Q_fld Tryd.underlying29 rfl ty27 (by decide) rfl rfl) rfl rfl <| nq (v := v1) (Q_ldB (k := 1) (cs := [v1]) H.ok rfl ty27 rfl rfl rfl (fun _ => rfl) rfl) rfl rfl <| nq (Q_move rfl) rfl rfl ?_
            obtain ⟨x5716, hx5716, ho5705⟩ := bnd ho5705
            obtain ⟨b5717, o5718, c5719, hc5720, ha5721, hi5722⟩ := idxR r3 hx5716
            refine nq (Q_idx hi5722 Tryd.underlying27 ty57 rfl rfl) rfl rfl <| nq (v := .agg c5719.toArray) (Q_ld (ha5721.up H.ok.view) ty57 ((eA 256 (eI .i64)).len hc5720) (fun h => nomatch h) rfl rfl) rfl rfl <| nq (Q_move rfl) rfl rfl <| WL_nil <| x_then ?_
            obtain ⟨o5791, ho5791, ho5705⟩ := bnd ho5705
            refine C_cutQ (fun a w' => ∃ (c5787 : (List Value)) (x5788 : (List Int)), x5788 = o5791 ∧ rdL (eI .i64) ρ x5788 c5787 ∧ x5788.length = 256 ∧ Fr 79 a [(1, .pointer (some ⟨b3186, 0, none⟩)), (2, .pointer (some ⟨b3188, 0, none⟩)), (3, v3192), (4, .pointer (some ⟨b3197, 0, none⟩)), (5, .int .i64 x5017), (7, .pointer (some ⟨b5713, 0, none⟩)), (15, v3192), (16, .int .i64 (x3194.length : Int)), (17, .int .i64 x5017)] ∧ Hp C w' ρ (Box b3186 [v1, v4, v7] :: Arr v3192 1 c3193 :: Box b3188 [.slice none 0 0, .slice none 0 0, .slice none 0 0] :: Box b3197 [v5018, v5022, .slice none 0 0] :: Arr v5018 256 c5019 :: Arr v5022 1 c5023 :: Arr (.slice (some ⟨b5713, 0, none⟩) 256 256) 1 c5787 :: hs)) ?_ ?_
            · refine C_block ?_
              replace H := H.front 6 rfl
              dsimp only [List.eraseIdx] at H
              replace H := H.front 6 rfl
              dsimp only [List.eraseIdx] at H
              replace H := H.front 6 rfl
              dsimp only [List.eraseIdx] at H
              replace H := H.front 6 rfl
              dsimp only [List.eraseIdx] at H
              replace H := H.front 6 rfl
              dsimp only [List.eraseIdx] at H
              replace H := H.front 6 rfl
              dsimp only [List.eraseIdx] at H
              refine C_iter (f := fun s => F_dofferref19_Merge_l1 N x3194 x5716 s.1 s.2) ho5791 (fun s a w' => ∃ (c5813 : (List Value)) (x5812 : Int) (x5814 : (List Int)), (x5812, x5814) = s ∧ rdL (eI .i64) ρ x5814 c5813 ∧ x5814.length = 256 ∧ Fr 79 a [(1, .pointer (some ⟨b3186, 0, none⟩)), (2, .pointer (some ⟨b3188, 0, none⟩)), (3, v3192), (4, .pointer (some ⟨b3197, 0, none⟩)), (5, .int .i64 x5017), (7, .pointer (some ⟨b5713, 0, none⟩)), (15, v3192), (16, .int .i64 (x3194.length : Int)), (17, .int .i64 x5017), (32, .agg c5719.toArray), (33, .int .i64 x5812)] ∧ Hp C w' ρ (Box b3186 [v1, v4, v7] :: Arr v3192 1 c3193 :: Box b3188 [.slice none 0 0, .slice none 0 0, .slice none 0 0] :: Box b3197 [v5018, v5022, .slice none 0 0] :: Arr v5018 256 c5019 :: Arr v5022 1 c5023 :: Arr (.slice (some ⟨b5713, 0, none⟩) 256 256) 1 c5813 :: hs)) ?_ ?_
              · exact fun a hf => ⟨(repC 256 [.int .i64 0]), 0, (List.replicate 256 0), rfl, (rdL_rep (e:=(eI .i64)) (ρ:=ρ) (rfl) 256), List.length_replicate, hf.sub ⟨rfl, rfl, rfl, rfl, rfl, rfl, rfl, rfl, rfl, rfl, rfl, trivial⟩, H⟩
              · rintro s o5837 a wd5840 ⟨c5813, x5812, x5814, rfl, r5815, lp5816, hf, H⟩ hB5838 hO5839
                replace hB5838 : F_dofferref19_Merge_l1 N x3194 x5716 x5812 x5814 = some o5837 := hB5838
                unfold F_dofferref19_Merge_l1 at hB5838
                refine CW.at hf <| C_seq <| R_nd <| nq (Q_lss rfl rfl) rfl rfl <| WL_nil <| x_then <| C_seq ?_
                refine C_cond rfl (fun hb => ?_) (fun hb => ?_)
                · replace hB5838 := itT hb hB5838
                  refine C_skip <| x_then <| C_seq <| C_block <| C_seq <| R_nd <| nq (Q_move rfl) rfl rfl ?_
                  obtain ⟨x5841, hx5841, hB5838⟩ := bnd hB5838
                  refine nq (Q_ixI hc5720.2 hc5720.1 hx5841 Tryd.underlying57 rfl rfl ty3 rfl) rfl rfl <| nq (Q_assign rfl) rfl rfl <| nq (Q_assign rfl) rfl rfl <| WL_nil <| x_then <| R_nd <| nq (Q_move rfl) rfl rfl <| nq (Q_move rfl) rfl rfl <| nq (Q_move rfl) rfl rfl ?_
                  obtain ⟨x5842, hx5842, hB5838⟩ := bnd hB5838
                  obtain ⟨b5843, o5844, hi5848, hc5846, ha5847⟩ := arr_at (hs := [Arr v3192 1 c3193]) (k := 0) (by decide) (H.okS (by simp)) rfl r3195 hx5842
                  refine nq (Q_idx hi5848 Tryd.underlying23 ty3 rfl rfl) rfl rfl <| nq (v := .int .i64 x5842) (Q_ld (show cellsAt _ _ _ [.int .i64 x5842] from (show _ = [_] from hc5846) ▸ (ha5847 _ (Ok.subS (by simp) H.ok))) ty3 rfl (fun _ => rfl) rfl rfl) rfl rfl ?_
                  obtain ⟨x5849, hx5849, hB5838⟩ := bnd hB5838
                  have hn5851 := idx_lt (N := 256) (lp5816) hx5849
                  have hi5850 : IdxOk (.slice (some ⟨b5713, 0, none⟩) 256 256) x5812 1 b5713 (0 + x5812.toNat * 1) := ⟨0, 256, 256, rfl, hn5851.1, hn5851.2, rfl⟩
                  refine nq (Q_idxA hn5851.1 hn5851.2 Tryd.underlying57 ty3 rfl rfl) rfl rfl ?_
                  obtain ⟨x5852, hx5852, hB5838⟩ := bnd hB5838
                  obtain ⟨hs5853a, hs5853b, hs5853c⟩ := setI_some hx5852
                  have r5854 : rdL (eI .i64) ρ x5852 (setC c5813 (x5812.toNat * 1 + 0) [.int .i64 x5842]) := hs5853c ▸ rdL.set r5815 hs5853b (rfl)
                  refine ne (E_stA (k := 6) (j := 0) (c := [.int .i64 x5842]) H rfl ty3 hi5850 rfl rfl rfl rfl (one_cons rfl one_nil) (by decide)) rfl rfl ?_
                  rintro _ wd5855 H
                  dsimp only [List.set] at H
                  refine WL_nil <| x_block <| x_then <| R_nd <| nq (Q_add rfl rfl) rfl rfl <| nq (Q_move rfl) rfl rfl <| WL_nil ?_
                  replace H := H.front 6 rfl
                  dsimp only [List.eraseIdx] at H
                  replace H := H.front 6 rfl
                  dsimp only [List.eraseIdx] at H
                  replace H := H.front 6 rfl
                  dsimp only [List.eraseIdx] at H
                  replace H := H.front 6 rfl
                  dsimp only [List.eraseIdx] at H
                  replace H := H.front 6 rfl
                  dsimp only [List.eraseIdx] at H
                  replace H := H.front 6 rfl
                  dsimp only [List.eraseIdx] at H
                  replace H := H.front 6 rfl
                  dsimp only [List.eraseIdx] at H
                  obtain rfl := Option.some.inj hB5838
                  refine x_A fun a hf => ⟨_, rfl, (setC c5813 (x5812.toNat * 1 + 0) [.int .i64 x5842]), w64 (x5812 + 1), x5852, rfl, r5854, (setI_len hx5852 lp5816), hf.sub ⟨rfl, rfl, rfl, rfl, rfl, rfl, rfl, rfl, rfl, rfl, rfl, trivial⟩, H⟩
                · replace hB5838 := itF hb hB5838
                  refine C_exit <| x_then_exit <| x_then_exit <| x_block_exit ?_
                  replace H := H.front 6 rfl
                  dsimp only [List.eraseIdx] at H
                  replace H := H.front 6 rfl
                  dsimp only [List.eraseIdx] at H
                  replace H := H.front 6 rfl
                  dsimp only [List.eraseIdx] at H
                  replace H := H.front 6 rfl
                  dsimp only [List.eraseIdx] at H
                  replace H := H.front 6 rfl
                  dsimp only [List.eraseIdx] at H
                  replace H := H.front 6 rfl
                  dsimp only [List.eraseIdx] at H
                  replace H := H.front 6 rfl
                  dsimp only [List.eraseIdx] at H
                  obtain rfl := Option.some.inj hB5838
                  obtain rfl := hO5839 _ rfl
                  refine x_A fun a hf => ⟨c5813, x5814, rfl, r5815, lp5816, hf.sub ⟨rfl, rfl, rfl, rfl, rfl, rfl, rfl, rfl, rfl, trivial⟩, H⟩
            · rintro a wd5856 ⟨c5787, x5788, rfl, r5789, lp5790, hf, H⟩
              try dsimp only at ho5705
              refine XX.at hf <| x_then <| C_seq <| R_nd <| nq (v := .pointer (some ⟨b3197, 0, none⟩)) (Q_fld Tryd.underlying29 rfl ty27 (by decide) rfl rfl) rfl rfl <| nq (v := v5018) (Q_ldB (k := 3) (cs := [v5018]) H.ok rfl ty27 rfl rfl rfl (fun _ => rfl) rfl) rfl rfl <| nq (Q_ldW (k := 6) H.ok rfl ty57 rfl (arr_clen r5789 lp5790)) rfl rfl <| ne (E_bslice (xs := [.tmp 46]) (vs := [.agg c5787.toArray]) H Tryd.underlying27 ty57 (by decide) (cs := c5787) rfl (sz_cons (arr_clen r5789 lp5790) sz_nil) (by simp [Value.cells]) (by simp) (by simp) rfl rfl) rfl rfl ?_
              rintro _ wd5858 ⟨b5857, rfl, H⟩
              obtain ⟨x5859, hx5859, ho5705⟩ := bnd ho5705
              obtain ⟨ha5860a, ha5860b⟩ := app_some hx5859
              have r5862 : rdL (eA 256 (eI .i64)) ρ x5859 (c5019 ++ c5787) := ha5860b ▸ rdL.app r5021 (show rdL (eA 256 (eI .i64)) ρ ([x5788]) c5787 from rdL.single ⟨lp5790, r5789⟩)
              refine ne (E_append (k := 5) H rfl Tryd.underlying27 ty57 rfl (by decide) (by decide) rfl rfl (Src.ofArr (k := 0) H.ok rfl) (rdL.one (show rdL (eA 256 (eI .i64)) ρ ([x5788]) c5787 from rdL.single ⟨lp5790, r5789⟩)) (app_fit r5021 (show rdL (eA 256 (eI .i64)) ρ ([x5788]) c5787 from rdL.single ⟨lp5790, r5789⟩) ha5860a)) rfl rfl ?_
              rintro v5861 wd5864 ⟨H, hc5863⟩
              dsimp only [List.set] at H
              refine nq (v := .pointer (some ⟨b3197, 0, none⟩)) (Q_fld Tryd.underlying29 rfl ty27 (by decide) rfl rfl) rfl rfl <| ne (E_stB (k := 4) (cs := [v5861]) (vs' := [v5861, v5022, .slice none 0 0]) H rfl ty27 rfl rfl (arr_cells (H.ok.get (k := 5) rfl)).1 rfl (one_cons (arr_cells (H.ok.get (k := 5) rfl)).2 one_nil) (by simp) rfl) rfl rfl ?_
              rintro _ wd5865 H
              dsimp only [List.set] at H
              refine WL_nil <| x_then ?_
              obtain ⟨o5895, ho5895, ho5705⟩ := bnd ho5705
              refine C_cutQ (fun a w' => ∃ (v5891 : Value) (c5892 : (List Value)) (x5893 : (List Int)), x5893 = o5895 ∧ rdL (eI .i64) ρ x5893 c5892 ∧ Fr 79 a [(1, .pointer (some ⟨b3186, 0, none⟩)), (2, .pointer (some ⟨b3188, 0, none⟩)), (3, v3192), (4, .pointer (some ⟨b3197, 0, none⟩)), (15, v3192), (16, .int .i64 (x3194.length : Int)), (17, .int .i64 x5017)] ∧ Hp C w' ρ (Box b3186 [v1, v4, v7] :: Arr v3192 1 c3193 :: Box b3188 [.slice none 0 0, .slice none 0 0, .slice none 0 0] :: Box b3197 [v5861, v5891, .slice none 0 0] :: Arr v5861 256 (c5019 ++ c5787) :: Arr v5891 1 c5892 :: hs)) ?_ ?_
              · refine R_dr (.take 0 (.take 2 (.take 3 (.take 4 (.take 5 (.take 6 (.two 1 7 (.one 7 (.one 8 (.take 9 (.one 10 .done)))) (.one 1 (.one 8 (.take 9 (.one 10 .done))))))))))) (fun w' => Ok w' ρ [Arr (.slice (some ⟨b5857, 0, none⟩) 1 1) 256 c5787, Box b3186 [v1, v4, v7], Arr v3192 1 c3193, Box b3188 [.slice none 0 0, .slice none 0 0, .slice none 0 0], Arr v5861 256 (c5019 ++ c5787), Arr (.slice (some ⟨b5713, 0, none⟩) 256 256) 1 c5787]) (by kernel_rfl) (by kernel_rfl) (by kernel_rfl) (H.drew.okS (by simp)) ?_
                replace H := H.drew
                refine dq (v := .pointer (some ⟨b3197, 1, none⟩)) rfl (fun _ _ => Q_fld Tryd.underlying29 rfl ty23 (by decide) rfl rfl) rfl rfl <| dq (v := .pointer (some ⟨b3186, 1, none⟩)) rfl (fun _ _ => Q_fld Tryd.underlying29 rfl ty23 (by decide) rfl rfl) rfl rfl <| dq (v := v4) rfl (fun _ hw => Q_ldB (k := 1) (cs := [v4]) hw rfl ty23 rfl rfl rfl (fun _ => rfl) rfl) rfl rfl <| dq rfl (fun _ _ => Q_move rfl) rfl rfl ?_
                obtain ⟨x5896, hx5896, ho5895⟩ := bnd ho5895
                obtain ⟨b5897, o5898, c5899, hc5900, ha5901, hi5902⟩ := idxR r6 hx5896
                refine dq rfl (fun _ _ => Q_idx hi5902 Tryd.underlying23 ty3 rfl rfl) rfl rfl <| dq (v := .int .i64 x5896) rfl (fun _ hw => Q_ld (show cellsAt _ _ _ [.int .i64 x5896] from (show _ = [_] from hc5900) ▸ (ha5901.up hw.view)) ty3 rfl (fun _ => rfl) rfl rfl) rfl rfl ?_
                refine d2 ?_ ?_
                · refine de rfl (Eff.quiet (v := v5022) (Q_ldB (k := 4) (cs := [v5022]) H.ok rfl ty23 rfl rfl rfl (fun _ => rfl) rfl)) rfl rfl ?_
                  rintro _ _ ⟨rfl, rfl⟩
                  refine ⟨H.okS (by simp), ?_⟩
                  refine d1 (de rfl (E_bslice (xs := [.tmp 56]) (vs := [.int .i64 x5896]) H Tryd.underlying23 ty3 (by decide) (cs := [.int .i64 x5896]) rfl (sz_cons rfl sz_nil) rfl (by simp) (by simp) rfl rfl) rfl rfl ?_)
                  rintro _ wd5904 ⟨b5903, rfl, H⟩
                  refine ⟨H.okS (by simp), ?_⟩
                  obtain ⟨x5905, hx5905, ho5895⟩ := bnd ho5895
                  obtain ⟨ha5906a, ha5906b⟩ := app_some hx5905
                  have r5908 : rdL (eI .i64) ρ x5905 (c5023 ++ ([.int .i64 x5896])) := ha5906b ▸ rdL.app r5025 (show rdL (eI .i64) ρ ([x5896]) ([.int .i64 x5896]) from ⟨([.int .i64 x5896]), _, rfl, rfl, rdL.nil⟩)
                  refine d1 (de rfl (E_append (k := 7) H rfl Tryd.underlying23 ty3 rfl (by decide) (by decide) rfl rfl (Src.ofArr (k := 0) H.ok rfl) (rdL.one (show rdL (eI .i64) ρ ([x5896]) ([.int .i64 x5896]) from ⟨([.int .i64 x5896]), _, rfl, rfl, rdL.nil⟩)) (app_fit r5025 (show rdL (eI .i64) ρ ([x5896]) ([.int .i64 x5896]) from ⟨([.int .i64 x5896]), _, rfl, rfl, rdL.nil⟩) ha5906a)) rfl rfl ?_)
                  rintro v5907 wd5910 ⟨H, hc5909⟩
                  dsimp only [List.set] at H
                  refine ⟨H.okS (by simp), ?_⟩
                  refine dq (v := .pointer (some ⟨b3197, 1, none⟩)) rfl (fun _ _ => Q_fld Tryd.underlying29 rfl ty23 (by decide) rfl rfl) rfl rfl ?_
                  refine d1 (de rfl (E_stB (k := 5) (cs := [v5907]) (vs' := [v5861, v5907, .slice none 0 0]) H rfl ty23 rfl rfl (arr_cells (H.ok.get (k := 7) rfl)).1 rfl (one_cons (arr_cells (H.ok.get (k := 7) rfl)).2 one_nil) (by simp) rfl) rfl rfl ?_)
                  rintro _ wd5911 H
                  dsimp only [List.set] at H
                  refine ⟨H.okS (by simp), ?_⟩
                  refine DL_nil ?_
                  replace H := H.front 7 rfl
                  dsimp only [List.eraseIdx] at H
                  replace H := H.front 7 rfl
                  dsimp only [List.eraseIdx] at H
                  replace H := H.front 7 rfl
                  dsimp only [List.eraseIdx] at H
                  replace H := H.front 7 rfl
                  dsimp only [List.eraseIdx] at H
                  replace H := H.front 7 rfl
                  dsimp only [List.eraseIdx] at H
                  replace H := H.front 7 rfl
                  dsimp only [List.eraseIdx] at H
                  replace H := H.drop 6 rfl
                  dsimp only [List.eraseIdx] at H
                  replace H := H.drop 6 rfl
                  dsimp only [List.eraseIdx] at H
                  replace H := H.drop 6 rfl
                  dsimp only [List.eraseIdx] at H
                  obtain rfl := Option.some.inj ho5895
                  refine x_A fun a hf => ⟨v5907, (c5023 ++ ([.int .i64 x5896])), x5905, rfl, r5908, hf.sub ⟨rfl, rfl, rfl, rfl, rfl, rfl, rfl, trivial⟩, H⟩
                · refine de rfl (E_bslice (xs := [.tmp 56]) (vs := [.int .i64 x5896]) H Tryd.underlying23 ty3 (by decide) (cs := [.int .i64 x5896]) rfl (sz_cons rfl sz_nil) rfl (by simp) (by simp) rfl rfl) rfl rfl ?_
                  rintro _ wd5913 ⟨b5912, rfl, H⟩
                  refine ⟨H.okS (by simp), ?_⟩
                  refine d1 (de rfl (Eff.quiet (v := v5022) (Q_ldB (k := 5) (cs := [v5022]) H.ok rfl ty23 rfl rfl rfl (fun _ => rfl) rfl)) rfl rfl ?_)
                  rintro _ _ ⟨rfl, rfl⟩
                  refine ⟨H.okS (by simp), ?_⟩
                  obtain ⟨x5914, hx5914, ho5895⟩ := bnd ho5895
                  obtain ⟨ha5915a, ha5915b⟩ := app_some hx5914
                  have r5917 : rdL (eI .i64) ρ x5914 (c5023 ++ ([.int .i64 x5896])) := ha5915b ▸ rdL.app r5025 (show rdL (eI .i64) ρ ([x5896]) ([.int .i64 x5896]) from ⟨([.int .i64 x5896]), _, rfl, rfl, rdL.nil⟩)
                  refine d1 (de rfl (E_append (k := 7) H rfl Tryd.underlying23 ty3 rfl (by decide) (by decide) rfl rfl (Src.ofArr (k := 0) H.ok rfl) (rdL.one (show rdL (eI .i64) ρ ([x5896]) ([.int .i64 x5896]) from ⟨([.int .i64 x5896]), _, rfl, rfl, rdL.nil⟩)) (app_fit r5025 (show rdL (eI .i64) ρ ([x5896]) ([.int .i64 x5896]) from ⟨([.int .i64 x5896]), _, rfl, rfl, rdL.nil⟩) ha5915a)) rfl rfl ?_)
                  rintro v5916 wd5919 ⟨H, hc5918⟩
                  dsimp only [List.set] at H
                  refine ⟨H.okS (by simp), ?_⟩
                  refine dq (v := .pointer (some ⟨b3197, 1, none⟩)) rfl (fun _ _ => Q_fld Tryd.underlying29 rfl ty23 (by decide) rfl rfl) rfl rfl ?_
                  refine d1 (de rfl (E_stB (k := 5) (cs := [v5916]) (vs' := [v5861, v5916, .slice none 0 0]) H rfl ty23 rfl rfl (arr_cells (H.ok.get (k := 7) rfl)).1 rfl (one_cons (arr_cells (H.ok.get (k := 7) rfl)).2 one_nil) (by simp) rfl) rfl rfl ?_)
                  rintro _ wd5920 H
                  dsimp only [List.set] at H
                  refine ⟨H.okS (by simp), ?_⟩
                  refine DL_nil ?_
                  replace H := H.front 7 rfl
                  dsimp only [List.eraseIdx] at H
                  replace H := H.front 7 rfl
                  dsimp only [List.eraseIdx] at H
                  replace H := H.front 7 rfl
                  dsimp only [List.eraseIdx] at H
                  replace H := H.front 7 rfl
                  dsimp only [List.eraseIdx] at H
                  replace H := H.front 7 rfl
                  dsimp only [List.eraseIdx] at H
                  replace H := H.front 7 rfl
                  dsimp only [List.eraseIdx] at H
                  replace H := H.drop 6 rfl
                  dsimp only [List.eraseIdx] at H
                  replace H := H.drop 6 rfl
                  dsimp only [List.eraseIdx] at H
                  replace H := H.drop 6 rfl
                  dsimp only [List.eraseIdx] at H
                  obtain rfl := Option.some.inj ho5895
                  refine x_A fun a hf => ⟨v5916, (c5023 ++ ([.int .i64 x5896])), x5914, rfl, r5917, hf.sub ⟨rfl, rfl, rfl, rfl, rfl, rfl, rfl, trivial⟩, H⟩
              · rintro a wd5921 ⟨v5891, c5892, x5893, rfl, r5894, hf, H⟩
                try dsimp only at ho5705
                refine XX.at hf <| x_block ?_
                replace H := H.front 5 rfl
                dsimp only [List.eraseIdx] at H
                replace H := H.front 5 rfl
                dsimp only [List.eraseIdx] at H
                replace H := H.front 5 rfl
                dsimp only [List.eraseIdx] at H
                replace H := H.front 5 rfl
                dsimp only [List.eraseIdx] at H
                replace H := H.front 5 rfl
                dsimp only [List.eraseIdx] at H
                replace H := H.front 5 rfl
                dsimp only [List.eraseIdx] at H
                obtain rfl := Option.some.inj ho5705
                refine x_A fun a hf => ⟨v5861, (c5019 ++ c5787), v5891, c5892, x5859, x5893, rfl, r5862, r5894, hf.sub ⟨rfl, rfl, rfl, rfl, rfl, rfl, rfl, trivial⟩, H⟩
        · rintro a wd5922 ⟨v5697, c5698, v5701, c5702, x5699, x5703, rfl, r5700, r5704, hf, H⟩
          try dsimp only at hB5478
          refine CW.at hf <| R_nd <| nq (Q_add rfl rfl) rfl rfl <| nq (Q_move rfl) rfl rfl <| WL_nil ?_
          replace H := H.front 5 rfl
          dsimp only [List.eraseIdx] at H
          replace H := H.front 5 rfl
          dsimp only [List.eraseIdx] at H
          replace H := H.front 5 rfl
          dsimp only [List.eraseIdx] at H
          replace H := H.front 5 rfl
          dsimp only [List.eraseIdx] at H
          replace H := H.front 5 rfl
          dsimp only [List.eraseIdx] at H
          replace H := H.front 5 rfl
          dsimp only [List.eraseIdx] at H
          obtain rfl := Option.some.inj hB5478
          refine x_A fun a hf => ⟨_, rfl, v5697, c5698, v5701, c5702, w64 (x5017 + 1), x5699, x5703, rfl, r5700, r5704, hf.sub ⟨rfl, rfl, rfl, rfl, rfl, rfl, rfl, trivial⟩, H⟩
      · replace hB5478 := itF hb hB5478
        refine C_exit <| x_then_exit <| x_then_exit <| x_block_exit ?_
        replace H := H.front 5 rfl
        dsimp only [List.eraseIdx] at H
        replace H := H.front 5 rfl
        dsimp only [List.eraseIdx] at H
        replace H := H.front 5 rfl
        dsimp only [List.eraseIdx] at H
        replace H := H.front 4 rfl
        dsimp only [List.eraseIdx] at H
        replace H := H.front 5 rfl
        dsimp only [List.eraseIdx] at H
        replace H := H.front 5 rfl
        dsimp only [List.eraseIdx] at H
        obtain rfl := Option.some.inj hB5478
        obtain rfl := hO5479 _ rfl
        refine x_A fun a hf => ⟨v5018, c5019, v5022, c5023, x5020, x5024, rfl, r5021, r5025, hf.sub ⟨rfl, rfl, rfl, rfl, trivial⟩, H⟩
  · rintro a wd5923 ⟨v4557, c4558, v4561, c4562, x4559, x4563, rfl, r4560, r4564, hf, H⟩
    try dsimp only at hF
    refine XX.at hf <| x_then <| C_seq <| C_seq <| R_nd <| nq (v := .pointer (some ⟨b3186, 2, none⟩)) (Q_fld Tryd.underlying29 rfl ty23 (by decide) rfl rfl) rfl rfl <| nq (v := v7) (Q_ldB (k := 0) (cs := [v7]) H.ok rfl ty23 rfl rfl rfl (fun _ => rfl) rfl) rfl rfl <| nq (Q_len Tryd.underlying23 rfl r9) rfl rfl <| nq (Q_move rfl) rfl rfl <| WL_nil <| x_then ?_
    obtain ⟨o6136, ho6136, hF⟩ := bnd hF
    refine C_cutQ (fun a w' => ∃ (v6132 : Value) (c6133 : (List Value)) (x6134 : (List Int)), x6134 = o6136 ∧ rdL (eI .i64) ρ x6134 c6133 ∧ Fr 79 a [(2, .pointer (some ⟨b3188, 0, none⟩)), (4, .pointer (some ⟨b3197, 0, none⟩))] ∧ Hp C w' ρ (Box b3188 [.slice none 0 0, .slice none 0 0, .slice none 0 0] :: Box b3197 [v4557, v4561, v6132] :: Arr v4557 256 c4558 :: Arr v4561 1 c4562 :: Arr v6132 1 c6133 :: hs)) ?_ ?_
    · refine C_block ?_
      have H := H.nilArr 1
      replace H := H.front 6 rfl
      dsimp only [List.eraseIdx] at H
      replace H := H.front 6 rfl
      dsimp only [List.eraseIdx] at H
      replace H := H.front 6 rfl
      dsimp only [List.eraseIdx] at H
      replace H := H.front 6 rfl
      dsimp only [List.eraseIdx] at H
      replace H := H.front 6 rfl
      dsimp only [List.eraseIdx] at H
      replace H := H.drop 6 rfl
      dsimp only [List.eraseIdx] at H
      refine C_iter (f := fun s => F_dofferref19_Merge_l2 N x8 x3194 s.1 s.2) ho6136 (fun s a w' => ∃ (v6205 : Value) (c6206 : (List Value)) (x6207 : (List Int)) (x6209 : Int), (x6207, x6209) = s ∧ rdL (eI .i64) ρ x6207 c6206 ∧ Fr 79 a [(2, .pointer (some ⟨b3188, 0, none⟩)), (3, v3192), (4, .pointer (some ⟨b3197, 0, none⟩)), (62, v7), (63, .int .i64 (x8.length : Int)), (64, .int .i64 x6209)] ∧ Hp C w' ρ (Box b3188 [.slice none 0 0, .slice none 0 0, .slice none 0 0] :: Arr v3192 1 c3193 :: Box b3197 [v4557, v4561, v6205] :: Arr v4557 256 c4558 :: Arr v4561 1 c4562 :: Arr v6205 1 c6206 :: hs)) ?_ ?_
      · exact fun a hf => ⟨(.slice none 0 0), [], [], 0, rfl, rdL.nil, hf.sub ⟨rfl, rfl, rfl, rfl, rfl, rfl, trivial⟩, H⟩
      · rintro s o6278 a wd6281 ⟨v6205, c6206, x6207, x6209, rfl, r6208, hf, H⟩ hB6279 hO6280
        replace hB6279 : F_dofferref19_Merge_l2 N x8 x3194 x6207 x6209 = some o6278 := hB6279
        unfold F_dofferref19_Merge_l2 at hB6279
        refine CW.at hf <| C_seq <| R_nd <| nq (Q_lss rfl rfl) rfl rfl <| WL_nil <| x_then <| C_seq ?_
        refine C_cond rfl (fun hb => ?_) (fun hb => ?_)
        · replace hB6279 := itT hb hB6279
          refine C_skip <| x_then <| C_seq <| C_block <| C_seq <| R_nd ?_
          obtain ⟨x6282, hx6282, hB6279⟩ := bnd hB6279
          obtain ⟨b6283, o6284, c6285, hc6286, ha6287, hi6288⟩ := idxR r9 hx6282
          refine nq (Q_idx hi6288 Tryd.underlying23 ty3 rfl rfl) rfl rfl <| nq (v := .int .i64 x6282) (Q_ld (show cellsAt _ _ _ [.int .i64 x6282] from (show _ = [_] from hc6286) ▸ (ha6287.up H.ok.view)) ty3 rfl (fun _ => rfl) rfl rfl) rfl rfl <| nq (Q_assign rfl) rfl rfl <| WL_nil <| x_then ?_
          obtain ⟨o6318, ho6318, hB6279⟩ := bnd hB6279
          refine C_cutQ (fun a w' => ∃ (v6314 : Value) (c6315 : (List Value)) (x6316 : (List Int)), x6316 = o6318 ∧ rdL (eI .i64) ρ x6316 c6315 ∧ Fr 79 a [(2, .pointer (some ⟨b3188, 0, none⟩)), (3, v3192), (4, .pointer (some ⟨b3197, 0, none⟩)), (62, v7), (63, .int .i64 (x8.length : Int)), (64, .int .i64 x6209)] ∧ Hp C w' ρ (Box b3188 [.slice none 0 0, .slice none 0 0, .slice none 0 0] :: Arr v3192 1 c3193 :: Box b3197 [v4557, v4561, v6314] :: Arr v4557 256 c4558 :: Arr v4561 1 c4562 :: Arr v6314 1 c6315 :: hs)) ?_ ?_
          · refine R_dr (.take 0 (.take 2 (.take 3 (.take 4 (.take 5 (.two 1 6 (.one 6 (.one 7 (.take 8 (.one 9 .done)))) (.one 1 (.one 7 (.take 8 (.one 9 .done)))))))))) (fun w' => Ok w' ρ [Box b3188 [.slice none 0 0, .slice none 0 0, .slice none 0 0], Arr v3192 1 c3193, Arr v4557 256 c4558, Arr v4561 1 c4562]) (by kernel_rfl) (by kernel_rfl) (by kernel_rfl) (H.drew.okS (by simp)) ?_
            replace H := H.drew
            refine dq (v := .pointer (some ⟨b3197, 2, none⟩)) rfl (fun _ _ => Q_fld Tryd.underlying29 rfl ty23 (by decide) rfl rfl) rfl rfl <| dq rfl (fun _ _ => Q_move rfl) rfl rfl <| dq rfl (fun _ _ => Q_move rfl) rfl rfl ?_
            obtain ⟨x6319, hx6319, ho6318⟩ := bnd ho6318
            obtain ⟨b6320, o6321, hi6325, hc6323, ha6324⟩ := arr_at (hs := [Arr v3192 1 c3193]) (k := 0) (by decide) (H.okS (by simp)) rfl r3195 hx6319
            refine dq rfl (fun _ _ => Q_idx hi6325 Tryd.underlying23 ty3 rfl rfl) rfl rfl <| dq (v := .int .i64 x6319) rfl (fun _ hw => Q_ld (show cellsAt _ _ _ [.int .i64 x6319] from (show _ = [_] from hc6323) ▸ (ha6324 _ (Ok.subS (by simp) hw))) ty3 rfl (fun _ => rfl) rfl rfl) rfl rfl ?_
            refine d2 ?_ ?_
            · refine de rfl (Eff.quiet (v := v6205) (Q_ldB (k := 2) (cs := [v6205]) H.ok rfl ty23 rfl rfl rfl (fun _ => rfl) rfl)) rfl rfl ?_
              rintro _ _ ⟨rfl, rfl⟩
              refine ⟨H.okS (by simp), ?_⟩
              refine d1 (de rfl (E_bslice (xs := [.tmp 73]) (vs := [.int .i64 x6319]) H Tryd.underlying23 ty3 (by decide) (cs := [.int .i64 x6319]) rfl (sz_cons rfl sz_nil) rfl (by simp) (by simp) rfl rfl) rfl rfl ?_)
              rintro _ wd6327 ⟨b6326, rfl, H⟩
              refine ⟨H.okS (by simp), ?_⟩
              obtain ⟨x6328, hx6328, ho6318⟩ := bnd ho6318
              obtain ⟨ha6329a, ha6329b⟩ := app_some hx6328
              have r6331 : rdL (eI .i64) ρ x6328 (c6206 ++ ([.int .i64 x6319])) := ha6329b ▸ rdL.app r6208 (show rdL (eI .i64) ρ ([x6319]) ([.int .i64 x6319]) from ⟨([.int .i64 x6319]), _, rfl, rfl, rdL.nil⟩)
              refine d1 (de rfl (E_append (k := 6) H rfl Tryd.underlying23 ty3 rfl (by decide) (by decide) rfl rfl (Src.ofArr (k := 0) H.ok rfl) (rdL.one (show rdL (eI .i64) ρ ([x6319]) ([.int .i64 x6319]) from ⟨([.int .i64 x6319]), _, rfl, rfl, rdL.nil⟩)) (app_fit r6208 (show rdL (eI .i64) ρ ([x6319]) ([.int .i64 x6319]) from ⟨([.int .i64 x6319]), _, rfl, rfl, rdL.nil⟩) ha6329a)) rfl rfl ?_)
              rintro v6330 wd6333 ⟨H, hc6332⟩
              dsimp only [List.set] at H
              refine ⟨H.okS (by simp), ?_⟩
              refine dq (v := .pointer (some ⟨b3197, 2, none⟩)) rfl (fun _ _ => Q_fld Tryd.underlying29 rfl ty23 (by decide) rfl rfl) rfl rfl ?_
              refine d1 (de rfl (E_stB (k := 3) (cs := [v6330]) (vs' := [v4557, v4561, v6330]) H rfl ty23 rfl rfl (arr_cells (H.ok.get (k := 6) rfl)).1 rfl (one_cons (arr_cells (H.ok.get (k := 6) rfl)).2 one_nil) (by simp) rfl) rfl rfl ?_)
              rintro _ wd6334 H
              dsimp only [List.set] at H
              refine ⟨H.okS (by simp), ?_⟩
              refine DL_nil ?_
              replace H := H.front 6 rfl
              dsimp only [List.eraseIdx] at H
              replace H := H.front 6 rfl
              dsimp only [List.eraseIdx] at H
              replace H := H.front 6 rfl
              dsimp only [List.eraseIdx] at H
              replace H := H.front 6 rfl
              dsimp only [List.eraseIdx] at H
              replace H := H.front 6 rfl
              dsimp only [List.eraseIdx] at H
              replace H := H.front 6 rfl
              dsimp only [List.eraseIdx] at H
              replace H := H.drop 6 rfl
              dsimp only [List.eraseIdx] at H
              obtain rfl := Option.some.inj ho6318
              refine x_A fun a hf => ⟨v6330, (c6206 ++ ([.int .i64 x6319])), x6328, rfl, r6331, hf.sub ⟨rfl, rfl, rfl, rfl, rfl, rfl, trivial⟩, H⟩
            · refine de rfl (E_bslice (xs := [.tmp 73]) (vs := [.int .i64 x6319]) H Tryd.underlying23 ty3 (by decide) (cs := [.int .i64 x6319]) rfl (sz_cons rfl sz_nil) rfl (by simp) (by simp) rfl rfl) rfl rfl ?_
              rintro _ wd6336 ⟨b6335, rfl, H⟩
              refine ⟨H.okS (by simp), ?_⟩
              refine d1 (de rfl (Eff.quiet (v := v6205) (Q_ldB (k := 3) (cs := [v6205]) H.ok rfl ty23 rfl rfl rfl (fun _ => rfl) rfl)) rfl rfl ?_)
              rintro _ _ ⟨rfl, rfl⟩
              refine ⟨H.okS (by simp), ?_⟩
              obtain ⟨x6337, hx6337, ho6318⟩ := bnd ho6318
              obtain ⟨ha6338a, ha6338b⟩ := app_some hx6337
              have r6340 : rdL (eI .i64) ρ x6337 (c6206 ++ ([.int .i64 x6319])) := ha6338b ▸ rdL.app r6208 (show rdL (eI .i64) ρ ([x6319]) ([.int .i64 x6319]) from ⟨([.int .i64 x6319]), _, rfl, rfl, rdL.nil⟩)
              refine d1 (de rfl (E_append (k := 6) H rfl Tryd.underlying23 ty3 rfl (by decide) (by decide) rfl rfl (Src.ofArr (k := 0) H.ok rfl) (rdL.one (show rdL (eI .i64) ρ ([x6319]) ([.int .i64 x6319]) from ⟨([.int .i64 x6319]), _, rfl, rfl, rdL.nil⟩)) (app_fit r6208 (show rdL (eI .i64) ρ ([x6319]) ([.int .i64 x6319]) from ⟨([.int .i64 x6319]), _, rfl, rfl, rdL.nil⟩) ha6338a)) rfl rfl ?_)
              rintro v6339 wd6342 ⟨H, hc6341⟩
              dsimp only [List.set] at H
              refine ⟨H.okS (by simp), ?_⟩
              refine dq (v := .pointer (some ⟨b3197, 2, none⟩)) rfl (fun _ _ => Q_fld Tryd.underlying29 rfl ty23 (by decide) rfl rfl) rfl rfl ?_
              refine d1 (de rfl (E_stB (k := 3) (cs := [v6339]) (vs' := [v4557, v4561, v6339]) H rfl ty23 rfl rfl (arr_cells (H.ok.get (k := 6) rfl)).1 rfl (one_cons (arr_cells (H.ok.get (k := 6) rfl)).2 one_nil) (by simp) rfl) rfl rfl ?_)
              rintro _ wd6343 H
              dsimp only [List.set] at H
              refine ⟨H.okS (by simp), ?_⟩
              refine DL_nil ?_
              replace H := H.front 6 rfl
              dsimp only [List.eraseIdx] at H
              replace H := H.front 6 rfl
              dsimp only [List.eraseIdx] at H
              replace H := H.front 6 rfl
              dsimp only [List.eraseIdx] at H
              replace H := H.front 6 rfl
              dsimp only [List.eraseIdx] at H
              replace H := H.front 6 rfl
              dsimp only [List.eraseIdx] at H
              replace H := H.front 6 rfl
              dsimp only [List.eraseIdx] at H
              replace H := H.drop 6 rfl
              dsimp only [List.eraseIdx] at H
              obtain rfl := Option.some.inj ho6318
              refine x_A fun a hf => ⟨v6339, (c6206 ++ ([.int .i64 x6319])), x6337, rfl, r6340, hf.sub ⟨rfl, rfl, rfl, rfl, rfl, rfl, trivial⟩, H⟩
          · rintro a wd6344 ⟨v6314, c6315, x6316, rfl, r6317, hf, H⟩
            try dsimp only at hB6279
            refine XX.at hf <| x_block <| x_then <| R_nd <| nq (Q_add rfl rfl) rfl rfl <| nq (Q_move rfl) rfl rfl <| WL_nil ?_
            replace H := H.front 5 rfl
            dsimp only [List.eraseIdx] at H
            replace H := H.front 5 rfl
            dsimp only [List.eraseIdx] at H
            replace H := H.front 5 rfl
            dsimp only [List.eraseIdx] at H
            replace H := H.front 5 rfl
            dsimp only [List.eraseIdx] at H
            replace H := H.front 5 rfl
            dsimp only [List.eraseIdx] at H
            replace H := H.front 5 rfl
            dsimp only [List.eraseIdx] at H
            obtain rfl := Option.some.inj hB6279
            refine x_A fun a hf => ⟨_, rfl, v6314, c6315, x6316, w64 (x6209 + 1), rfl, r6317, hf.sub ⟨rfl, rfl, rfl, rfl, rfl, rfl, trivial⟩, H⟩
        · replace hB6279 := itF hb hB6279
          refine C_exit <| x_then_exit <| x_then_exit <| x_block_exit ?_
          replace H := H.front 5 rfl
          dsimp only [List.eraseIdx] at H
          replace H := H.front 5 rfl
          dsimp only [List.eraseIdx] at H
          replace H := H.front 5 rfl
          dsimp only [List.eraseIdx] at H
          replace H := H.front 5 rfl
          dsimp only [List.eraseIdx] at H
          replace H := H.front 4 rfl
          dsimp only [List.eraseIdx] at H
          replace H := H.drop 5 rfl
          dsimp only [List.eraseIdx] at H
          obtain rfl := Option.some.inj hB6279
          obtain rfl := hO6280 _ rfl
          refine x_A fun a hf => ⟨v6205, c6206, x6207, rfl, r6208, hf.sub ⟨rfl, rfl, trivial⟩, H⟩
    · rintro a wd6345 ⟨v6132, c6133, x6134, rfl, r6135, hf, H⟩
      try dsimp only at hF
      refine XX.at hf <| x_then <| C_seq <| R_nd <| nq (v := .agg #[v4557, v4561, v6132]) (Q_ldB (k := 1) (cs := [v4557, v4561, v6132]) H.ok rfl ty29 rfl rfl rfl (fun h => nomatch h) rfl) rfl rfl <| ne (E_stB (k := 0) (cs := [v4557, v4561, v6132]) (vs' := [v4557, v4561, v6132]) H rfl ty29 rfl rfl rfl rfl (one_cons (arr_cells (H.ok.get (k := 2) rfl)).2 (one_cons (arr_cells (H.ok.get (k := 3) rfl)).2 (one_cons (arr_cells (H.ok.get (k := 4) rfl)).2 one_nil))) (by simp) rfl) rfl rfl ?_
      rintro _ wd6346 H
      dsimp only [List.set] at H
      refine WL_nil <| x_then <| C_ret ?_
      have hRV : RV Tryd.prog wd6346 [(2, .pointer (some ⟨b3188, 0, none⟩))] [.cell 2 29] [.agg #[v4557, v4561, v6132]] := ⟨⟨_, rfl, run_ldv ty29 rfl (fun h => nomatch h) (box_at (H.ok.get (k := 0) rfl) 0 3)⟩, trivial⟩
      replace H := H.front 4 rfl
      dsimp only [List.eraseIdx] at H
      replace H := H.front 4 rfl
      dsimp only [List.eraseIdx] at H
      replace H := H.front 4 rfl
      dsimp only [List.eraseIdx] at H
      replace H := H.drop 3 rfl
      dsimp only [List.eraseIdx] at H
      replace H := H.drop 3 rfl
      dsimp only [List.eraseIdx] at H
      obtain rfl := Option.some.inj hF
      exact fn_retV (rs := [.cell 2 29]) (vs := [.agg #[v4557, v4561, v6132]]) rfl hRV ⟨v4557, c4558, v4561, c4562, v6132, c6133, x4559, x4563, x6134, rfl, rfl, r4560, r4564, r6135, H⟩
theorem c_10 {N : Nat} {C : Cx} {w : World} {ρ : View} {hs : List Hl} {v1 : Value} {v4 : Value} {v7 : Value} {x2 : (List (List Int))} {x5 : (List Int)} {x8 : (List Int)} (H : Hp C w ρ (hs)) {ge0 : Value} (gl0 : GErr ρ 0 ge0) (gl1 : GTab ρ 1 .u8 tab_math_bits_deBruijn64tab) (r3 : RdSl ρ (eA 256 (eI .i64)) v1 x2) (r6 : RdSl ρ (eI .i64) v4 x5) (r9 : RdSl ρ (eI .i64) v7 x8) {r : Bool} (hF : F_dofferlaw19_HopcroftLeast N x2 x5 x8 = some r) :
    Calls Tryd.prog 10 [.agg #[v1, v4, v7]].toArray w (Rets (fun v w' => (∃ (x133 : Bool), x133 = r ∧ .bool x133 = v ∧ Hp C w' ρ (hs)))) := by
  unfold F_dofferlaw19_HopcroftLeast at hF
  have h0 : Tryd.f10.body = some _ := rfl
  refine fn_calls' Tryd.func10 h0 (n := 65) rfl (by simp) <| C_seq <| R_nd <| ne (E_box H (vs := [v1, v4, v7]) rfl rfl) rfl rfl ?_
  rintro _ wd135 ⟨b134, rfl, H⟩
  refine nq (Q_assign rfl) rfl rfl <| WL_nil <| x_then <| C_seq <| C_seq <| R_nd ?_
  obtain ⟨q136, hq136, hF⟩ := bnd hF
  refine ne (E_call fn42 rfl (c_42 H   hq136)) rfl rfl ?_
  rintro _ wd139 ⟨x138, rfl, rfl, H⟩
  try dsimp only at hF
  refine nq (Q_not rfl) rfl rfl <| WL_nil <| x_then ?_
  refine C_cond rfl (fun hb => ?_) (fun hb => ?_)
  · replace hF := itT hb hF
    refine C_seq <| R_nd <| nq (Q_assign rfl) rfl rfl <| WL_nil <| x_then <| C_ret <| x_then_ret ?_
    replace H := H.drop 0 rfl
    dsimp only [List.eraseIdx] at H
    obtain rfl := Option.some.inj hF
    exact fn_ret (l := [.tmp 2]) (vs := [.bool false]) rfl rfl rfl ⟨false, rfl, rfl, H⟩
  · replace hF := itF hb hF
    refine C_skip <| x_then <| C_seq <| R_nd <| nq (v := .agg #[v1, v4, v7]) (Q_ldB (k := 0) (cs := [v1, v4, v7]) H.ok rfl ty25 rfl rfl rfl (fun h => nomatch h) rfl) rfl rfl ?_
    obtain ⟨q140, hq140, hF⟩ := bnd hF
    refine ne (E_call fn15 rfl (c_15 H  r3 r6 r9 hq140)) rfl rfl ?_
    rintro _ wd147 ⟨v142, c143, x144, x145, rfl, rfl, r146, H⟩
    try dsimp only at hF
    refine nq (Q_move rfl) rfl rfl <| nq (Q_extract rfl rfl) rfl rfl <| nq (Q_extract rfl rfl) rfl rfl <| ne (E_alloc H ty29 (zs := [.slice none 0 0, .slice none 0 0, .slice none 0 0]) rfl) rfl rfl ?_
    rintro _ wd149 ⟨b148, rfl, H⟩
    refine ne (E_stB (k := 0) (cs := [v142, v4, v7]) (vs' := [v142, v4, v7]) H rfl ty29 rfl rfl rfl rfl (one_cons (arr_cells (H.ok.get (k := 1) rfl)).2 (one_cons (RdSl.one r6) (one_cons (RdSl.one r9) one_nil))) (by simp) rfl) rfl rfl ?_
    rintro _ wd150 H
    dsimp only [List.set] at H
    refine nq (Q_assign rfl) rfl rfl <| WL_nil <| x_then <| C_seq ?_
    obtain ⟨o156, ho156, hF⟩ := bnd hF
    refine C_cut (fun a w' => ∃ (x155 : Bool), x155 = o156 ∧ Fr 65 a [(1, .pointer (some ⟨b134, 0, none⟩)), (3, .pointer (some ⟨b148, 0, none⟩)), (24, .bool x155)] ∧ Hp C w' ρ (Box b134 [v1, v4, v7] :: Box b148 [v142, v4, v7] :: Arr v142 256 c143 :: hs)) ?_ ?_
    · refine R_nd <| nq (Q_move rfl) rfl rfl <| nq (Q_not rfl) rfl rfl <| nq (Q_move rfl) rfl rfl ?_
      rcases Bool.eq_false_or_eq_true (!x145) with hb | hb
      · rw [hb]
        replace ho156 := itT hb ho156
        refine gs rfl rfl rfl rfl <| gs rfl rfl rfl rfl <| gs rfl rfl rfl rfl <| nq (Q_pickT rfl rfl) rfl rfl <| WL_nil ?_
        replace H := H.front 1 rfl
        dsimp only [List.eraseIdx] at H
        replace H := H.front 1 rfl
        dsimp only [List.eraseIdx] at H
        replace H := H.front 2 rfl
        dsimp only [List.eraseIdx] at H
        obtain rfl := Option.some.inj ho156
        refine x_A fun a hf => ⟨true, rfl, hf.sub ⟨rfl, rfl, rfl, trivial⟩, H⟩
      · rw [hb]
        replace ho156 := itF hb ho156
        refine gq (v := .agg #[v142, v4, v7]) (Q_ldB (k := 0) (cs := [v142, v4, v7]) H.ok rfl ty29 rfl rfl rfl (fun h => nomatch h) rfl) rfl rfl rfl ?_
        replace H := H.front 1 rfl
        dsimp only [List.eraseIdx] at H
        obtain ⟨q157, hq157, ho156⟩ := bnd ho156
        obtain ⟨C', ρ', hl158, HA, hL, hback⟩ := Hp.lend (A := []) (L := [Arr v142 256 c143]) (F := Box b148 [v142, v4, v7] :: Box b134 [v1, v4, v7] :: hs) H
        refine ge (E_call fn17 rfl (c_17 HA  (arr_rd (by decide) hl158 (hL (Arr v142 256 c143) (by simp)) r146) (r6.up hl158) (r9.up hl158) hq157)) rfl rfl rfl ?_
        rintro _ wd160 ⟨x159, rfl, rfl, H⟩
        try dsimp only at ho156
        replace H := hback H
        dsimp only [List.cons_append, List.nil_append] at H
        refine gq (Q_not rfl) rfl rfl rfl <| nq (Q_pickF rfl rfl) rfl rfl <| WL_nil ?_
        replace H := H.front 1 rfl
        dsimp only [List.eraseIdx] at H
        replace H := H.front 2 rfl
        dsimp only [List.eraseIdx] at H
        obtain rfl := Option.some.inj ho156
        refine x_A fun a hf => ⟨!x159, rfl, hf.sub ⟨rfl, rfl, rfl, trivial⟩, H⟩
    · rintro a wd161 ⟨x155, rfl, hf, H⟩
      try dsimp only at hF
      refine CW.at hf ?_
      refine C_cond rfl (fun hb => ?_) (fun hb => ?_)
      · replace hF := itT hb hF
        refine C_seq <| R_nd <| nq (Q_assign rfl) rfl rfl <| WL_nil <| x_then <| C_ret <| x_then_ret ?_
        replace H := H.drop 0 rfl
        dsimp only [List.eraseIdx] at H
        replace H := H.drop 0 rfl
        dsimp only [List.eraseIdx] at H
        replace H := H.drop 0 rfl
        dsimp only [List.eraseIdx] at H
        obtain rfl := Option.some.inj hF
        exact fn_ret (l := [.tmp 2]) (vs := [.bool true]) rfl rfl rfl ⟨true, rfl, rfl, H⟩
      · replace hF := itF hb hF
        refine C_skip <| x_then <| C_seq <| R_nd <| nq (v := .agg #[v1, v4, v7]) (Q_ldB (k := 0) (cs := [v1, v4, v7]) H.ok rfl ty25 rfl rfl rfl (fun h => nomatch h) rfl) rfl rfl ?_
        obtain ⟨q162, hq162, hF⟩ := bnd hF
        refine ne (E_call fn45 rfl (c_45 H gl0 gl1 r3 r6 r9 hq162)) rfl rfl ?_
        rintro _ wd176 ⟨v164, c165, v166, c167, v168, c169, x170, x171, x172, rfl, rfl, r173, r174, r175, H⟩
        try dsimp only at hF
        refine ne (E_alloc H ty25 (zs := [.slice none 0 0, .slice none 0 0, .slice none 0 0]) rfl) rfl rfl ?_
        rintro _ wd178 ⟨b177, rfl, H⟩
        refine ne (E_stB (k := 0) (cs := [v164, v166, v168]) (vs' := [v164, v166, v168]) H rfl ty25 rfl rfl rfl rfl (one_cons (arr_cells (H.ok.get (k := 1) rfl)).2 (one_cons (arr_cells (H.ok.get (k := 2) rfl)).2 (one_cons (arr_cells (H.ok.get (k := 3) rfl)).2 one_nil))) (by simp) rfl) rfl rfl ?_
        rintro _ wd179 H
        dsimp only [List.set] at H
        refine WL_nil <| x_then <| C_seq <| R_nd <| nq (v := .agg #[v142, v4, v7]) (Q_ldB (k := 5) (cs := [v142, v4, v7]) H.ok rfl ty29 rfl rfl rfl (fun h => nomatch h) rfl) rfl rfl ?_
        replace H := H.front 6 rfl
        dsimp only [List.eraseIdx] at H
        obtain ⟨q180, hq180, hF⟩ := bnd hF
        obtain ⟨C', ρ', hl181, HA, hL, hback⟩ := Hp.lend (A := []) (L := [Arr v142 256 c143]) (F := Box b177 [v164, v166, v168] :: Arr v164 256 c165 :: Arr v166 1 c167 :: Arr v168 1 c169 :: Box b134 [v1, v4, v7] :: Box b148 [v142, v4, v7] :: hs) H
        refine ne (E_call fn33 rfl (c_33 HA  (arr_rd (by decide) hl181 (hL (Arr v142 256 c143) (by simp)) r146) (r6.up hl181) (r9.up hl181) hq180)) rfl rfl ?_
        rintro _ wd194 ⟨v182, c183, v184, c185, v186, c187, x188, x189, x190, rfl, rfl, r191, r192, r193, H⟩
        try dsimp only at hF
        replace H := hback H
        replace r191 := rdL.flat (ρ := ρ') (ρ' := ρ) (flat_A _ (flat_I _)) r191
        replace r192 := rdL.flat (ρ := ρ') (ρ' := ρ) (flat_I _) r192
        replace r193 := rdL.flat (ρ := ρ') (ρ' := ρ) (flat_I _) r193
        dsimp only [List.cons_append, List.nil_append] at H
        refine ne (E_alloc H ty29 (zs := [.slice none 0 0, .slice none 0 0, .slice none 0 0]) rfl) rfl rfl ?_
        rintro _ wd196 ⟨b195, rfl, H⟩
        refine ne (E_stB (k := 0) (cs := [v182, v184, v186]) (vs' := [v182, v184, v186]) H rfl ty29 rfl rfl rfl rfl (one_cons (arr_cells (H.ok.get (k := 1) rfl)).2 (one_cons (arr_cells (H.ok.get (k := 2) rfl)).2 (one_cons (arr_cells (H.ok.get (k := 3) rfl)).2 one_nil))) (by simp) rfl) rfl rfl ?_
        rintro _ wd197 H
        dsimp only [List.set] at H
        refine WL_nil <| x_then <| C_seq <| R_nd <| nq (v := .agg #[v182, v184, v186]) (Q_ldB (k := 0) (cs := [v182, v184, v186]) H.ok rfl ty29 rfl rfl rfl (fun h => nomatch h) rfl) rfl rfl ?_
        replace H := H.front 3 rfl
        dsimp only [List.eraseIdx] at H
        replace H := H.front 3 rfl
        dsimp only [List.eraseIdx] at H
        replace H := H.front 3 rfl
        dsimp only [List.eraseIdx] at H
        obtain ⟨q198, hq198, hF⟩ := bnd hF
        obtain ⟨C', ρ', hl199, HA, hL, hback⟩ := Hp.lend (A := []) (L := [Arr v182 256 c183, Arr v184 1 c185, Arr v186 1 c187]) (F := Box b195 [v182, v184, v186] :: Arr v142 256 c143 :: Box b177 [v164, v166, v168] :: Arr v164 256 c165 :: Arr v166 1 c167 :: Arr v168 1 c169 :: Box b134 [v1, v4, v7] :: Box b148 [v142, v4, v7] :: hs) H
        refine ne (E_call fn48 rfl (c_48 HA  (arr_rd (by decide) hl199 (hL (Arr v182 256 c183) (by simp)) r191) (arr_rd (by decide) hl199 (hL (Arr v184 1 c185) (by simp)) r192) (arr_rd (by decide) hl199 (hL (Arr v186 1 c187) (by simp)) r193) hq198)) rfl rfl ?_
        rintro _ wd212 ⟨v200, c201, v202, c203, v204, c205, x206, x207, x208, rfl, rfl, r209, r210, r211, H⟩
        try dsimp only at hF
        replace H := hback H
        replace r209 := rdL.flat (ρ := ρ') (ρ' := ρ) (flat_A _ (flat_I _)) r209
        replace r210 := rdL.flat (ρ := ρ') (ρ' := ρ) (flat_I _) r210
        replace r211 := rdL.flat (ρ := ρ') (ρ' := ρ) (flat_I _) r211
        dsimp only [List.cons_append, List.nil_append] at H
        refine ne (E_alloc H ty29 (zs := [.slice none 0 0, .slice none 0 0, .slice none 0 0]) rfl) rfl rfl ?_
        rintro _ wd214 ⟨b213, rfl, H⟩
        refine ne (E_stB (k := 0) (cs := [v200, v202, v204]) (vs' := [v200, v202, v204]) H rfl ty29 rfl rfl rfl rfl (one_cons (arr_cells (H.ok.get (k := 1) rfl)).2 (one_cons (arr_cells (H.ok.get (k := 2) rfl)).2 (one_cons (arr_cells (H.ok.get (k := 3) rfl)).2 one_nil))) (by simp) rfl) rfl rfl ?_
        rintro _ wd215 H
        dsimp only [List.set] at H
        refine WL_nil <| x_then <| C_seq <| R_nd <| nq (v := .agg #[v164, v166, v168]) (Q_ldB (k := 9) (cs := [v164, v166, v168]) H.ok rfl ty25 rfl rfl rfl (fun h => nomatch h) rfl) rfl rfl ?_
        replace H := H.front 12 rfl
        dsimp only [List.eraseIdx] at H
        replace H := H.front 12 rfl
        dsimp only [List.eraseIdx] at H
        replace H := H.front 12 rfl
        dsimp only [List.eraseIdx] at H
        obtain ⟨q216, hq216, hF⟩ := bnd hF
        obtain ⟨C', ρ', hl217, HA, hL, hback⟩ := Hp.lend (A := []) (L := [Arr v164 256 c165, Arr v166 1 c167, Arr v168 1 c169]) (F := Box b213 [v200, v202, v204] :: Arr v200 256 c201 :: Arr v202 1 c203 :: Arr v204 1 c205 :: Arr v182 256 c183 :: Arr v184 1 c185 :: Arr v186 1 c187 :: Box b195 [v182, v184, v186] :: Arr v142 256 c143 :: Box b177 [v164, v166, v168] :: Box b134 [v1, v4, v7] :: Box b148 [v142, v4, v7] :: hs) H
        refine ne (E_call fn15 rfl (c_15 HA  (arr_rd (by decide) hl217 (hL (Arr v164 256 c165) (by simp)) r173) (arr_rd (by decide) hl217 (hL (Arr v166 1 c167) (by simp)) r174) (arr_rd (by decide) hl217 (hL (Arr v168 1 c169) (by simp)) r175) hq216)) rfl rfl ?_
        rintro _ wd223 ⟨v218, c219, x220, x221, rfl, rfl, r222, H⟩
        try dsimp only at hF
        replace H := hback H
        replace r222 := rdL.flat (ρ := ρ') (ρ' := ρ) (flat_A _ (flat_I _)) r222
        dsimp only [List.cons_append, List.nil_append] at H
        refine nq (Q_move rfl) rfl rfl <| nq (Q_extract rfl rfl) rfl rfl <| nq (Q_extract rfl rfl) rfl rfl <| ne (E_alloc H ty29 (zs := [.slice none 0 0, .slice none 0 0, .slice none 0 0]) rfl) rfl rfl ?_
        rintro _ wd225 ⟨b224, rfl, H⟩
        refine ne (E_stB (k := 0) (cs := [v218, v166, v168]) (vs' := [v218, v166, v168]) H rfl ty29 rfl rfl rfl rfl (one_cons (arr_cells (H.ok.get (k := 1) rfl)).2 (one_cons (arr_cells (H.ok.get (k := 3) rfl)).2 (one_cons (arr_cells (H.ok.get (k := 4) rfl)).2 one_nil))) (by simp) rfl) rfl rfl ?_
        rintro _ wd226 H
        dsimp only [List.set] at H
        refine nq (Q_assign rfl) rfl rfl <| WL_nil <| x_then ?_
        obtain ⟨o228, ho228, hF⟩ := bnd hF
        refine C_cut (fun a w' => ∃ (x227 : Bool), x227 = o228 ∧ Fr 65 a [(1, .pointer (some ⟨b134, 0, none⟩)), (5, .pointer (some ⟨b177, 0, none⟩)), (7, .pointer (some ⟨b213, 0, none⟩)), (8, .pointer (some ⟨b224, 0, none⟩)), (10, .bool x227)] ∧ Hp C w' ρ (Box b134 [v1, v4, v7] :: Box b177 [v164, v166, v168] :: Arr v164 256 c165 :: Arr v166 1 c167 :: Arr v168 1 c169 :: Box b213 [v200, v202, v204] :: Arr v200 256 c201 :: Arr v202 1 c203 :: Arr v204 1 c205 :: Box b224 [v218, v166, v168] :: Arr v218 256 c219 :: hs)) ?_ ?_
        · refine R_nd <| nq (v := .pointer (some ⟨b195, 0, none⟩)) (Q_fld Tryd.underlying29 rfl ty27 (by decide) rfl rfl) rfl rfl <| nq (v := v182) (Q_ldB (k := 12) (cs := [v182]) H.ok rfl ty27 rfl rfl rfl (fun _ => rfl) rfl) rfl rfl <| nq (Q_lenA (k := 9) H.ok rfl r191 (by decide) Tryd.underlying27 rfl) rfl rfl <| nq (v := .pointer (some ⟨b148, 0, none⟩)) (Q_fld Tryd.underlying29 rfl ty27 (by decide) rfl rfl) rfl rfl <| nq (v := v142) (Q_ldB (k := 16) (cs := [v142]) H.ok rfl ty27 rfl rfl rfl (fun _ => rfl) rfl) rfl rfl <| nq (Q_lenA (k := 13) H.ok rfl r146 (by decide) Tryd.underlying27 rfl) rfl rfl <| nq (Q_eql rfl rfl) rfl rfl <| nq (Q_move rfl) rfl rfl ?_
          rcases Bool.eq_false_or_eq_true ((x188.length : Int) == (x144.length : Int)) with hb | hb
          · rw [hb]
            replace ho228 := itT hb ho228
            refine gq (v := .pointer (some ⟨b213, 0, none⟩)) (Q_fld Tryd.underlying29 rfl ty27 (by decide) rfl rfl) rfl rfl rfl <| gq (v := v200) (Q_ldB (k := 5) (cs := [v200]) H.ok rfl ty27 rfl rfl rfl (fun _ => rfl) rfl) rfl rfl rfl <| gq (Q_lenA (k := 6) H.ok rfl r209 (by decide) Tryd.underlying27 rfl) rfl rfl rfl <| gq (v := .pointer (some ⟨b148, 0, none⟩)) (Q_fld Tryd.underlying29 rfl ty27 (by decide) rfl rfl) rfl rfl rfl <| gq (v := v142) (Q_ldB (k := 16) (cs := [v142]) H.ok rfl ty27 rfl rfl rfl (fun _ => rfl) rfl) rfl rfl rfl <| gq (Q_lenA (k := 13) H.ok rfl r146 (by decide) Tryd.underlying27 rfl) rfl rfl rfl <| gq (Q_eql rfl rfl) rfl rfl rfl <| nq (Q_pickT rfl rfl) rfl rfl <| nq (Q_assign rfl) rfl rfl <| WL_nil ?_
            replace H := H.front 1 rfl
            dsimp only [List.eraseIdx] at H
            replace H := H.front 1 rfl
            dsimp only [List.eraseIdx] at H
            replace H := H.front 8 rfl
            dsimp only [List.eraseIdx] at H
            replace H := H.front 8 rfl
            dsimp only [List.eraseIdx] at H
            replace H := H.front 8 rfl
            dsimp only [List.eraseIdx] at H
            replace H := H.front 8 rfl
            dsimp only [List.eraseIdx] at H
            replace H := H.front 8 rfl
            dsimp only [List.eraseIdx] at H
            replace H := H.front 8 rfl
            dsimp only [List.eraseIdx] at H
            replace H := H.front 8 rfl
            dsimp only [List.eraseIdx] at H
            replace H := H.front 14 rfl
            dsimp only [List.eraseIdx] at H
            replace H := H.front 15 rfl
            dsimp only [List.eraseIdx] at H
            replace H := H.drop 11 rfl
            dsimp only [List.eraseIdx] at H
            replace H := H.drop 11 rfl
            dsimp only [List.eraseIdx] at H
            replace H := H.drop 11 rfl
            dsimp only [List.eraseIdx] at H
            replace H := H.drop 11 rfl
            dsimp only [List.eraseIdx] at H
            replace H := H.drop 11 rfl
            dsimp only [List.eraseIdx] at H
            replace H := H.drop 11 rfl
            dsimp only [List.eraseIdx] at H
            obtain rfl := Option.some.inj ho228
            refine x_A fun a hf => ⟨(x206.length : Int) == (x144.length : Int), rfl, hf.sub ⟨rfl, rfl, rfl, rfl, rfl, trivial⟩, H⟩
          · rw [hb]
            replace ho228 := itF hb ho228
            refine gs rfl rfl rfl rfl <| gs rfl rfl rfl rfl <| gs rfl rfl rfl rfl <| gs rfl rfl rfl rfl <| gs rfl rfl rfl rfl <| gs rfl rfl rfl rfl <| gs rfl rfl rfl rfl <| nq (Q_pickF rfl rfl) rfl rfl <| nq (Q_assign rfl) rfl rfl <| WL_nil ?_
            replace H := H.front 1 rfl
            dsimp only [List.eraseIdx] at H
            replace H := H.front 1 rfl
            dsimp only [List.eraseIdx] at H
            replace H := H.front 8 rfl
            dsimp only [List.eraseIdx] at H
            replace H := H.front 8 rfl
            dsimp only [List.eraseIdx] at H
            replace H := H.front 8 rfl
            dsimp only [List.eraseIdx] at H
            replace H := H.front 8 rfl
            dsimp only [List.eraseIdx] at H
            replace H := H.front 8 rfl
            dsimp only [List.eraseIdx] at H
            replace H := H.front 8 rfl
            dsimp only [List.eraseIdx] at H
            replace H := H.front 8 rfl
            dsimp only [List.eraseIdx] at H
            replace H := H.front 14 rfl
            dsimp only [List.eraseIdx] at H
            replace H := H.front 15 rfl
            dsimp only [List.eraseIdx] at H
            replace H := H.drop 11 rfl
            dsimp only [List.eraseIdx] at H
            replace H := H.drop 11 rfl
            dsimp only [List.eraseIdx] at H
            replace H := H.drop 11 rfl
            dsimp only [List.eraseIdx] at H
            replace H := H.drop 11 rfl
            dsimp only [List.eraseIdx] at H
            replace H := H.drop 11 rfl
            dsimp only [List.eraseIdx] at H
            replace H := H.drop 11 rfl
            dsimp only [List.eraseIdx] at H
            obtain rfl := Option.some.inj ho228
            refine x_A fun a hf => ⟨false, rfl, hf.sub ⟨rfl, rfl, rfl, rfl, rfl, trivial⟩, H⟩
        · rintro a wd229 ⟨x227, rfl, hf, H⟩
          try dsimp only at hF
          refine CW.at hf ?_
          obtain ⟨o243, ho243, hF⟩ := bnd hF
          refine C_cut (fun a w' => ∃ (x242 : Bool), x242 = o243 ∧ Fr 65 a [(2, .bool x242)] ∧ Hp C w' ρ (hs)) ?_ ?_
          · refine R_nd <| nq (v := .agg #[v218, v166, v168]) (Q_ldB (k := 9) (cs := [v218, v166, v168]) H.ok rfl ty29 rfl rfl rfl (fun h => nomatch h) rfl) rfl rfl <| nq (v := .agg #[v200, v202, v204]) (Q_ldB (k := 5) (cs := [v200, v202, v204]) H.ok rfl ty29 rfl rfl rfl (fun h => nomatch h) rfl) rfl rfl ?_
            replace H := H.front 8 rfl
            dsimp only [List.eraseIdx] at H
            replace H := H.front 8 rfl
            dsimp only [List.eraseIdx] at H
            replace H := H.front 8 rfl
            dsimp only [List.eraseIdx] at H
            replace H := H.front 7 rfl
            dsimp only [List.eraseIdx] at H
            replace H := H.front 7 rfl
            dsimp only [List.eraseIdx] at H
            replace H := H.front 10 rfl
            dsimp only [List.eraseIdx] at H
            obtain ⟨q244, hq244, ho243⟩ := bnd ho243
            obtain ⟨C', ρ', hl245, HA, hL, hback⟩ := Hp.lend (A := []) (L := [Arr v218 256 c219, Arr v166 1 c167, Arr v168 1 c169, Arr v200 256 c201, Arr v202 1 c203, Arr v204 1 c205]) (F := Box b134 [v1, v4, v7] :: Box b177 [v164, v166, v168] :: Arr v164 256 c165 :: Box b213 [v200, v202, v204] :: Box b224 [v218, v166, v168] :: hs) H
            refine ne (E_call fn24 rfl (c_24 HA  (arr_rd (by decide) hl245 (hL (Arr v218 256 c219) (by simp)) r222) (arr_rd (by decide) hl245 (hL (Arr v166 1 c167) (by simp)) r174) (arr_rd (by decide) hl245 (hL (Arr v168 1 c169) (by simp)) r175) (arr_rd (by decide) hl245 (hL (Arr v200 256 c201) (by simp)) r209) (arr_rd (by decide) hl245 (hL (Arr v202 1 c203) (by simp)) r210) (arr_rd (by decide) hl245 (hL (Arr v204 1 c205) (by simp)) r211) hq244)) rfl rfl ?_
            rintro _ wd247 ⟨x246, rfl, rfl, H⟩
            try dsimp only at ho243
            replace H := hback H
            dsimp only [List.cons_append, List.nil_append] at H
            refine nq (Q_move rfl) rfl rfl ?_
            rcases Bool.eq_false_or_eq_true x246 with hb | hb
            · rw [hb]
              replace ho243 := itT hb ho243
              refine gq (v := .agg #[v1, v4, v7]) (Q_ldB (k := 6) (cs := [v1, v4, v7]) H.ok rfl ty25 rfl rfl rfl (fun h => nomatch h) rfl) rfl rfl rfl ?_
              obtain ⟨q248, hq248, ho243⟩ := bnd ho243
              refine ge (E_call fn46 rfl (c_46 H gl0 gl1 r3 r6 r9 hq248)) rfl rfl rfl ?_
              rintro _ wd251 ⟨x250, rfl, rfl, H⟩
              try dsimp only at ho243
              refine gq (Q_move rfl) rfl rfl rfl <| gq (v := .bool (x250 == x227)) (Q_eqlB Tryd.underlying4 rfl rfl) rfl rfl rfl <| nq (Q_pickT rfl rfl) rfl rfl <| nq (Q_move rfl) rfl rfl ?_
              rcases Bool.eq_false_or_eq_true (x250 == x227) with hb | hb
              · rw [hb]
                replace ho243 := itT hb ho243
                refine gq (v := .agg #[v164, v166, v168]) (Q_ldB (k := 7) (cs := [v164, v166, v168]) H.ok rfl ty25 rfl rfl rfl (fun h => nomatch h) rfl) rfl rfl rfl ?_
                replace H := H.front 2 rfl
                dsimp only [List.eraseIdx] at H
                replace H := H.front 2 rfl
                dsimp only [List.eraseIdx] at H
                replace H := H.front 8 rfl
                dsimp only [List.eraseIdx] at H
                obtain ⟨q252, hq252, ho243⟩ := bnd ho243
                obtain ⟨C', ρ', hl253, HA, hL, hback⟩ := Hp.lend (A := []) (L := [Arr v164 256 c165, Arr v166 1 c167, Arr v168 1 c169]) (F := Arr v218 256 c219 :: Arr v200 256 c201 :: Arr v202 1 c203 :: Arr v204 1 c205 :: Box b134 [v1, v4, v7] :: Box b177 [v164, v166, v168] :: Box b213 [v200, v202, v204] :: Box b224 [v218, v166, v168] :: hs) H
                refine ge (E_call fn46 rfl (c_46 HA (gl0.up hl253) (GTab.up hl253 gl1) (arr_rd (by decide) hl253 (hL (Arr v164 256 c165) (by simp)) r173) (arr_rd (by decide) hl253 (hL (Arr v166 1 c167) (by simp)) r174) (arr_rd (by decide) hl253 (hL (Arr v168 1 c169) (by simp)) r175) hq252)) rfl rfl rfl ?_
                rintro _ wd255 ⟨x254, rfl, rfl, H⟩
                try dsimp only at ho243
                replace H := hback H
                dsimp only [List.cons_append, List.nil_append] at H
                refine nq (Q_pickT rfl rfl) rfl rfl <| nq (Q_assign rfl) rfl rfl <| WL_nil ?_
                replace H := H.drop 0 rfl
                dsimp only [List.eraseIdx] at H
                replace H := H.drop 0 rfl
                dsimp only [List.eraseIdx] at H
                replace H := H.drop 0 rfl
                dsimp only [List.eraseIdx] at H
                replace H := H.drop 0 rfl
                dsimp only [List.eraseIdx] at H
                replace H := H.drop 0 rfl
                dsimp only [List.eraseIdx] at H
                replace H := H.drop 0 rfl
                dsimp only [List.eraseIdx] at H
                replace H := H.drop 0 rfl
                dsimp only [List.eraseIdx] at H
                replace H := H.drop 0 rfl
                dsimp only [List.eraseIdx] at H
                replace H := H.drop 0 rfl
                dsimp only [List.eraseIdx] at H
                replace H := H.drop 0 rfl
                dsimp only [List.eraseIdx] at H
                replace H := H.drop 0 rfl
                dsimp only [List.eraseIdx] at H
                obtain rfl := Option.some.inj ho243
                refine x_A fun a hf => ⟨x254, rfl, hf.sub ⟨rfl, trivial⟩, H⟩
              · rw [hb]
                replace ho243 := itF hb ho243
                refine gs rfl rfl rfl rfl <| gs rfl rfl rfl rfl <| nq (Q_pickF rfl rfl) rfl rfl <| nq (Q_assign rfl) rfl rfl <| WL_nil ?_
                replace H := H.drop 0 rfl
                dsimp only [List.eraseIdx] at H
                replace H := H.drop 0 rfl
                dsimp only [List.eraseIdx] at H
                replace H := H.drop 0 rfl
                dsimp only [List.eraseIdx] at H
                replace H := H.drop 0 rfl
                dsimp only [List.eraseIdx] at H
                replace H := H.drop 0 rfl
                dsimp only [List.eraseIdx] at H
                replace H := H.drop 0 rfl
                dsimp only [List.eraseIdx] at H
                replace H := H.drop 0 rfl
                dsimp only [List.eraseIdx] at H
                replace H := H.drop 0 rfl
                dsimp only [List.eraseIdx] at H
                replace H := H.drop 0 rfl
                dsimp only [List.eraseIdx] at H
                replace H := H.drop 0 rfl
                dsimp only [List.eraseIdx] at H
                replace H := H.drop 0 rfl
                dsimp only [List.eraseIdx] at H
                obtain rfl := Option.some.inj ho243
                refine x_A fun a hf => ⟨false, rfl, hf.sub ⟨rfl, trivial⟩, H⟩
            · rw [hb]
              replace ho243 := itF hb ho243
              refine gs rfl rfl rfl rfl <| gs rfl rfl rfl rfl <| gs rfl rfl rfl rfl <| gs rfl rfl rfl rfl <| nq (Q_pickF rfl rfl) rfl rfl <| nq (Q_move rfl) rfl rfl <| gs rfl rfl rfl rfl <| gs rfl rfl rfl rfl <| nq (Q_pickF rfl rfl) rfl rfl <| nq (Q_assign rfl) rfl rfl <| WL_nil ?_
              replace H := H.drop 0 rfl
              dsimp only [List.eraseIdx] at H
              replace H := H.drop 0 rfl
              dsimp only [List.eraseIdx] at H
              replace H := H.drop 0 rfl
              dsimp only [List.eraseIdx] at H
              replace H := H.drop 0 rfl
              dsimp only [List.eraseIdx] at H
              replace H := H.drop 0 rfl
              dsimp only [List.eraseIdx] at H
              replace H := H.drop 0 rfl
              dsimp only [List.eraseIdx] at H
              replace H := H.drop 0 rfl
              dsimp only [List.eraseIdx] at H
              replace H := H.drop 0 rfl
              dsimp only [List.eraseIdx] at H
              replace H := H.drop 0 rfl
              dsimp only [List.eraseIdx] at H
              replace H := H.drop 0 rfl
              dsimp only [List.eraseIdx] at H
              replace H := H.drop 0 rfl
              dsimp only [List.eraseIdx] at H
              obtain rfl := Option.some.inj ho243
              refine x_A fun a hf => ⟨false, rfl, hf.sub ⟨rfl, trivial⟩, H⟩
          · rintro a wd256 ⟨x242, rfl, hf, H⟩
            try dsimp only at hF
            refine CW.at hf <| C_ret ?_
            obtain rfl := Option.some.inj hF
            exact fn_ret (l := [.tmp 2]) (vs := [.bool x242]) rfl rfl rfl ⟨x242, rfl, rfl, H⟩
end Go.Proofs.YteiaphkejkgfkaaDoor
