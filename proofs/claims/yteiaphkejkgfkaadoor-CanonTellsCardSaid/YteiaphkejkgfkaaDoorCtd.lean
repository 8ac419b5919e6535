/-
  The walks, printed by my program, part 4: each function of the code computes its pure function.
-/
import Derived.Test.YteiaphkejkgfkaaDoorCtc
namespace Go.Proofs.YteiaphkejkgfkaaDoor
open Go Go.Eng
set_option maxRecDepth 100000
theorem c_3 {N : Nat} {C : Cx} {w : World} {ρ : View} {hs : List Hl} {v1 : Value} {v4 : Value} {v7 : Value} {x2 : (List (List Int))} {x5 : (List Int)} {x8 : (List Int)} (H : Hp C w ρ (hs)) {ge0 : Value} (gl0 : GErr ρ 0 ge0) (r3 : RdSl ρ (eA 256 (eI .i64)) v1 x2) (r6 : RdSl ρ (eI .i64) v4 x5) (r9 : RdSl ρ (eI .i64) v7 x8) {r : Bool} (hF : F_dofferlaw20_CanonTells N x2 x5 x8 = some r) :
    Calls Tryd.prog 3 [.agg #[v1, v4, v7]].toArray w (Rets (fun v w' => (∃ (x214 : Bool), x214 = r ∧ .bool x214 = v ∧ Hp C w' ρ (hs)))) := by
  unfold F_dofferlaw20_CanonTells at hF
  have h0 : Tryd.f3.body = some _ := rfl
  refine fn_calls' Tryd.func3 h0 (n := 75) rfl (by simp) ?_
  refine C_seq ?_
  refine R_nd ?_
  refine ne (E_box H (vs := [v1, v4, v7]) rfl rfl) rfl rfl ?_
  rintro _ wd216 ⟨b215, rfl, H⟩
  replace H : Hp C wd216 ρ (Box b215 [v1, v4, v7] :: hs) := H
  refine nq (v := .bool false) (Q_assign rfl) rfl rfl ?_
  refine WL_nil ?_
  refine x_then ?_
  refine CW.sub (E' := [(1, .pointer (some ⟨b215, 0, none⟩))]) ⟨rfl, trivial⟩ ?_
  refine C_seq ?_
  refine C_seq ?_
  refine R_nd ?_
  obtain ⟨q217, hq217, hF⟩ := bnd hF
  refine ne (E_call fn14 rfl (c_14 H gl0  hq217)) rfl rfl ?_
  rintro _ wd220 ⟨x219, rfl, rfl, H⟩
  try dsimp only at hF
  replace H : Hp C wd220 ρ (Box b215 [v1, v4, v7] :: hs) := H
  refine nq (v := .bool (!x219)) (Q_not rfl) rfl rfl ?_
  refine WL_nil ?_
  refine x_then ?_
  refine CW.sub (E' := [(1, .pointer (some ⟨b215, 0, none⟩)), (10, .bool (!x219))]) ⟨rfl, rfl, trivial⟩ ?_
  refine C_cond rfl (fun hb => ?_) (fun hb => ?_)
  · replace hF := itT hb hF
    refine C_seq ?_
    refine R_nd ?_
    refine nq (v := .bool false) (Q_assign rfl) rfl rfl ?_
    refine WL_nil ?_
    refine x_then ?_
    refine CW.sub (E' := [(2, .bool false)]) ⟨rfl, trivial⟩ ?_
    refine C_ret ?_
    refine x_then_ret ?_
    replace H := H.drop 0 rfl
    replace H : Hp C wd220 ρ (hs) := H
    obtain rfl := Option.some.inj hF
    exact fn_ret (l := [.tmp 2]) (vs := [.bool false]) rfl rfl rfl ⟨false, rfl, rfl, H⟩
  · replace hF := itF hb hF
    refine C_skip ?_
    refine x_then ?_
    refine CW.sub (E' := [(1, .pointer (some ⟨b215, 0, none⟩))]) ⟨rfl, trivial⟩ ?_
    refine C_seq ?_
    refine R_nd ?_
    refine nq (v := .agg #[v1, v4, v7]) (Q_ldB (k := 0) (cs := [v1, v4, v7]) H.ok rfl ty25 rfl rfl rfl (fun h => nomatch h) rfl) rfl rfl ?_
    obtain ⟨q221, hq221, hF⟩ := bnd hF
    refine ne (E_call fn15 rfl (c_15 H  r3 r6 r9 hq221)) rfl rfl ?_
    rintro _ wd228 ⟨v223, c224, x225, x226, rfl, rfl, r227, H⟩
    try dsimp only at hF
    replace H : Hp C wd228 ρ (Arr v223 256 c224 :: Box b215 [v1, v4, v7] :: hs) := H
    refine nq (v := .tuple [.agg #[v223, v4, v7], .bool x226].toArray) (Q_move rfl) rfl rfl ?_
    refine nq (v := .agg #[v223, v4, v7]) (Q_extract rfl rfl) rfl rfl ?_
    refine nq (v := .bool x226) (Q_extract rfl rfl) rfl rfl ?_
    refine ne (E_alloc H ty29 (zs := [.slice none 0 0, .slice none 0 0, .slice none 0 0]) rfl) rfl rfl ?_
    rintro _ wd230 ⟨b229, rfl, H⟩
    replace H : Hp C wd230 ρ (Box b229 [.slice none 0 0, .slice none 0 0, .slice none 0 0] :: Arr v223 256 c224 :: Box b215 [v1, v4, v7] :: hs) := H
    refine ne (E_stB (k := 0) (cs := [v223, v4, v7]) (vs' := [v223, v4, v7]) H rfl ty29 rfl rfl rfl rfl (one_cons (arr_cells (H.ok.get (k := 1) rfl)).2 (one_cons (RdSl.one r6) (one_cons (RdSl.one r9) one_nil))) (by simp) rfl) rfl rfl ?_
    rintro _ wd231 H
    replace H : Hp C wd231 ρ (Box b229 [v223, v4, v7] :: Arr v223 256 c224 :: Box b215 [v1, v4, v7] :: hs) := H
    refine nq (v := .bool x226) (Q_assign rfl) rfl rfl ?_
    refine WL_nil ?_
    refine x_then ?_
    refine CW.sub (E' := [(1, .pointer (some ⟨b215, 0, none⟩)), (3, .pointer (some ⟨b229, 0, none⟩)), (4, .bool x226)]) ⟨rfl, rfl, rfl, trivial⟩ ?_
    refine C_seq ?_
    refine C_seq ?_
    refine R_nd ?_
    refine nq (v := .bool x226) (Q_move rfl) rfl rfl ?_
    refine nq (v := .bool (!x226)) (Q_not rfl) rfl rfl ?_
    refine WL_nil ?_
    refine x_then ?_
    refine CW.sub (E' := [(1, .pointer (some ⟨b215, 0, none⟩)), (3, .pointer (some ⟨b229, 0, none⟩)), (17, .bool (!x226))]) ⟨rfl, rfl, rfl, trivial⟩ ?_
    refine C_cond rfl (fun hb => ?_) (fun hb => ?_)
    · replace hF := itT hb hF
      refine C_seq ?_
      refine R_nd ?_
      refine nq (v := .bool true) (Q_assign rfl) rfl rfl ?_
      refine WL_nil ?_
      refine x_then ?_
      refine CW.sub (E' := [(2, .bool true)]) ⟨rfl, trivial⟩ ?_
      refine C_ret ?_
      refine x_then_ret ?_
      replace H := H.drop 0 rfl
      replace H : Hp C wd231 ρ (Arr v223 256 c224 :: Box b215 [v1, v4, v7] :: hs) := H
      replace H := H.drop 0 rfl
      replace H : Hp C wd231 ρ (Box b215 [v1, v4, v7] :: hs) := H
      replace H := H.drop 0 rfl
      replace H : Hp C wd231 ρ (hs) := H
      obtain rfl := Option.some.inj hF
      exact fn_ret (l := [.tmp 2]) (vs := [.bool true]) rfl rfl rfl ⟨true, rfl, rfl, H⟩
    · replace hF := itF hb hF
      refine C_skip ?_
      refine x_then ?_
      refine CW.sub (E' := [(1, .pointer (some ⟨b215, 0, none⟩)), (3, .pointer (some ⟨b229, 0, none⟩))]) ⟨rfl, rfl, trivial⟩ ?_
      refine C_seq ?_
      refine R_nd ?_
      refine nq (v := .agg #[v1, v4, v7]) (Q_ldB (k := 2) (cs := [v1, v4, v7]) H.ok rfl ty25 rfl rfl rfl (fun h => nomatch h) rfl) rfl rfl ?_
      obtain ⟨q232, hq232, hF⟩ := bnd hF
      refine ne (E_call fn16 rfl (c_16 H gl0 r3 r6 r9 hq232)) rfl rfl ?_
      rintro _ wd246 ⟨v234, c235, v236, c237, v238, c239, x240, x241, x242, rfl, rfl, r243, r244, r245, H⟩
      try dsimp only at hF
      replace H : Hp C wd246 ρ (Arr v234 256 c235 :: Arr v236 1 c237 :: Arr v238 1 c239 :: Box b229 [v223, v4, v7] :: Arr v223 256 c224 :: Box b215 [v1, v4, v7] :: hs) := H
      refine ne (E_alloc H ty25 (zs := [.slice none 0 0, .slice none 0 0, .slice none 0 0]) rfl) rfl rfl ?_
      rintro _ wd248 ⟨b247, rfl, H⟩
      replace H : Hp C wd248 ρ (Box b247 [.slice none 0 0, .slice none 0 0, .slice none 0 0] :: Arr v234 256 c235 :: Arr v236 1 c237 :: Arr v238 1 c239 :: Box b229 [v223, v4, v7] :: Arr v223 256 c224 :: Box b215 [v1, v4, v7] :: hs) := H
      refine ne (E_stB (k := 0) (cs := [v234, v236, v238]) (vs' := [v234, v236, v238]) H rfl ty25 rfl rfl rfl rfl (one_cons (arr_cells (H.ok.get (k := 1) rfl)).2 (one_cons (arr_cells (H.ok.get (k := 2) rfl)).2 (one_cons (arr_cells (H.ok.get (k := 3) rfl)).2 one_nil))) (by simp) rfl) rfl rfl ?_
      rintro _ wd249 H
      replace H : Hp C wd249 ρ (Box b247 [v234, v236, v238] :: Arr v234 256 c235 :: Arr v236 1 c237 :: Arr v238 1 c239 :: Box b229 [v223, v4, v7] :: Arr v223 256 c224 :: Box b215 [v1, v4, v7] :: hs) := H
      refine WL_nil ?_
      refine x_then ?_
      refine CW.sub (E' := [(1, .pointer (some ⟨b215, 0, none⟩)), (3, .pointer (some ⟨b229, 0, none⟩)), (5, .pointer (some ⟨b247, 0, none⟩))]) ⟨rfl, rfl, rfl, trivial⟩ ?_
      refine C_seq ?_
      refine C_seq ?_
      refine R_nd ?_
      refine nq (v := .agg #[v223, v4, v7]) (Q_ldB (k := 4) (cs := [v223, v4, v7]) H.ok rfl ty29 rfl rfl rfl (fun h => nomatch h) rfl) rfl rfl ?_
      replace H := H.front 5 rfl
      replace H : Hp C wd249 ρ (Arr v223 256 c224 :: Box b247 [v234, v236, v238] :: Arr v234 256 c235 :: Arr v236 1 c237 :: Arr v238 1 c239 :: Box b229 [v223, v4, v7] :: Box b215 [v1, v4, v7] :: hs) := H
      obtain ⟨q250, hq250, hF⟩ := bnd hF
      obtain ⟨C', ρ', hl251, HA, hL, hback⟩ := Hp.lend (A := []) (L := [Arr v223 256 c224]) (F := Box b247 [v234, v236, v238] :: Arr v234 256 c235 :: Arr v236 1 c237 :: Arr v238 1 c239 :: Box b229 [v223, v4, v7] :: Box b215 [v1, v4, v7] :: hs) H
      refine ne (E_call fn17 rfl (c_17 HA  (arr_rd (by decide) hl251 (hL (Arr v223 256 c224) (by simp)) r227) (r6.up hl251) (r9.up hl251) hq250)) rfl rfl ?_
      rintro _ wd253 ⟨x252, rfl, rfl, H⟩
      try dsimp only at hF
      replace H := hback H
      replace H : Hp C wd253 ρ (Arr v223 256 c224 :: Box b247 [v234, v236, v238] :: Arr v234 256 c235 :: Arr v236 1 c237 :: Arr v238 1 c239 :: Box b229 [v223, v4, v7] :: Box b215 [v1, v4, v7] :: hs) := H
      refine nq (v := .bool (!x252)) (Q_not rfl) rfl rfl ?_
      refine WL_nil ?_
      refine x_then ?_
      refine CW.sub (E' := [(1, .pointer (some ⟨b215, 0, none⟩)), (3, .pointer (some ⟨b229, 0, none⟩)), (5, .pointer (some ⟨b247, 0, none⟩)), (22, .bool (!x252))]) ⟨rfl, rfl, rfl, rfl, trivial⟩ ?_
      refine C_cond rfl (fun hb => ?_) (fun hb => ?_)
      · replace hF := itT hb hF
        obtain ⟨o278, ho278, hF⟩ := bnd hF
        refine C_cut (fun a w' => ∃ (x277 : Bool), x277 = o278 ∧ Fr 75 a [(2, .bool x277)] ∧ Hp C w' ρ (hs)) ?_ ?_
        · refine R_dr (.take 0 (.take 3 (.take 4 (.take 5 (.take 7 (.one 1 (.two 2 8 (.take 6 (.one 8 (.take 9 (.take 10 (.take 11 (.take 12 (.one 13 (.take 14 (.take 15 (.take 16 .done)))))))))) (.one 2 (.take 6 (.take 9 (.take 10 (.take 11 (.take 12 (.one 13 (.take 14 (.take 15 (.take 16 .done))))))))))))))))) (fun w' => Ok w' ρ [Arr v223 256 c224, Box b247 [v234, v236, v238], Arr v234 256 c235, Arr v236 1 c237, Arr v238 1 c239, Box b229 [v223, v4, v7], Box b215 [v1, v4, v7]]) (by kernel_rfl) (by kernel_rfl) (by kernel_rfl) (H.drew.okS (by simp)) ?_
          replace H := H.drew
          refine dq (v := .agg #[v1, v4, v7]) rfl (fun w' hw => Q_ldB (k := 6) (cs := [v1, v4, v7]) hw rfl ty25 rfl rfl rfl (fun h => nomatch h) rfl) rfl rfl ?_
          refine dq (v := .pointer (some ⟨b247, 0, none⟩)) rfl (fun w' hw => Q_fld Tryd.underlying25 rfl ty22 (by decide) rfl rfl) rfl rfl ?_
          refine dq (v := v234) rfl (fun w' hw => Q_ldB (k := 1) (cs := [v234]) hw rfl ty22 rfl rfl rfl (fun _ => rfl) rfl) rfl rfl ?_
          refine dq (v := .int .i64 (x240.length : Int)) rfl (fun w' hw => Q_lenA (k := 2) hw rfl r243 (by decide) Tryd.underlying22 rfl) rfl rfl ?_
          refine dq (v := .agg #[v1, v4, v7]) rfl (fun w' hw => Q_ldB (k := 6) (cs := [v1, v4, v7]) hw rfl ty25 rfl rfl rfl (fun h => nomatch h) rfl) rfl rfl ?_
          obtain ⟨q279, hq279, ho278⟩ := bnd ho278
          refine d1 (de rfl (E_call fn18 rfl (c_18 H gl0 r3 r6 r9 hq279)) rfl rfl ?_)
          rintro _ wd285 ⟨v281, c282, x283, rfl, rfl, r284, H⟩
          try dsimp only at ho278
          replace H : Hp C wd285 ρ (Arr v281 1 c282 :: Arr v223 256 c224 :: Box b247 [v234, v236, v238] :: Arr v234 256 c235 :: Arr v236 1 c237 :: Arr v238 1 c239 :: Box b229 [v223, v4, v7] :: Box b215 [v1, v4, v7] :: hs) := H
          refine ⟨H.okS (by simp), ?_⟩
          refine d2 ?_ ?_
          · refine de rfl (Eff.quiet (v := .int .i64 (x283.length : Int)) (Q_lenA (k := 0) H.ok rfl r284 (by decide) Tryd.underlying23 rfl)) rfl rfl ?_
            rintro _ _ ⟨rfl, rfl⟩
            refine ⟨H.okS (by simp), ?_⟩
            refine dq (v := .int .i64 (w64 ((x283.length : Int) + (x240.length : Int)))) rfl (fun w' hw => Q_add rfl rfl) rfl rfl ?_
            obtain ⟨q286, hq286, ho278⟩ := bnd ho278
            refine d1 (de rfl (E_call fn19 rfl (c_19 H gl0 r3 r6 r9 hq286)) rfl rfl ?_)
            rintro _ wd289 ⟨x288, rfl, rfl, H⟩
            try dsimp only at ho278
            replace H : Hp C wd289 ρ (Arr v281 1 c282 :: Arr v223 256 c224 :: Box b247 [v234, v236, v238] :: Arr v234 256 c235 :: Arr v236 1 c237 :: Arr v238 1 c239 :: Box b229 [v223, v4, v7] :: Box b215 [v1, v4, v7] :: hs) := H
            refine ⟨H.okS (by simp), ?_⟩
            refine dq (v := .int .i64 (w64 ((w64 ((x283.length : Int) + (x240.length : Int))) + x288))) rfl (fun w' hw => Q_add rfl rfl) rfl rfl ?_
            refine dq (v := .bool ((w64 ((w64 ((x283.length : Int) + (x240.length : Int))) + x288)) == 0)) rfl (fun w' hw => Q_eql rfl rfl) rfl rfl ?_
            refine dq (v := .bool ((w64 ((w64 ((x283.length : Int) + (x240.length : Int))) + x288)) == 0)) rfl (fun w' hw => Q_move rfl) rfl rfl ?_
            rcases Bool.eq_false_or_eq_true ((w64 ((w64 ((x283.length : Int) + (x240.length : Int))) + x288)) == 0) with hb | hb
            · rw [hb]
              replace ho278 := itT hb ho278
              refine dgq (v := .agg #[v1, v4, v7]) rfl (fun w' hw => Q_ldB (k := 6) (cs := [v1, v4, v7]) hw rfl ty25 rfl rfl rfl (fun h => nomatch h) rfl) rfl rfl rfl ?_
              obtain ⟨q290, hq290, ho278⟩ := bnd ho278
              refine d1 (dge rfl (E_call fn20 rfl (c_20 H gl0 r3 r6 r9 hq290)) rfl rfl rfl ?_)
              rintro _ wd293 ⟨x292, rfl, rfl, H⟩
              try dsimp only at ho278
              replace H : Hp C wd293 ρ (Arr v281 1 c282 :: Arr v223 256 c224 :: Box b247 [v234, v236, v238] :: Arr v234 256 c235 :: Arr v236 1 c237 :: Arr v238 1 c239 :: Box b229 [v223, v4, v7] :: Box b215 [v1, v4, v7] :: hs) := H
              refine ⟨H.okS (by simp), ?_⟩
              refine dgq (v := .bool (!x292)) rfl (fun w' hw => Q_not rfl) rfl rfl rfl ?_
              refine dq (v := .bool (!x292)) rfl (fun w' hw => Q_pickT rfl rfl) rfl rfl ?_
              refine dq (v := .bool (!x292)) rfl (fun w' hw => Q_assign rfl) rfl rfl ?_
              refine DL_nil ?_
              replace H := H.drop 0 rfl
              replace H : Hp C wd293 ρ (Arr v223 256 c224 :: Box b247 [v234, v236, v238] :: Arr v234 256 c235 :: Arr v236 1 c237 :: Arr v238 1 c239 :: Box b229 [v223, v4, v7] :: Box b215 [v1, v4, v7] :: hs) := H
              replace H := H.drop 0 rfl
              replace H : Hp C wd293 ρ (Box b247 [v234, v236, v238] :: Arr v234 256 c235 :: Arr v236 1 c237 :: Arr v238 1 c239 :: Box b229 [v223, v4, v7] :: Box b215 [v1, v4, v7] :: hs) := H
              replace H := H.drop 0 rfl
              replace H : Hp C wd293 ρ (Arr v234 256 c235 :: Arr v236 1 c237 :: Arr v238 1 c239 :: Box b229 [v223, v4, v7] :: Box b215 [v1, v4, v7] :: hs) := H
              replace H := H.drop 0 rfl
              replace H : Hp C wd293 ρ (Arr v236 1 c237 :: Arr v238 1 c239 :: Box b229 [v223, v4, v7] :: Box b215 [v1, v4, v7] :: hs) := H
              replace H := H.drop 0 rfl
              replace H : Hp C wd293 ρ (Arr v238 1 c239 :: Box b229 [v223, v4, v7] :: Box b215 [v1, v4, v7] :: hs) := H
              replace H := H.drop 0 rfl
              replace H : Hp C wd293 ρ (Box b229 [v223, v4, v7] :: Box b215 [v1, v4, v7] :: hs) := H
              replace H := H.drop 0 rfl
              replace H : Hp C wd293 ρ (Box b215 [v1, v4, v7] :: hs) := H
              replace H := H.drop 0 rfl
              replace H : Hp C wd293 ρ (hs) := H
              obtain rfl := Option.some.inj ho278
              refine x_A fun a hf => ⟨!x292, rfl, hf.sub ⟨rfl, trivial⟩, H⟩
            · rw [hb]
              replace ho278 := itF hb ho278
              refine dgs rfl rfl rfl rfl rfl ?_
              refine d1 (dges rfl rfl rfl rfl rfl ?_)
              refine dgs rfl rfl rfl rfl rfl ?_
              refine dq (v := .bool false) rfl (fun w' hw => Q_pickF rfl rfl) rfl rfl ?_
              refine dq (v := .bool false) rfl (fun w' hw => Q_assign rfl) rfl rfl ?_
              refine DL_nil ?_
              replace H := H.drop 0 rfl
              replace H : Hp C wd289 ρ (Arr v223 256 c224 :: Box b247 [v234, v236, v238] :: Arr v234 256 c235 :: Arr v236 1 c237 :: Arr v238 1 c239 :: Box b229 [v223, v4, v7] :: Box b215 [v1, v4, v7] :: hs) := H
              replace H := H.drop 0 rfl
              replace H : Hp C wd289 ρ (Box b247 [v234, v236, v238] :: Arr v234 256 c235 :: Arr v236 1 c237 :: Arr v238 1 c239 :: Box b229 [v223, v4, v7] :: Box b215 [v1, v4, v7] :: hs) := H
              replace H := H.drop 0 rfl
              replace H : Hp C wd289 ρ (Arr v234 256 c235 :: Arr v236 1 c237 :: Arr v238 1 c239 :: Box b229 [v223, v4, v7] :: Box b215 [v1, v4, v7] :: hs) := H
              replace H := H.drop 0 rfl
              replace H : Hp C wd289 ρ (Arr v236 1 c237 :: Arr v238 1 c239 :: Box b229 [v223, v4, v7] :: Box b215 [v1, v4, v7] :: hs) := H
              replace H := H.drop 0 rfl
              replace H : Hp C wd289 ρ (Arr v238 1 c239 :: Box b229 [v223, v4, v7] :: Box b215 [v1, v4, v7] :: hs) := H
              replace H := H.drop 0 rfl
              replace H : Hp C wd289 ρ (Box b229 [v223, v4, v7] :: Box b215 [v1, v4, v7] :: hs) := H
              replace H := H.drop 0 rfl
              replace H : Hp C wd289 ρ (Box b215 [v1, v4, v7] :: hs) := H
              replace H := H.drop 0 rfl
              replace H : Hp C wd289 ρ (hs) := H
              obtain rfl := Option.some.inj ho278
              refine x_A fun a hf => ⟨false, rfl, hf.sub ⟨rfl, trivial⟩, H⟩
          · obtain ⟨q294, hq294, ho278⟩ := bnd ho278
            refine de rfl (E_call fn19 rfl (c_19 H gl0 r3 r6 r9 hq294)) rfl rfl ?_
            rintro _ wd297 ⟨x296, rfl, rfl, H⟩
            try dsimp only at ho278
            replace H : Hp C wd297 ρ (Arr v281 1 c282 :: Arr v223 256 c224 :: Box b247 [v234, v236, v238] :: Arr v234 256 c235 :: Arr v236 1 c237 :: Arr v238 1 c239 :: Box b229 [v223, v4, v7] :: Box b215 [v1, v4, v7] :: hs) := H
            refine ⟨H.okS (by simp), ?_⟩
            refine d1 (de rfl (Eff.quiet (v := .int .i64 (x283.length : Int)) (Q_lenA (k := 0) H.ok rfl r284 (by decide) Tryd.underlying23 rfl)) rfl rfl ?_)
            rintro _ _ ⟨rfl, rfl⟩
            refine ⟨H.okS (by simp), ?_⟩
            refine dq (v := .int .i64 (w64 ((x283.length : Int) + (x240.length : Int)))) rfl (fun w' hw => Q_add rfl rfl) rfl rfl ?_
            refine dq (v := .int .i64 (w64 ((w64 ((x283.length : Int) + (x240.length : Int))) + x296))) rfl (fun w' hw => Q_add rfl rfl) rfl rfl ?_
            refine dq (v := .bool ((w64 ((w64 ((x283.length : Int) + (x240.length : Int))) + x296)) == 0)) rfl (fun w' hw => Q_eql rfl rfl) rfl rfl ?_
            refine dq (v := .bool ((w64 ((w64 ((x283.length : Int) + (x240.length : Int))) + x296)) == 0)) rfl (fun w' hw => Q_move rfl) rfl rfl ?_
            rcases Bool.eq_false_or_eq_true ((w64 ((w64 ((x283.length : Int) + (x240.length : Int))) + x296)) == 0) with hb | hb
            · rw [hb]
              replace ho278 := itT hb ho278
              refine dgq (v := .agg #[v1, v4, v7]) rfl (fun w' hw => Q_ldB (k := 6) (cs := [v1, v4, v7]) hw rfl ty25 rfl rfl rfl (fun h => nomatch h) rfl) rfl rfl rfl ?_
              obtain ⟨q298, hq298, ho278⟩ := bnd ho278
              refine d1 (dge rfl (E_call fn20 rfl (c_20 H gl0 r3 r6 r9 hq298)) rfl rfl rfl ?_)
              rintro _ wd301 ⟨x300, rfl, rfl, H⟩
              try dsimp only at ho278
              replace H : Hp C wd301 ρ (Arr v281 1 c282 :: Arr v223 256 c224 :: Box b247 [v234, v236, v238] :: Arr v234 256 c235 :: Arr v236 1 c237 :: Arr v238 1 c239 :: Box b229 [v223, v4, v7] :: Box b215 [v1, v4, v7] :: hs) := H
              refine ⟨H.okS (by simp), ?_⟩
              refine dgq (v := .bool (!x300)) rfl (fun w' hw => Q_not rfl) rfl rfl rfl ?_
              refine dq (v := .bool (!x300)) rfl (fun w' hw => Q_pickT rfl rfl) rfl rfl ?_
              refine dq (v := .bool (!x300)) rfl (fun w' hw => Q_assign rfl) rfl rfl ?_
              refine DL_nil ?_
              replace H := H.drop 0 rfl
              replace H : Hp C wd301 ρ (Arr v223 256 c224 :: Box b247 [v234, v236, v238] :: Arr v234 256 c235 :: Arr v236 1 c237 :: Arr v238 1 c239 :: Box b229 [v223, v4, v7] :: Box b215 [v1, v4, v7] :: hs) := H
              replace H := H.drop 0 rfl
              replace H : Hp C wd301 ρ (Box b247 [v234, v236, v238] :: Arr v234 256 c235 :: Arr v236 1 c237 :: Arr v238 1 c239 :: Box b229 [v223, v4, v7] :: Box b215 [v1, v4, v7] :: hs) := H
              replace H := H.drop 0 rfl
              replace H : Hp C wd301 ρ (Arr v234 256 c235 :: Arr v236 1 c237 :: Arr v238 1 c239 :: Box b229 [v223, v4, v7] :: Box b215 [v1, v4, v7] :: hs) := H
              replace H := H.drop 0 rfl
              replace H : Hp C wd301 ρ (Arr v236 1 c237 :: Arr v238 1 c239 :: Box b229 [v223, v4, v7] :: Box b215 [v1, v4, v7] :: hs) := H
              replace H := H.drop 0 rfl
              replace H : Hp C wd301 ρ (Arr v238 1 c239 :: Box b229 [v223, v4, v7] :: Box b215 [v1, v4, v7] :: hs) := H
              replace H := H.drop 0 rfl
              replace H : Hp C wd301 ρ (Box b229 [v223, v4, v7] :: Box b215 [v1, v4, v7] :: hs) := H
              replace H := H.drop 0 rfl
              replace H : Hp C wd301 ρ (Box b215 [v1, v4, v7] :: hs) := H
              replace H := H.drop 0 rfl
              replace H : Hp C wd301 ρ (hs) := H
              obtain rfl := Option.some.inj ho278
              refine x_A fun a hf => ⟨!x300, rfl, hf.sub ⟨rfl, trivial⟩, H⟩
            · rw [hb]
              replace ho278 := itF hb ho278
              refine dgs rfl rfl rfl rfl rfl ?_
              refine d1 (dges rfl rfl rfl rfl rfl ?_)
              refine dgs rfl rfl rfl rfl rfl ?_
              refine dq (v := .bool false) rfl (fun w' hw => Q_pickF rfl rfl) rfl rfl ?_
              refine dq (v := .bool false) rfl (fun w' hw => Q_assign rfl) rfl rfl ?_
              refine DL_nil ?_
              replace H := H.drop 0 rfl
              replace H : Hp C wd297 ρ (Arr v223 256 c224 :: Box b247 [v234, v236, v238] :: Arr v234 256 c235 :: Arr v236 1 c237 :: Arr v238 1 c239 :: Box b229 [v223, v4, v7] :: Box b215 [v1, v4, v7] :: hs) := H
              replace H := H.drop 0 rfl
              replace H : Hp C wd297 ρ (Box b247 [v234, v236, v238] :: Arr v234 256 c235 :: Arr v236 1 c237 :: Arr v238 1 c239 :: Box b229 [v223, v4, v7] :: Box b215 [v1, v4, v7] :: hs) := H
              replace H := H.drop 0 rfl
              replace H : Hp C wd297 ρ (Arr v234 256 c235 :: Arr v236 1 c237 :: Arr v238 1 c239 :: Box b229 [v223, v4, v7] :: Box b215 [v1, v4, v7] :: hs) := H
              replace H := H.drop 0 rfl
              replace H : Hp C wd297 ρ (Arr v236 1 c237 :: Arr v238 1 c239 :: Box b229 [v223, v4, v7] :: Box b215 [v1, v4, v7] :: hs) := H
              replace H := H.drop 0 rfl
              replace H : Hp C wd297 ρ (Arr v238 1 c239 :: Box b229 [v223, v4, v7] :: Box b215 [v1, v4, v7] :: hs) := H
              replace H := H.drop 0 rfl
              replace H : Hp C wd297 ρ (Box b229 [v223, v4, v7] :: Box b215 [v1, v4, v7] :: hs) := H
              replace H := H.drop 0 rfl
              replace H : Hp C wd297 ρ (Box b215 [v1, v4, v7] :: hs) := H
              replace H := H.drop 0 rfl
              replace H : Hp C wd297 ρ (hs) := H
              obtain rfl := Option.some.inj ho278
              refine x_A fun a hf => ⟨false, rfl, hf.sub ⟨rfl, trivial⟩, H⟩
        · rintro a wd302 ⟨x277, rfl, hf, H⟩
          try dsimp only at hF
          refine CW.at hf ?_
          refine C_ret ?_
          refine x_then_ret ?_
          obtain rfl := Option.some.inj hF
          exact fn_ret (l := [.tmp 2]) (vs := [.bool x277]) rfl rfl rfl ⟨x277, rfl, rfl, H⟩
      · replace hF := itF hb hF
        refine C_skip ?_
        refine x_then ?_
        refine CW.sub (E' := [(1, .pointer (some ⟨b215, 0, none⟩)), (3, .pointer (some ⟨b229, 0, none⟩)), (5, .pointer (some ⟨b247, 0, none⟩))]) ⟨rfl, rfl, rfl, trivial⟩ ?_
        refine C_seq ?_
        refine R_nd ?_
        refine nq (v := .agg #[v223, v4, v7]) (Q_ldB (k := 5) (cs := [v223, v4, v7]) H.ok rfl ty29 rfl rfl rfl (fun h => nomatch h) rfl) rfl rfl ?_
        obtain ⟨q303, hq303, hF⟩ := bnd hF
        obtain ⟨C', ρ', hl304, HA, hL, hback⟩ := Hp.lend (A := []) (L := [Arr v223 256 c224]) (F := Box b247 [v234, v236, v238] :: Arr v234 256 c235 :: Arr v236 1 c237 :: Arr v238 1 c239 :: Box b229 [v223, v4, v7] :: Box b215 [v1, v4, v7] :: hs) H
        refine ne (E_call fn21 rfl (c_21 HA  (arr_rd (by decide) hl304 (hL (Arr v223 256 c224) (by simp)) r227) (r6.up hl304) (r9.up hl304) hq303)) rfl rfl ?_
        rintro _ wd317 ⟨v305, c306, v307, c308, v309, c310, x311, x312, x313, rfl, rfl, r314, r315, r316, H⟩
        try dsimp only at hF
        replace H := hback H
        replace r314 := rdL.flat (ρ := ρ') (ρ' := ρ) (flat_A _ (flat_I _)) r314
        replace r315 := rdL.flat (ρ := ρ') (ρ' := ρ) (flat_I _) r315
        replace r316 := rdL.flat (ρ := ρ') (ρ' := ρ) (flat_I _) r316
        replace H : Hp C wd317 ρ (Arr v305 256 c306 :: Arr v307 1 c308 :: Arr v309 1 c310 :: Arr v223 256 c224 :: Box b247 [v234, v236, v238] :: Arr v234 256 c235 :: Arr v236 1 c237 :: Arr v238 1 c239 :: Box b229 [v223, v4, v7] :: Box b215 [v1, v4, v7] :: hs) := H
        refine ne (E_alloc H ty29 (zs := [.slice none 0 0, .slice none 0 0, .slice none 0 0]) rfl) rfl rfl ?_
        rintro _ wd319 ⟨b318, rfl, H⟩
        replace H : Hp C wd319 ρ (Box b318 [.slice none 0 0, .slice none 0 0, .slice none 0 0] :: Arr v305 256 c306 :: Arr v307 1 c308 :: Arr v309 1 c310 :: Arr v223 256 c224 :: Box b247 [v234, v236, v238] :: Arr v234 256 c235 :: Arr v236 1 c237 :: Arr v238 1 c239 :: Box b229 [v223, v4, v7] :: Box b215 [v1, v4, v7] :: hs) := H
        refine ne (E_stB (k := 0) (cs := [v305, v307, v309]) (vs' := [v305, v307, v309]) H rfl ty29 rfl rfl rfl rfl (one_cons (arr_cells (H.ok.get (k := 1) rfl)).2 (one_cons (arr_cells (H.ok.get (k := 2) rfl)).2 (one_cons (arr_cells (H.ok.get (k := 3) rfl)).2 one_nil))) (by simp) rfl) rfl rfl ?_
        rintro _ wd320 H
        replace H : Hp C wd320 ρ (Box b318 [v305, v307, v309] :: Arr v305 256 c306 :: Arr v307 1 c308 :: Arr v309 1 c310 :: Arr v223 256 c224 :: Box b247 [v234, v236, v238] :: Arr v234 256 c235 :: Arr v236 1 c237 :: Arr v238 1 c239 :: Box b229 [v223, v4, v7] :: Box b215 [v1, v4, v7] :: hs) := H
        refine WL_nil ?_
        refine x_then ?_
        refine CW.sub (E' := [(1, .pointer (some ⟨b215, 0, none⟩)), (3, .pointer (some ⟨b229, 0, none⟩)), (5, .pointer (some ⟨b247, 0, none⟩)), (6, .pointer (some ⟨b318, 0, none⟩))]) ⟨rfl, rfl, rfl, rfl, trivial⟩ ?_
        refine C_seq ?_
        refine R_nd ?_
        refine nq (v := .agg #[v234, v236, v238]) (Q_ldB (k := 5) (cs := [v234, v236, v238]) H.ok rfl ty25 rfl rfl rfl (fun h => nomatch h) rfl) rfl rfl ?_
        replace H := H.front 8 rfl
        replace H : Hp C wd320 ρ (Arr v238 1 c239 :: Box b318 [v305, v307, v309] :: Arr v305 256 c306 :: Arr v307 1 c308 :: Arr v309 1 c310 :: Arr v223 256 c224 :: Box b247 [v234, v236, v238] :: Arr v234 256 c235 :: Arr v236 1 c237 :: Box b229 [v223, v4, v7] :: Box b215 [v1, v4, v7] :: hs) := H
        replace H := H.front 8 rfl
        replace H : Hp C wd320 ρ (Arr v236 1 c237 :: Arr v238 1 c239 :: Box b318 [v305, v307, v309] :: Arr v305 256 c306 :: Arr v307 1 c308 :: Arr v309 1 c310 :: Arr v223 256 c224 :: Box b247 [v234, v236, v238] :: Arr v234 256 c235 :: Box b229 [v223, v4, v7] :: Box b215 [v1, v4, v7] :: hs) := H
        replace H := H.front 8 rfl
        replace H : Hp C wd320 ρ (Arr v234 256 c235 :: Arr v236 1 c237 :: Arr v238 1 c239 :: Box b318 [v305, v307, v309] :: Arr v305 256 c306 :: Arr v307 1 c308 :: Arr v309 1 c310 :: Arr v223 256 c224 :: Box b247 [v234, v236, v238] :: Box b229 [v223, v4, v7] :: Box b215 [v1, v4, v7] :: hs) := H
        obtain ⟨q321, hq321, hF⟩ := bnd hF
        obtain ⟨C', ρ', hl322, HA, hL, hback⟩ := Hp.lend (A := []) (L := [Arr v234 256 c235, Arr v236 1 c237, Arr v238 1 c239]) (F := Box b318 [v305, v307, v309] :: Arr v305 256 c306 :: Arr v307 1 c308 :: Arr v309 1 c310 :: Arr v223 256 c224 :: Box b247 [v234, v236, v238] :: Box b229 [v223, v4, v7] :: Box b215 [v1, v4, v7] :: hs) H
        refine ne (E_call fn15 rfl (c_15 HA  (arr_rd (by decide) hl322 (hL (Arr v234 256 c235) (by simp)) r243) (arr_rd (by decide) hl322 (hL (Arr v236 1 c237) (by simp)) r244) (arr_rd (by decide) hl322 (hL (Arr v238 1 c239) (by simp)) r245) hq321)) rfl rfl ?_
        rintro _ wd328 ⟨v323, c324, x325, x326, rfl, rfl, r327, H⟩
        try dsimp only at hF
        replace H := hback H
        replace r327 := rdL.flat (ρ := ρ') (ρ' := ρ) (flat_A _ (flat_I _)) r327
        replace H : Hp C wd328 ρ (Arr v323 256 c324 :: Arr v234 256 c235 :: Arr v236 1 c237 :: Arr v238 1 c239 :: Box b318 [v305, v307, v309] :: Arr v305 256 c306 :: Arr v307 1 c308 :: Arr v309 1 c310 :: Arr v223 256 c224 :: Box b247 [v234, v236, v238] :: Box b229 [v223, v4, v7] :: Box b215 [v1, v4, v7] :: hs) := H
        refine nq (v := .tuple [.agg #[v323, v236, v238], .bool x326].toArray) (Q_move rfl) rfl rfl ?_
        refine nq (v := .agg #[v323, v236, v238]) (Q_extract rfl rfl) rfl rfl ?_
        refine nq (v := .bool x326) (Q_extract rfl rfl) rfl rfl ?_
        refine ne (E_alloc H ty29 (zs := [.slice none 0 0, .slice none 0 0, .slice none 0 0]) rfl) rfl rfl ?_
        rintro _ wd330 ⟨b329, rfl, H⟩
        replace H : Hp C wd330 ρ (Box b329 [.slice none 0 0, .slice none 0 0, .slice none 0 0] :: Arr v323 256 c324 :: Arr v234 256 c235 :: Arr v236 1 c237 :: Arr v238 1 c239 :: Box b318 [v305, v307, v309] :: Arr v305 256 c306 :: Arr v307 1 c308 :: Arr v309 1 c310 :: Arr v223 256 c224 :: Box b247 [v234, v236, v238] :: Box b229 [v223, v4, v7] :: Box b215 [v1, v4, v7] :: hs) := H
        refine ne (E_stB (k := 0) (cs := [v323, v236, v238]) (vs' := [v323, v236, v238]) H rfl ty29 rfl rfl rfl rfl (one_cons (arr_cells (H.ok.get (k := 1) rfl)).2 (one_cons (arr_cells (H.ok.get (k := 3) rfl)).2 (one_cons (arr_cells (H.ok.get (k := 4) rfl)).2 one_nil))) (by simp) rfl) rfl rfl ?_
        rintro _ wd331 H
        replace H : Hp C wd331 ρ (Box b329 [v323, v236, v238] :: Arr v323 256 c324 :: Arr v234 256 c235 :: Arr v236 1 c237 :: Arr v238 1 c239 :: Box b318 [v305, v307, v309] :: Arr v305 256 c306 :: Arr v307 1 c308 :: Arr v309 1 c310 :: Arr v223 256 c224 :: Box b247 [v234, v236, v238] :: Box b229 [v223, v4, v7] :: Box b215 [v1, v4, v7] :: hs) := H
        refine nq (v := .bool x326) (Q_assign rfl) rfl rfl ?_
        refine WL_nil ?_
        refine x_then ?_
        refine CW.sub (E' := [(1, .pointer (some ⟨b215, 0, none⟩)), (3, .pointer (some ⟨b229, 0, none⟩)), (5, .pointer (some ⟨b247, 0, none⟩)), (6, .pointer (some ⟨b318, 0, none⟩)), (7, .pointer (some ⟨b329, 0, none⟩))]) ⟨rfl, rfl, rfl, rfl, rfl, trivial⟩ ?_
        obtain ⟨o375, ho375, hF⟩ := bnd hF
        refine C_cut (fun a w' => ∃ (x374 : Bool), x374 = o375 ∧ Fr 75 a [(2, .bool x374)] ∧ Hp C w' ρ (hs)) ?_ ?_
        · refine R_dr (.take 0 (.take 2 (.one 1 (.one 3 (.one 4 (.take 5 (.take 6 (.take 7 (.one 8 (.take 9 (.take 10 (.take 11 (.take 13 (.take 14 (.one 12 (.one 15 (.take 16 (.take 17 (.take 18 (.take 19 (.one 20 (.take 21 (.take 22 (.take 23 (.take 25 (.one 24 (.one 26 (.take 27 (.take 28 (.take 29 .done)))))))))))))))))))))))))))))) (fun w' => Ok w' ρ [Box b329 [v323, v236, v238], Arr v323 256 c324, Arr v234 256 c235, Arr v236 1 c237, Arr v238 1 c239, Box b318 [v305, v307, v309], Arr v305 256 c306, Arr v307 1 c308, Arr v309 1 c310, Arr v223 256 c224, Box b247 [v234, v236, v238], Box b229 [v223, v4, v7], Box b215 [v1, v4, v7]]) (by kernel_rfl) (by kernel_rfl) (by kernel_rfl) (H.drew.okS (by simp)) ?_
          replace H := H.drew
          refine dq (v := .agg #[v1, v4, v7]) rfl (fun w' hw => Q_ldB (k := 12) (cs := [v1, v4, v7]) hw rfl ty25 rfl rfl rfl (fun h => nomatch h) rfl) rfl rfl ?_
          refine dq (v := .agg #[v223, v4, v7]) rfl (fun w' hw => Q_ldB (k := 11) (cs := [v223, v4, v7]) hw rfl ty29 rfl rfl rfl (fun h => nomatch h) rfl) rfl rfl ?_
          obtain ⟨q376, hq376, ho375⟩ := bnd ho375
          refine d1 (de rfl (E_call fn18 rfl (c_18 H gl0 r3 r6 r9 hq376)) rfl rfl ?_)
          rintro _ wd382 ⟨v378, c379, x380, rfl, rfl, r381, H⟩
          try dsimp only at ho375
          replace H : Hp C wd382 ρ (Arr v378 1 c379 :: Box b329 [v323, v236, v238] :: Arr v323 256 c324 :: Arr v234 256 c235 :: Arr v236 1 c237 :: Arr v238 1 c239 :: Box b318 [v305, v307, v309] :: Arr v305 256 c306 :: Arr v307 1 c308 :: Arr v309 1 c310 :: Arr v223 256 c224 :: Box b247 [v234, v236, v238] :: Box b229 [v223, v4, v7] :: Box b215 [v1, v4, v7] :: hs) := H
          refine ⟨H.okS (by simp), ?_⟩
          replace H := H.front 10 rfl
          replace H : Hp C wd382 ρ (Arr v223 256 c224 :: Arr v378 1 c379 :: Box b329 [v323, v236, v238] :: Arr v323 256 c324 :: Arr v234 256 c235 :: Arr v236 1 c237 :: Arr v238 1 c239 :: Box b318 [v305, v307, v309] :: Arr v305 256 c306 :: Arr v307 1 c308 :: Arr v309 1 c310 :: Box b247 [v234, v236, v238] :: Box b229 [v223, v4, v7] :: Box b215 [v1, v4, v7] :: hs) := H
          obtain ⟨q383, hq383, ho375⟩ := bnd ho375
          obtain ⟨C', ρ', hl384, HA, hL, hback⟩ := Hp.lend (A := []) (L := [Arr v223 256 c224]) (F := Arr v378 1 c379 :: Box b329 [v323, v236, v238] :: Arr v323 256 c324 :: Arr v234 256 c235 :: Arr v236 1 c237 :: Arr v238 1 c239 :: Box b318 [v305, v307, v309] :: Arr v305 256 c306 :: Arr v307 1 c308 :: Arr v309 1 c310 :: Box b247 [v234, v236, v238] :: Box b229 [v223, v4, v7] :: Box b215 [v1, v4, v7] :: hs) H
          refine d1 (de rfl (E_call fn23 rfl (c_23 HA  (arr_rd (by decide) hl384 (hL (Arr v223 256 c224) (by simp)) r227) (r6.up hl384) (r9.up hl384) hq383)) rfl rfl ?_)
          rintro _ wd389 ⟨v385, c386, x387, rfl, rfl, r388, H⟩
          try dsimp only at ho375
          replace H := hback H
          replace r388 := rdL.flat (ρ := ρ') (ρ' := ρ) (flat_I _) r388
          replace H : Hp C wd389 ρ (Arr v385 1 c386 :: Arr v223 256 c224 :: Arr v378 1 c379 :: Box b329 [v323, v236, v238] :: Arr v323 256 c324 :: Arr v234 256 c235 :: Arr v236 1 c237 :: Arr v238 1 c239 :: Box b318 [v305, v307, v309] :: Arr v305 256 c306 :: Arr v307 1 c308 :: Arr v309 1 c310 :: Box b247 [v234, v236, v238] :: Box b229 [v223, v4, v7] :: Box b215 [v1, v4, v7] :: hs) := H
          refine ⟨H.okS (by simp), ?_⟩
          replace H := H.front 2 rfl
          replace H : Hp C wd389 ρ (Arr v378 1 c379 :: Arr v385 1 c386 :: Arr v223 256 c224 :: Box b329 [v323, v236, v238] :: Arr v323 256 c324 :: Arr v234 256 c235 :: Arr v236 1 c237 :: Arr v238 1 c239 :: Box b318 [v305, v307, v309] :: Arr v305 256 c306 :: Arr v307 1 c308 :: Arr v309 1 c310 :: Box b247 [v234, v236, v238] :: Box b229 [v223, v4, v7] :: Box b215 [v1, v4, v7] :: hs) := H
          obtain ⟨q390, hq390, ho375⟩ := bnd ho375
          obtain ⟨C', ρ', hl391, HA, hL, hback⟩ := Hp.lend (A := []) (L := [Arr v378 1 c379, Arr v385 1 c386]) (F := Arr v223 256 c224 :: Box b329 [v323, v236, v238] :: Arr v323 256 c324 :: Arr v234 256 c235 :: Arr v236 1 c237 :: Arr v238 1 c239 :: Box b318 [v305, v307, v309] :: Arr v305 256 c306 :: Arr v307 1 c308 :: Arr v309 1 c310 :: Box b247 [v234, v236, v238] :: Box b229 [v223, v4, v7] :: Box b215 [v1, v4, v7] :: hs) H
          refine d1 (de rfl (E_call fn22 rfl (c_22 HA  (arr_rd (by decide) hl391 (hL (Arr v378 1 c379) (by simp)) r381) (arr_rd (by decide) hl391 (hL (Arr v385 1 c386) (by simp)) r388) hq390)) rfl rfl ?_)
          rintro _ wd393 ⟨x392, rfl, rfl, H⟩
          try dsimp only at ho375
          replace H := hback H
          replace H : Hp C wd393 ρ (Arr v378 1 c379 :: Arr v385 1 c386 :: Arr v223 256 c224 :: Box b329 [v323, v236, v238] :: Arr v323 256 c324 :: Arr v234 256 c235 :: Arr v236 1 c237 :: Arr v238 1 c239 :: Box b318 [v305, v307, v309] :: Arr v305 256 c306 :: Arr v307 1 c308 :: Arr v309 1 c310 :: Box b247 [v234, v236, v238] :: Box b229 [v223, v4, v7] :: Box b215 [v1, v4, v7] :: hs) := H
          refine ⟨H.okS (by simp), ?_⟩
          refine dq (v := .bool x392) rfl (fun w' hw => Q_move rfl) rfl rfl ?_
          rcases Bool.eq_false_or_eq_true x392 with hb | hb
          · rw [hb]
            replace ho375 := itT hb ho375
            refine dgq (v := .agg #[v323, v236, v238]) rfl (fun w' hw => Q_ldB (k := 0) (cs := [v323, v236, v238]) hw rfl ty29 rfl rfl rfl (fun h => nomatch h) rfl) rfl rfl rfl ?_
            refine dgq (v := .agg #[v305, v307, v309]) rfl (fun w' hw => Q_ldB (k := 5) (cs := [v305, v307, v309]) hw rfl ty29 rfl rfl rfl (fun h => nomatch h) rfl) rfl rfl rfl ?_
            replace H := H.front 11 rfl
            replace H : Hp C wd393 ρ (Arr v309 1 c310 :: Arr v378 1 c379 :: Arr v385 1 c386 :: Arr v223 256 c224 :: Box b329 [v323, v236, v238] :: Arr v323 256 c324 :: Arr v234 256 c235 :: Arr v236 1 c237 :: Arr v238 1 c239 :: Box b318 [v305, v307, v309] :: Arr v305 256 c306 :: Arr v307 1 c308 :: Box b247 [v234, v236, v238] :: Box b229 [v223, v4, v7] :: Box b215 [v1, v4, v7] :: hs) := H
            replace H := H.front 11 rfl
            replace H : Hp C wd393 ρ (Arr v307 1 c308 :: Arr v309 1 c310 :: Arr v378 1 c379 :: Arr v385 1 c386 :: Arr v223 256 c224 :: Box b329 [v323, v236, v238] :: Arr v323 256 c324 :: Arr v234 256 c235 :: Arr v236 1 c237 :: Arr v238 1 c239 :: Box b318 [v305, v307, v309] :: Arr v305 256 c306 :: Box b247 [v234, v236, v238] :: Box b229 [v223, v4, v7] :: Box b215 [v1, v4, v7] :: hs) := H
            replace H := H.front 11 rfl
            replace H : Hp C wd393 ρ (Arr v305 256 c306 :: Arr v307 1 c308 :: Arr v309 1 c310 :: Arr v378 1 c379 :: Arr v385 1 c386 :: Arr v223 256 c224 :: Box b329 [v323, v236, v238] :: Arr v323 256 c324 :: Arr v234 256 c235 :: Arr v236 1 c237 :: Arr v238 1 c239 :: Box b318 [v305, v307, v309] :: Box b247 [v234, v236, v238] :: Box b229 [v223, v4, v7] :: Box b215 [v1, v4, v7] :: hs) := H
            replace H := H.front 10 rfl
            replace H : Hp C wd393 ρ (Arr v238 1 c239 :: Arr v305 256 c306 :: Arr v307 1 c308 :: Arr v309 1 c310 :: Arr v378 1 c379 :: Arr v385 1 c386 :: Arr v223 256 c224 :: Box b329 [v323, v236, v238] :: Arr v323 256 c324 :: Arr v234 256 c235 :: Arr v236 1 c237 :: Box b318 [v305, v307, v309] :: Box b247 [v234, v236, v238] :: Box b229 [v223, v4, v7] :: Box b215 [v1, v4, v7] :: hs) := H
            replace H := H.front 10 rfl
            replace H : Hp C wd393 ρ (Arr v236 1 c237 :: Arr v238 1 c239 :: Arr v305 256 c306 :: Arr v307 1 c308 :: Arr v309 1 c310 :: Arr v378 1 c379 :: Arr v385 1 c386 :: Arr v223 256 c224 :: Box b329 [v323, v236, v238] :: Arr v323 256 c324 :: Arr v234 256 c235 :: Box b318 [v305, v307, v309] :: Box b247 [v234, v236, v238] :: Box b229 [v223, v4, v7] :: Box b215 [v1, v4, v7] :: hs) := H
            replace H := H.front 9 rfl
            replace H : Hp C wd393 ρ (Arr v323 256 c324 :: Arr v236 1 c237 :: Arr v238 1 c239 :: Arr v305 256 c306 :: Arr v307 1 c308 :: Arr v309 1 c310 :: Arr v378 1 c379 :: Arr v385 1 c386 :: Arr v223 256 c224 :: Box b329 [v323, v236, v238] :: Arr v234 256 c235 :: Box b318 [v305, v307, v309] :: Box b247 [v234, v236, v238] :: Box b229 [v223, v4, v7] :: Box b215 [v1, v4, v7] :: hs) := H
            obtain ⟨q394, hq394, ho375⟩ := bnd ho375
            obtain ⟨C', ρ', hl395, HA, hL, hback⟩ := Hp.lend (A := []) (L := [Arr v323 256 c324, Arr v236 1 c237, Arr v238 1 c239, Arr v305 256 c306, Arr v307 1 c308, Arr v309 1 c310]) (F := Arr v378 1 c379 :: Arr v385 1 c386 :: Arr v223 256 c224 :: Box b329 [v323, v236, v238] :: Arr v234 256 c235 :: Box b318 [v305, v307, v309] :: Box b247 [v234, v236, v238] :: Box b229 [v223, v4, v7] :: Box b215 [v1, v4, v7] :: hs) H
            refine d1 (dge rfl (E_call fn24 rfl (c_24 HA  (arr_rd (by decide) hl395 (hL (Arr v323 256 c324) (by simp)) r327) (arr_rd (by decide) hl395 (hL (Arr v236 1 c237) (by simp)) r244) (arr_rd (by decide) hl395 (hL (Arr v238 1 c239) (by simp)) r245) (arr_rd (by decide) hl395 (hL (Arr v305 256 c306) (by simp)) r314) (arr_rd (by decide) hl395 (hL (Arr v307 1 c308) (by simp)) r315) (arr_rd (by decide) hl395 (hL (Arr v309 1 c310) (by simp)) r316) hq394)) rfl rfl rfl ?_)
            rintro _ wd397 ⟨x396, rfl, rfl, H⟩
            try dsimp only at ho375
            replace H := hback H
            replace H : Hp C wd397 ρ (Arr v323 256 c324 :: Arr v236 1 c237 :: Arr v238 1 c239 :: Arr v305 256 c306 :: Arr v307 1 c308 :: Arr v309 1 c310 :: Arr v378 1 c379 :: Arr v385 1 c386 :: Arr v223 256 c224 :: Box b329 [v323, v236, v238] :: Arr v234 256 c235 :: Box b318 [v305, v307, v309] :: Box b247 [v234, v236, v238] :: Box b229 [v223, v4, v7] :: Box b215 [v1, v4, v7] :: hs) := H
            refine ⟨H.okS (by simp), ?_⟩
            refine dq (v := .bool x396) rfl (fun w' hw => Q_pickT rfl rfl) rfl rfl ?_
            refine dq (v := .bool x396) rfl (fun w' hw => Q_move rfl) rfl rfl ?_
            rcases Bool.eq_false_or_eq_true x396 with hb | hb
            · rw [hb]
              replace ho375 := itT hb ho375
              refine dgq (v := .agg #[v1, v4, v7]) rfl (fun w' hw => Q_ldB (k := 12) (cs := [v1, v4, v7]) hw rfl ty25 rfl rfl rfl (fun h => nomatch h) rfl) rfl rfl rfl ?_
              refine dgq (v := .agg #[v305, v307, v309]) rfl (fun w' hw => Q_ldB (k := 5) (cs := [v305, v307, v309]) hw rfl ty29 rfl rfl rfl (fun h => nomatch h) rfl) rfl rfl rfl ?_
              refine dgq (v := .agg #[v223, v4, v7]) rfl (fun w' hw => Q_ldB (k := 11) (cs := [v223, v4, v7]) hw rfl ty29 rfl rfl rfl (fun h => nomatch h) rfl) rfl rfl rfl ?_
              obtain ⟨q398, hq398, ho375⟩ := bnd ho375
              refine d1 (dge rfl (E_call fn20 rfl (c_20 H gl0 r3 r6 r9 hq398)) rfl rfl rfl ?_)
              rintro _ wd401 ⟨x400, rfl, rfl, H⟩
              try dsimp only at ho375
              replace H : Hp C wd401 ρ (Arr v323 256 c324 :: Arr v236 1 c237 :: Arr v238 1 c239 :: Arr v305 256 c306 :: Arr v307 1 c308 :: Arr v309 1 c310 :: Arr v378 1 c379 :: Arr v385 1 c386 :: Arr v223 256 c224 :: Box b329 [v323, v236, v238] :: Arr v234 256 c235 :: Box b318 [v305, v307, v309] :: Box b247 [v234, v236, v238] :: Box b229 [v223, v4, v7] :: Box b215 [v1, v4, v7] :: hs) := H
              refine ⟨H.okS (by simp), ?_⟩
              replace H := H.front 8 rfl
              replace H : Hp C wd401 ρ (Arr v223 256 c224 :: Arr v323 256 c324 :: Arr v236 1 c237 :: Arr v238 1 c239 :: Arr v305 256 c306 :: Arr v307 1 c308 :: Arr v309 1 c310 :: Arr v378 1 c379 :: Arr v385 1 c386 :: Box b329 [v323, v236, v238] :: Arr v234 256 c235 :: Box b318 [v305, v307, v309] :: Box b247 [v234, v236, v238] :: Box b229 [v223, v4, v7] :: Box b215 [v1, v4, v7] :: hs) := H
              replace H := H.front 6 rfl
              replace H : Hp C wd401 ρ (Arr v309 1 c310 :: Arr v223 256 c224 :: Arr v323 256 c324 :: Arr v236 1 c237 :: Arr v238 1 c239 :: Arr v305 256 c306 :: Arr v307 1 c308 :: Arr v378 1 c379 :: Arr v385 1 c386 :: Box b329 [v323, v236, v238] :: Arr v234 256 c235 :: Box b318 [v305, v307, v309] :: Box b247 [v234, v236, v238] :: Box b229 [v223, v4, v7] :: Box b215 [v1, v4, v7] :: hs) := H
              replace H := H.front 6 rfl
              replace H : Hp C wd401 ρ (Arr v307 1 c308 :: Arr v309 1 c310 :: Arr v223 256 c224 :: Arr v323 256 c324 :: Arr v236 1 c237 :: Arr v238 1 c239 :: Arr v305 256 c306 :: Arr v378 1 c379 :: Arr v385 1 c386 :: Box b329 [v323, v236, v238] :: Arr v234 256 c235 :: Box b318 [v305, v307, v309] :: Box b247 [v234, v236, v238] :: Box b229 [v223, v4, v7] :: Box b215 [v1, v4, v7] :: hs) := H
              replace H := H.front 6 rfl
              replace H : Hp C wd401 ρ (Arr v305 256 c306 :: Arr v307 1 c308 :: Arr v309 1 c310 :: Arr v223 256 c224 :: Arr v323 256 c324 :: Arr v236 1 c237 :: Arr v238 1 c239 :: Arr v378 1 c379 :: Arr v385 1 c386 :: Box b329 [v323, v236, v238] :: Arr v234 256 c235 :: Box b318 [v305, v307, v309] :: Box b247 [v234, v236, v238] :: Box b229 [v223, v4, v7] :: Box b215 [v1, v4, v7] :: hs) := H
              obtain ⟨q402, hq402, ho375⟩ := bnd ho375
              obtain ⟨C', ρ', hl403, HA, hL, hback⟩ := Hp.lend (A := []) (L := [Arr v305 256 c306, Arr v307 1 c308, Arr v309 1 c310, Arr v223 256 c224]) (F := Arr v323 256 c324 :: Arr v236 1 c237 :: Arr v238 1 c239 :: Arr v378 1 c379 :: Arr v385 1 c386 :: Box b329 [v323, v236, v238] :: Arr v234 256 c235 :: Box b318 [v305, v307, v309] :: Box b247 [v234, v236, v238] :: Box b229 [v223, v4, v7] :: Box b215 [v1, v4, v7] :: hs) H
              refine d1 (dge rfl (E_call fn24 rfl (c_24 HA  (arr_rd (by decide) hl403 (hL (Arr v305 256 c306) (by simp)) r314) (arr_rd (by decide) hl403 (hL (Arr v307 1 c308) (by simp)) r315) (arr_rd (by decide) hl403 (hL (Arr v309 1 c310) (by simp)) r316) (arr_rd (by decide) hl403 (hL (Arr v223 256 c224) (by simp)) r227) (r6.up hl403) (r9.up hl403) hq402)) rfl rfl rfl ?_)
              rintro _ wd405 ⟨x404, rfl, rfl, H⟩
              try dsimp only at ho375
              replace H := hback H
              replace H : Hp C wd405 ρ (Arr v305 256 c306 :: Arr v307 1 c308 :: Arr v309 1 c310 :: Arr v223 256 c224 :: Arr v323 256 c324 :: Arr v236 1 c237 :: Arr v238 1 c239 :: Arr v378 1 c379 :: Arr v385 1 c386 :: Box b329 [v323, v236, v238] :: Arr v234 256 c235 :: Box b318 [v305, v307, v309] :: Box b247 [v234, v236, v238] :: Box b229 [v223, v4, v7] :: Box b215 [v1, v4, v7] :: hs) := H
              refine ⟨H.okS (by simp), ?_⟩
              refine dgq (v := .bool (x400 == x404)) rfl (fun w' hw => Q_eqlB Tryd.underlying4 rfl rfl) rfl rfl rfl ?_
              refine dq (v := .bool (x400 == x404)) rfl (fun w' hw => Q_pickT rfl rfl) rfl rfl ?_
              refine dq (v := .bool (x400 == x404)) rfl (fun w' hw => Q_move rfl) rfl rfl ?_
              rcases Bool.eq_false_or_eq_true (x400 == x404) with hb | hb
              · rw [hb]
                replace ho375 := itT hb ho375
                refine dgq (v := .agg #[v234, v236, v238]) rfl (fun w' hw => Q_ldB (k := 10) (cs := [v234, v236, v238]) hw rfl ty25 rfl rfl rfl (fun h => nomatch h) rfl) rfl rfl rfl ?_
                replace H := H.front 6 rfl
                replace H : Hp C wd405 ρ (Arr v238 1 c239 :: Arr v305 256 c306 :: Arr v307 1 c308 :: Arr v309 1 c310 :: Arr v223 256 c224 :: Arr v323 256 c324 :: Arr v236 1 c237 :: Arr v378 1 c379 :: Arr v385 1 c386 :: Box b329 [v323, v236, v238] :: Arr v234 256 c235 :: Box b318 [v305, v307, v309] :: Box b247 [v234, v236, v238] :: Box b229 [v223, v4, v7] :: Box b215 [v1, v4, v7] :: hs) := H
                replace H := H.front 6 rfl
                replace H : Hp C wd405 ρ (Arr v236 1 c237 :: Arr v238 1 c239 :: Arr v305 256 c306 :: Arr v307 1 c308 :: Arr v309 1 c310 :: Arr v223 256 c224 :: Arr v323 256 c324 :: Arr v378 1 c379 :: Arr v385 1 c386 :: Box b329 [v323, v236, v238] :: Arr v234 256 c235 :: Box b318 [v305, v307, v309] :: Box b247 [v234, v236, v238] :: Box b229 [v223, v4, v7] :: Box b215 [v1, v4, v7] :: hs) := H
                replace H := H.front 10 rfl
                replace H : Hp C wd405 ρ (Arr v234 256 c235 :: Arr v236 1 c237 :: Arr v238 1 c239 :: Arr v305 256 c306 :: Arr v307 1 c308 :: Arr v309 1 c310 :: Arr v223 256 c224 :: Arr v323 256 c324 :: Arr v378 1 c379 :: Arr v385 1 c386 :: Box b329 [v323, v236, v238] :: Box b318 [v305, v307, v309] :: Box b247 [v234, v236, v238] :: Box b229 [v223, v4, v7] :: Box b215 [v1, v4, v7] :: hs) := H
                obtain ⟨q406, hq406, ho375⟩ := bnd ho375
                obtain ⟨C', ρ', hl407, HA, hL, hback⟩ := Hp.lend (A := []) (L := [Arr v234 256 c235, Arr v236 1 c237, Arr v238 1 c239]) (F := Arr v305 256 c306 :: Arr v307 1 c308 :: Arr v309 1 c310 :: Arr v223 256 c224 :: Arr v323 256 c324 :: Arr v378 1 c379 :: Arr v385 1 c386 :: Box b329 [v323, v236, v238] :: Box b318 [v305, v307, v309] :: Box b247 [v234, v236, v238] :: Box b229 [v223, v4, v7] :: Box b215 [v1, v4, v7] :: hs) H
                refine d1 (dge rfl (E_call fn20 rfl (c_20 HA (gl0.up hl407) (arr_rd (by decide) hl407 (hL (Arr v234 256 c235) (by simp)) r243) (arr_rd (by decide) hl407 (hL (Arr v236 1 c237) (by simp)) r244) (arr_rd (by decide) hl407 (hL (Arr v238 1 c239) (by simp)) r245) hq406)) rfl rfl rfl ?_)
                rintro _ wd409 ⟨x408, rfl, rfl, H⟩
                try dsimp only at ho375
                replace H := hback H
                replace H : Hp C wd409 ρ (Arr v234 256 c235 :: Arr v236 1 c237 :: Arr v238 1 c239 :: Arr v305 256 c306 :: Arr v307 1 c308 :: Arr v309 1 c310 :: Arr v223 256 c224 :: Arr v323 256 c324 :: Arr v378 1 c379 :: Arr v385 1 c386 :: Box b329 [v323, v236, v238] :: Box b318 [v305, v307, v309] :: Box b247 [v234, v236, v238] :: Box b229 [v223, v4, v7] :: Box b215 [v1, v4, v7] :: hs) := H
                refine ⟨H.okS (by simp), ?_⟩
                refine dq (v := .bool x408) rfl (fun w' hw => Q_pickT rfl rfl) rfl rfl ?_
                refine dq (v := .bool x408) rfl (fun w' hw => Q_move rfl) rfl rfl ?_
                rcases Bool.eq_false_or_eq_true x408 with hb | hb
                · rw [hb]
                  replace ho375 := itT hb ho375
                  refine dgq (v := .agg #[v1, v4, v7]) rfl (fun w' hw => Q_ldB (k := 12) (cs := [v1, v4, v7]) hw rfl ty25 rfl rfl rfl (fun h => nomatch h) rfl) rfl rfl rfl ?_
                  refine dgq (v := .agg #[v223, v4, v7]) rfl (fun w' hw => Q_ldB (k := 11) (cs := [v223, v4, v7]) hw rfl ty29 rfl rfl rfl (fun h => nomatch h) rfl) rfl rfl rfl ?_
                  obtain ⟨q410, hq410, ho375⟩ := bnd ho375
                  refine d1 (dge rfl (E_call fn19 rfl (c_19 H gl0 r3 r6 r9 hq410)) rfl rfl rfl ?_)
                  rintro _ wd413 ⟨x412, rfl, rfl, H⟩
                  try dsimp only at ho375
                  replace H : Hp C wd413 ρ (Arr v234 256 c235 :: Arr v236 1 c237 :: Arr v238 1 c239 :: Arr v305 256 c306 :: Arr v307 1 c308 :: Arr v309 1 c310 :: Arr v223 256 c224 :: Arr v323 256 c324 :: Arr v378 1 c379 :: Arr v385 1 c386 :: Box b329 [v323, v236, v238] :: Box b318 [v305, v307, v309] :: Box b247 [v234, v236, v238] :: Box b229 [v223, v4, v7] :: Box b215 [v1, v4, v7] :: hs) := H
                  refine ⟨H.okS (by simp), ?_⟩
                  replace H := H.front 6 rfl
                  replace H : Hp C wd413 ρ (Arr v223 256 c224 :: Arr v234 256 c235 :: Arr v236 1 c237 :: Arr v238 1 c239 :: Arr v305 256 c306 :: Arr v307 1 c308 :: Arr v309 1 c310 :: Arr v323 256 c324 :: Arr v378 1 c379 :: Arr v385 1 c386 :: Box b329 [v323, v236, v238] :: Box b318 [v305, v307, v309] :: Box b247 [v234, v236, v238] :: Box b229 [v223, v4, v7] :: Box b215 [v1, v4, v7] :: hs) := H
                  obtain ⟨q414, hq414, ho375⟩ := bnd ho375
                  obtain ⟨C', ρ', hl415, HA, hL, hback⟩ := Hp.lend (A := []) (L := [Arr v223 256 c224]) (F := Arr v234 256 c235 :: Arr v236 1 c237 :: Arr v238 1 c239 :: Arr v305 256 c306 :: Arr v307 1 c308 :: Arr v309 1 c310 :: Arr v323 256 c324 :: Arr v378 1 c379 :: Arr v385 1 c386 :: Box b329 [v323, v236, v238] :: Box b318 [v305, v307, v309] :: Box b247 [v234, v236, v238] :: Box b229 [v223, v4, v7] :: Box b215 [v1, v4, v7] :: hs) H
                  refine d1 (dge rfl (E_call fn25 rfl (c_25 HA  (arr_rd (by decide) hl415 (hL (Arr v223 256 c224) (by simp)) r227) (r6.up hl415) (r9.up hl415) hq414)) rfl rfl rfl ?_)
                  rintro _ wd417 ⟨x416, rfl, rfl, H⟩
                  try dsimp only at ho375
                  replace H := hback H
                  replace H : Hp C wd417 ρ (Arr v223 256 c224 :: Arr v234 256 c235 :: Arr v236 1 c237 :: Arr v238 1 c239 :: Arr v305 256 c306 :: Arr v307 1 c308 :: Arr v309 1 c310 :: Arr v323 256 c324 :: Arr v378 1 c379 :: Arr v385 1 c386 :: Box b329 [v323, v236, v238] :: Box b318 [v305, v307, v309] :: Box b247 [v234, v236, v238] :: Box b229 [v223, v4, v7] :: Box b215 [v1, v4, v7] :: hs) := H
                  refine ⟨H.okS (by simp), ?_⟩
                  refine dgq (v := .bool (x412 == x416)) rfl (fun w' hw => Q_eql rfl rfl) rfl rfl rfl ?_
                  refine dq (v := .bool (x412 == x416)) rfl (fun w' hw => Q_pickT rfl rfl) rfl rfl ?_
                  refine dq (v := .bool (x412 == x416)) rfl (fun w' hw => Q_assign rfl) rfl rfl ?_
                  refine DL_nil ?_
                  replace H := H.drop 0 rfl
                  replace H : Hp C wd417 ρ (Arr v234 256 c235 :: Arr v236 1 c237 :: Arr v238 1 c239 :: Arr v305 256 c306 :: Arr v307 1 c308 :: Arr v309 1 c310 :: Arr v323 256 c324 :: Arr v378 1 c379 :: Arr v385 1 c386 :: Box b329 [v323, v236, v238] :: Box b318 [v305, v307, v309] :: Box b247 [v234, v236, v238] :: Box b229 [v223, v4, v7] :: Box b215 [v1, v4, v7] :: hs) := H
                  replace H := H.drop 0 rfl
                  replace H : Hp C wd417 ρ (Arr v236 1 c237 :: Arr v238 1 c239 :: Arr v305 256 c306 :: Arr v307 1 c308 :: Arr v309 1 c310 :: Arr v323 256 c324 :: Arr v378 1 c379 :: Arr v385 1 c386 :: Box b329 [v323, v236, v238] :: Box b318 [v305, v307, v309] :: Box b247 [v234, v236, v238] :: Box b229 [v223, v4, v7] :: Box b215 [v1, v4, v7] :: hs) := H
                  replace H := H.drop 0 rfl
                  replace H : Hp C wd417 ρ (Arr v238 1 c239 :: Arr v305 256 c306 :: Arr v307 1 c308 :: Arr v309 1 c310 :: Arr v323 256 c324 :: Arr v378 1 c379 :: Arr v385 1 c386 :: Box b329 [v323, v236, v238] :: Box b318 [v305, v307, v309] :: Box b247 [v234, v236, v238] :: Box b229 [v223, v4, v7] :: Box b215 [v1, v4, v7] :: hs) := H
                  replace H := H.drop 0 rfl
                  replace H : Hp C wd417 ρ (Arr v305 256 c306 :: Arr v307 1 c308 :: Arr v309 1 c310 :: Arr v323 256 c324 :: Arr v378 1 c379 :: Arr v385 1 c386 :: Box b329 [v323, v236, v238] :: Box b318 [v305, v307, v309] :: Box b247 [v234, v236, v238] :: Box b229 [v223, v4, v7] :: Box b215 [v1, v4, v7] :: hs) := H
                  replace H := H.drop 0 rfl
                  replace H : Hp C wd417 ρ (Arr v307 1 c308 :: Arr v309 1 c310 :: Arr v323 256 c324 :: Arr v378 1 c379 :: Arr v385 1 c386 :: Box b329 [v323, v236, v238] :: Box b318 [v305, v307, v309] :: Box b247 [v234, v236, v238] :: Box b229 [v223, v4, v7] :: Box b215 [v1, v4, v7] :: hs) := H
                  replace H := H.drop 0 rfl
                  replace H : Hp C wd417 ρ (Arr v309 1 c310 :: Arr v323 256 c324 :: Arr v378 1 c379 :: Arr v385 1 c386 :: Box b329 [v323, v236, v238] :: Box b318 [v305, v307, v309] :: Box b247 [v234, v236, v238] :: Box b229 [v223, v4, v7] :: Box b215 [v1, v4, v7] :: hs) := H
                  replace H := H.drop 0 rfl
                  replace H : Hp C wd417 ρ (Arr v323 256 c324 :: Arr v378 1 c379 :: Arr v385 1 c386 :: Box b329 [v323, v236, v238] :: Box b318 [v305, v307, v309] :: Box b247 [v234, v236, v238] :: Box b229 [v223, v4, v7] :: Box b215 [v1, v4, v7] :: hs) := H
                  replace H := H.drop 0 rfl
                  replace H : Hp C wd417 ρ (Arr v378 1 c379 :: Arr v385 1 c386 :: Box b329 [v323, v236, v238] :: Box b318 [v305, v307, v309] :: Box b247 [v234, v236, v238] :: Box b229 [v223, v4, v7] :: Box b215 [v1, v4, v7] :: hs) := H
                  replace H := H.drop 0 rfl
                  replace H : Hp C wd417 ρ (Arr v385 1 c386 :: Box b329 [v323, v236, v238] :: Box b318 [v305, v307, v309] :: Box b247 [v234, v236, v238] :: Box b229 [v223, v4, v7] :: Box b215 [v1, v4, v7] :: hs) := H
                  replace H := H.drop 0 rfl
                  replace H : Hp C wd417 ρ (Box b329 [v323, v236, v238] :: Box b318 [v305, v307, v309] :: Box b247 [v234, v236, v238] :: Box b229 [v223, v4, v7] :: Box b215 [v1, v4, v7] :: hs) := H
                  replace H := H.drop 0 rfl
                  replace H : Hp C wd417 ρ (Box b318 [v305, v307, v309] :: Box b247 [v234, v236, v238] :: Box b229 [v223, v4, v7] :: Box b215 [v1, v4, v7] :: hs) := H
                  replace H := H.drop 0 rfl
                  replace H : Hp C wd417 ρ (Box b247 [v234, v236, v238] :: Box b229 [v223, v4, v7] :: Box b215 [v1, v4, v7] :: hs) := H
                  replace H := H.drop 0 rfl
                  replace H : Hp C wd417 ρ (Box b229 [v223, v4, v7] :: Box b215 [v1, v4, v7] :: hs) := H
                  replace H := H.drop 0 rfl
                  replace H : Hp C wd417 ρ (Box b215 [v1, v4, v7] :: hs) := H
                  replace H := H.drop 0 rfl
                  replace H : Hp C wd417 ρ (hs) := H
                  obtain rfl := Option.some.inj ho375
                  refine x_A fun a hf => ⟨x412 == x416, rfl, hf.sub ⟨rfl, trivial⟩, H⟩
                · rw [hb]
                  replace ho375 := itF hb ho375
                  refine dgs rfl rfl rfl rfl rfl ?_
                  refine dgs rfl rfl rfl rfl rfl ?_
                  refine d1 (dges rfl rfl rfl rfl rfl ?_)
                  refine d1 (dges rfl rfl rfl rfl rfl ?_)
                  refine dgs rfl rfl rfl rfl rfl ?_
                  refine dq (v := .bool false) rfl (fun w' hw => Q_pickF rfl rfl) rfl rfl ?_
                  refine dq (v := .bool false) rfl (fun w' hw => Q_assign rfl) rfl rfl ?_
                  refine DL_nil ?_
                  replace H := H.drop 0 rfl
                  replace H : Hp C wd409 ρ (Arr v236 1 c237 :: Arr v238 1 c239 :: Arr v305 256 c306 :: Arr v307 1 c308 :: Arr v309 1 c310 :: Arr v223 256 c224 :: Arr v323 256 c324 :: Arr v378 1 c379 :: Arr v385 1 c386 :: Box b329 [v323, v236, v238] :: Box b318 [v305, v307, v309] :: Box b247 [v234, v236, v238] :: Box b229 [v223, v4, v7] :: Box b215 [v1, v4, v7] :: hs) := H
                  replace H := H.drop 0 rfl
                  replace H : Hp C wd409 ρ (Arr v238 1 c239 :: Arr v305 256 c306 :: Arr v307 1 c308 :: Arr v309 1 c310 :: Arr v223 256 c224 :: Arr v323 256 c324 :: Arr v378 1 c379 :: Arr v385 1 c386 :: Box b329 [v323, v236, v238] :: Box b318 [v305, v307, v309] :: Box b247 [v234, v236, v238] :: Box b229 [v223, v4, v7] :: Box b215 [v1, v4, v7] :: hs) := H
                  replace H := H.drop 0 rfl
                  replace H : Hp C wd409 ρ (Arr v305 256 c306 :: Arr v307 1 c308 :: Arr v309 1 c310 :: Arr v223 256 c224 :: Arr v323 256 c324 :: Arr v378 1 c379 :: Arr v385 1 c386 :: Box b329 [v323, v236, v238] :: Box b318 [v305, v307, v309] :: Box b247 [v234, v236, v238] :: Box b229 [v223, v4, v7] :: Box b215 [v1, v4, v7] :: hs) := H
                  replace H := H.drop 0 rfl
                  replace H : Hp C wd409 ρ (Arr v307 1 c308 :: Arr v309 1 c310 :: Arr v223 256 c224 :: Arr v323 256 c324 :: Arr v378 1 c379 :: Arr v385 1 c386 :: Box b329 [v323, v236, v238] :: Box b318 [v305, v307, v309] :: Box b247 [v234, v236, v238] :: Box b229 [v223, v4, v7] :: Box b215 [v1, v4, v7] :: hs) := H
                  replace H := H.drop 0 rfl
                  replace H : Hp C wd409 ρ (Arr v309 1 c310 :: Arr v223 256 c224 :: Arr v323 256 c324 :: Arr v378 1 c379 :: Arr v385 1 c386 :: Box b329 [v323, v236, v238] :: Box b318 [v305, v307, v309] :: Box b247 [v234, v236, v238] :: Box b229 [v223, v4, v7] :: Box b215 [v1, v4, v7] :: hs) := H
                  replace H := H.drop 0 rfl
                  replace H : Hp C wd409 ρ (Arr v223 256 c224 :: Arr v323 256 c324 :: Arr v378 1 c379 :: Arr v385 1 c386 :: Box b329 [v323, v236, v238] :: Box b318 [v305, v307, v309] :: Box b247 [v234, v236, v238] :: Box b229 [v223, v4, v7] :: Box b215 [v1, v4, v7] :: hs) := H
                  replace H := H.drop 0 rfl
                  replace H : Hp C wd409 ρ (Arr v323 256 c324 :: Arr v378 1 c379 :: Arr v385 1 c386 :: Box b329 [v323, v236, v238] :: Box b318 [v305, v307, v309] :: Box b247 [v234, v236, v238] :: Box b229 [v223, v4, v7] :: Box b215 [v1, v4, v7] :: hs) := H
                  replace H := H.drop 0 rfl
                  replace H : Hp C wd409 ρ (Arr v378 1 c379 :: Arr v385 1 c386 :: Box b329 [v323, v236, v238] :: Box b318 [v305, v307, v309] :: Box b247 [v234, v236, v238] :: Box b229 [v223, v4, v7] :: Box b215 [v1, v4, v7] :: hs) := H
                  replace H := H.drop 0 rfl
                  replace H : Hp C wd409 ρ (Arr v385 1 c386 :: Box b329 [v323, v236, v238] :: Box b318 [v305, v307, v309] :: Box b247 [v234, v236, v238] :: Box b229 [v223, v4, v7] :: Box b215 [v1, v4, v7] :: hs) := H
                  replace H := H.drop 0 rfl
                  replace H : Hp C wd409 ρ (Box b329 [v323, v236, v238] :: Box b318 [v305, v307, v309] :: Box b247 [v234, v236, v238] :: Box b229 [v223, v4, v7] :: Box b215 [v1, v4, v7] :: hs) := H
                  replace H := H.drop 0 rfl
                  replace H : Hp C wd409 ρ (Box b318 [v305, v307, v309] :: Box b247 [v234, v236, v238] :: Box b229 [v223, v4, v7] :: Box b215 [v1, v4, v7] :: hs) := H
                  replace H := H.drop 0 rfl
                  replace H : Hp C wd409 ρ (Box b247 [v234, v236, v238] :: Box b229 [v223, v4, v7] :: Box b215 [v1, v4, v7] :: hs) := H
                  replace H := H.drop 0 rfl
                  replace H : Hp C wd409 ρ (Box b229 [v223, v4, v7] :: Box b215 [v1, v4, v7] :: hs) := H
                  replace H := H.drop 0 rfl
                  replace H : Hp C wd409 ρ (Box b215 [v1, v4, v7] :: hs) := H
                  replace H := H.drop 0 rfl
                  replace H : Hp C wd409 ρ (hs) := H
                  obtain rfl := Option.some.inj ho375
                  refine x_A fun a hf => ⟨false, rfl, hf.sub ⟨rfl, trivial⟩, H⟩
              · rw [hb]
                replace ho375 := itF hb ho375
                refine dgs rfl rfl rfl rfl rfl ?_
                refine d1 (dges rfl rfl rfl rfl rfl ?_)
                refine dq (v := .bool false) rfl (fun w' hw => Q_pickF rfl rfl) rfl rfl ?_
                refine dq (v := .bool false) rfl (fun w' hw => Q_move rfl) rfl rfl ?_
                refine dgs rfl rfl rfl rfl rfl ?_
                refine dgs rfl rfl rfl rfl rfl ?_
                refine d1 (dges rfl rfl rfl rfl rfl ?_)
                refine d1 (dges rfl rfl rfl rfl rfl ?_)
                refine dgs rfl rfl rfl rfl rfl ?_
                refine dq (v := .bool false) rfl (fun w' hw => Q_pickF rfl rfl) rfl rfl ?_
                refine dq (v := .bool false) rfl (fun w' hw => Q_assign rfl) rfl rfl ?_
                refine DL_nil ?_
                replace H := H.drop 0 rfl
                replace H : Hp C wd405 ρ (Arr v307 1 c308 :: Arr v309 1 c310 :: Arr v223 256 c224 :: Arr v323 256 c324 :: Arr v236 1 c237 :: Arr v238 1 c239 :: Arr v378 1 c379 :: Arr v385 1 c386 :: Box b329 [v323, v236, v238] :: Arr v234 256 c235 :: Box b318 [v305, v307, v309] :: Box b247 [v234, v236, v238] :: Box b229 [v223, v4, v7] :: Box b215 [v1, v4, v7] :: hs) := H
                replace H := H.drop 0 rfl
                replace H : Hp C wd405 ρ (Arr v309 1 c310 :: Arr v223 256 c224 :: Arr v323 256 c324 :: Arr v236 1 c237 :: Arr v238 1 c239 :: Arr v378 1 c379 :: Arr v385 1 c386 :: Box b329 [v323, v236, v238] :: Arr v234 256 c235 :: Box b318 [v305, v307, v309] :: Box b247 [v234, v236, v238] :: Box b229 [v223, v4, v7] :: Box b215 [v1, v4, v7] :: hs) := H
                replace H := H.drop 0 rfl
                replace H : Hp C wd405 ρ (Arr v223 256 c224 :: Arr v323 256 c324 :: Arr v236 1 c237 :: Arr v238 1 c239 :: Arr v378 1 c379 :: Arr v385 1 c386 :: Box b329 [v323, v236, v238] :: Arr v234 256 c235 :: Box b318 [v305, v307, v309] :: Box b247 [v234, v236, v238] :: Box b229 [v223, v4, v7] :: Box b215 [v1, v4, v7] :: hs) := H
                replace H := H.drop 0 rfl
                replace H : Hp C wd405 ρ (Arr v323 256 c324 :: Arr v236 1 c237 :: Arr v238 1 c239 :: Arr v378 1 c379 :: Arr v385 1 c386 :: Box b329 [v323, v236, v238] :: Arr v234 256 c235 :: Box b318 [v305, v307, v309] :: Box b247 [v234, v236, v238] :: Box b229 [v223, v4, v7] :: Box b215 [v1, v4, v7] :: hs) := H
                replace H := H.drop 0 rfl
                replace H : Hp C wd405 ρ (Arr v236 1 c237 :: Arr v238 1 c239 :: Arr v378 1 c379 :: Arr v385 1 c386 :: Box b329 [v323, v236, v238] :: Arr v234 256 c235 :: Box b318 [v305, v307, v309] :: Box b247 [v234, v236, v238] :: Box b229 [v223, v4, v7] :: Box b215 [v1, v4, v7] :: hs) := H
                replace H := H.drop 0 rfl
                replace H : Hp C wd405 ρ (Arr v238 1 c239 :: Arr v378 1 c379 :: Arr v385 1 c386 :: Box b329 [v323, v236, v238] :: Arr v234 256 c235 :: Box b318 [v305, v307, v309] :: Box b247 [v234, v236, v238] :: Box b229 [v223, v4, v7] :: Box b215 [v1, v4, v7] :: hs) := H
                replace H := H.drop 0 rfl
                replace H : Hp C wd405 ρ (Arr v378 1 c379 :: Arr v385 1 c386 :: Box b329 [v323, v236, v238] :: Arr v234 256 c235 :: Box b318 [v305, v307, v309] :: Box b247 [v234, v236, v238] :: Box b229 [v223, v4, v7] :: Box b215 [v1, v4, v7] :: hs) := H
                replace H := H.drop 0 rfl
                replace H : Hp C wd405 ρ (Arr v385 1 c386 :: Box b329 [v323, v236, v238] :: Arr v234 256 c235 :: Box b318 [v305, v307, v309] :: Box b247 [v234, v236, v238] :: Box b229 [v223, v4, v7] :: Box b215 [v1, v4, v7] :: hs) := H
                replace H := H.drop 0 rfl
                replace H : Hp C wd405 ρ (Box b329 [v323, v236, v238] :: Arr v234 256 c235 :: Box b318 [v305, v307, v309] :: Box b247 [v234, v236, v238] :: Box b229 [v223, v4, v7] :: Box b215 [v1, v4, v7] :: hs) := H
                replace H := H.drop 0 rfl
                replace H : Hp C wd405 ρ (Arr v234 256 c235 :: Box b318 [v305, v307, v309] :: Box b247 [v234, v236, v238] :: Box b229 [v223, v4, v7] :: Box b215 [v1, v4, v7] :: hs) := H
                replace H := H.drop 0 rfl
                replace H : Hp C wd405 ρ (Box b318 [v305, v307, v309] :: Box b247 [v234, v236, v238] :: Box b229 [v223, v4, v7] :: Box b215 [v1, v4, v7] :: hs) := H
                replace H := H.drop 0 rfl
                replace H : Hp C wd405 ρ (Box b247 [v234, v236, v238] :: Box b229 [v223, v4, v7] :: Box b215 [v1, v4, v7] :: hs) := H
                replace H := H.drop 0 rfl
                replace H : Hp C wd405 ρ (Box b229 [v223, v4, v7] :: Box b215 [v1, v4, v7] :: hs) := H
                replace H := H.drop 0 rfl
                replace H : Hp C wd405 ρ (Box b215 [v1, v4, v7] :: hs) := H
                replace H := H.drop 0 rfl
                replace H : Hp C wd405 ρ (hs) := H
                obtain rfl := Option.some.inj ho375
                refine x_A fun a hf => ⟨false, rfl, hf.sub ⟨rfl, trivial⟩, H⟩
            · rw [hb]
              replace ho375 := itF hb ho375
              refine dgs rfl rfl rfl rfl rfl ?_
              refine dgs rfl rfl rfl rfl rfl ?_
              refine dgs rfl rfl rfl rfl rfl ?_
              refine d1 (dges rfl rfl rfl rfl rfl ?_)
              refine d1 (dges rfl rfl rfl rfl rfl ?_)
              refine dgs rfl rfl rfl rfl rfl ?_
              refine dq (v := .bool false) rfl (fun w' hw => Q_pickF rfl rfl) rfl rfl ?_
              refine dq (v := .bool false) rfl (fun w' hw => Q_move rfl) rfl rfl ?_
              refine dgs rfl rfl rfl rfl rfl ?_
              refine d1 (dges rfl rfl rfl rfl rfl ?_)
              refine dq (v := .bool false) rfl (fun w' hw => Q_pickF rfl rfl) rfl rfl ?_
              refine dq (v := .bool false) rfl (fun w' hw => Q_move rfl) rfl rfl ?_
              refine dgs rfl rfl rfl rfl rfl ?_
              refine dgs rfl rfl rfl rfl rfl ?_
              refine d1 (dges rfl rfl rfl rfl rfl ?_)
              refine d1 (dges rfl rfl rfl rfl rfl ?_)
              refine dgs rfl rfl rfl rfl rfl ?_
              refine dq (v := .bool false) rfl (fun w' hw => Q_pickF rfl rfl) rfl rfl ?_
              refine dq (v := .bool false) rfl (fun w' hw => Q_assign rfl) rfl rfl ?_
              refine DL_nil ?_
              replace H := H.drop 0 rfl
              replace H : Hp C wd397 ρ (Arr v236 1 c237 :: Arr v238 1 c239 :: Arr v305 256 c306 :: Arr v307 1 c308 :: Arr v309 1 c310 :: Arr v378 1 c379 :: Arr v385 1 c386 :: Arr v223 256 c224 :: Box b329 [v323, v236, v238] :: Arr v234 256 c235 :: Box b318 [v305, v307, v309] :: Box b247 [v234, v236, v238] :: Box b229 [v223, v4, v7] :: Box b215 [v1, v4, v7] :: hs) := H
              replace H := H.drop 0 rfl
              replace H : Hp C wd397 ρ (Arr v238 1 c239 :: Arr v305 256 c306 :: Arr v307 1 c308 :: Arr v309 1 c310 :: Arr v378 1 c379 :: Arr v385 1 c386 :: Arr v223 256 c224 :: Box b329 [v323, v236, v238] :: Arr v234 256 c235 :: Box b318 [v305, v307, v309] :: Box b247 [v234, v236, v238] :: Box b229 [v223, v4, v7] :: Box b215 [v1, v4, v7] :: hs) := H
              replace H := H.drop 0 rfl
              replace H : Hp C wd397 ρ (Arr v305 256 c306 :: Arr v307 1 c308 :: Arr v309 1 c310 :: Arr v378 1 c379 :: Arr v385 1 c386 :: Arr v223 256 c224 :: Box b329 [v323, v236, v238] :: Arr v234 256 c235 :: Box b318 [v305, v307, v309] :: Box b247 [v234, v236, v238] :: Box b229 [v223, v4, v7] :: Box b215 [v1, v4, v7] :: hs) := H
              replace H := H.drop 0 rfl
              replace H : Hp C wd397 ρ (Arr v307 1 c308 :: Arr v309 1 c310 :: Arr v378 1 c379 :: Arr v385 1 c386 :: Arr v223 256 c224 :: Box b329 [v323, v236, v238] :: Arr v234 256 c235 :: Box b318 [v305, v307, v309] :: Box b247 [v234, v236, v238] :: Box b229 [v223, v4, v7] :: Box b215 [v1, v4, v7] :: hs) := H
              replace H := H.drop 0 rfl
              replace H : Hp C wd397 ρ (Arr v309 1 c310 :: Arr v378 1 c379 :: Arr v385 1 c386 :: Arr v223 256 c224 :: Box b329 [v323, v236, v238] :: Arr v234 256 c235 :: Box b318 [v305, v307, v309] :: Box b247 [v234, v236, v238] :: Box b229 [v223, v4, v7] :: Box b215 [v1, v4, v7] :: hs) := H
              replace H := H.drop 0 rfl
              replace H : Hp C wd397 ρ (Arr v378 1 c379 :: Arr v385 1 c386 :: Arr v223 256 c224 :: Box b329 [v323, v236, v238] :: Arr v234 256 c235 :: Box b318 [v305, v307, v309] :: Box b247 [v234, v236, v238] :: Box b229 [v223, v4, v7] :: Box b215 [v1, v4, v7] :: hs) := H
              replace H := H.drop 0 rfl
              replace H : Hp C wd397 ρ (Arr v385 1 c386 :: Arr v223 256 c224 :: Box b329 [v323, v236, v238] :: Arr v234 256 c235 :: Box b318 [v305, v307, v309] :: Box b247 [v234, v236, v238] :: Box b229 [v223, v4, v7] :: Box b215 [v1, v4, v7] :: hs) := H
              replace H := H.drop 0 rfl
              replace H : Hp C wd397 ρ (Arr v223 256 c224 :: Box b329 [v323, v236, v238] :: Arr v234 256 c235 :: Box b318 [v305, v307, v309] :: Box b247 [v234, v236, v238] :: Box b229 [v223, v4, v7] :: Box b215 [v1, v4, v7] :: hs) := H
              replace H := H.drop 0 rfl
              replace H : Hp C wd397 ρ (Box b329 [v323, v236, v238] :: Arr v234 256 c235 :: Box b318 [v305, v307, v309] :: Box b247 [v234, v236, v238] :: Box b229 [v223, v4, v7] :: Box b215 [v1, v4, v7] :: hs) := H
              replace H := H.drop 0 rfl
              replace H : Hp C wd397 ρ (Arr v234 256 c235 :: Box b318 [v305, v307, v309] :: Box b247 [v234, v236, v238] :: Box b229 [v223, v4, v7] :: Box b215 [v1, v4, v7] :: hs) := H
              replace H := H.drop 0 rfl
              replace H : Hp C wd397 ρ (Box b318 [v305, v307, v309] :: Box b247 [v234, v236, v238] :: Box b229 [v223, v4, v7] :: Box b215 [v1, v4, v7] :: hs) := H
              replace H := H.drop 0 rfl
              replace H : Hp C wd397 ρ (Box b247 [v234, v236, v238] :: Box b229 [v223, v4, v7] :: Box b215 [v1, v4, v7] :: hs) := H
              replace H := H.drop 0 rfl
              replace H : Hp C wd397 ρ (Box b229 [v223, v4, v7] :: Box b215 [v1, v4, v7] :: hs) := H
              replace H := H.drop 0 rfl
              replace H : Hp C wd397 ρ (Box b215 [v1, v4, v7] :: hs) := H
              replace H := H.drop 0 rfl
              replace H : Hp C wd397 ρ (hs) := H
              obtain rfl := Option.some.inj ho375
              refine x_A fun a hf => ⟨false, rfl, hf.sub ⟨rfl, trivial⟩, H⟩
          · rw [hb]
            replace ho375 := itF hb ho375
            refine dgs rfl rfl rfl rfl rfl ?_
            refine dgs rfl rfl rfl rfl rfl ?_
            refine d1 (dges rfl rfl rfl rfl rfl ?_)
            refine dq (v := .bool false) rfl (fun w' hw => Q_pickF rfl rfl) rfl rfl ?_
            refine dq (v := .bool false) rfl (fun w' hw => Q_move rfl) rfl rfl ?_
            refine dgs rfl rfl rfl rfl rfl ?_
            refine dgs rfl rfl rfl rfl rfl ?_
            refine dgs rfl rfl rfl rfl rfl ?_
            refine d1 (dges rfl rfl rfl rfl rfl ?_)
            refine d1 (dges rfl rfl rfl rfl rfl ?_)
            refine dgs rfl rfl rfl rfl rfl ?_
            refine dq (v := .bool false) rfl (fun w' hw => Q_pickF rfl rfl) rfl rfl ?_
            refine dq (v := .bool false) rfl (fun w' hw => Q_move rfl) rfl rfl ?_
            refine dgs rfl rfl rfl rfl rfl ?_
            refine d1 (dges rfl rfl rfl rfl rfl ?_)
            refine dq (v := .bool false) rfl (fun w' hw => Q_pickF rfl rfl) rfl rfl ?_
            refine dq (v := .bool false) rfl (fun w' hw => Q_move rfl) rfl rfl ?_
            refine dgs rfl rfl rfl rfl rfl ?_
            refine dgs rfl rfl rfl rfl rfl ?_
            refine d1 (dges rfl rfl rfl rfl rfl ?_)
            refine d1 (dges rfl rfl rfl rfl rfl ?_)
            refine dgs rfl rfl rfl rfl rfl ?_
            refine dq (v := .bool false) rfl (fun w' hw => Q_pickF rfl rfl) rfl rfl ?_
            refine dq (v := .bool false) rfl (fun w' hw => Q_assign rfl) rfl rfl ?_
            refine DL_nil ?_
            replace H := H.drop 0 rfl
            replace H : Hp C wd393 ρ (Arr v385 1 c386 :: Arr v223 256 c224 :: Box b329 [v323, v236, v238] :: Arr v323 256 c324 :: Arr v234 256 c235 :: Arr v236 1 c237 :: Arr v238 1 c239 :: Box b318 [v305, v307, v309] :: Arr v305 256 c306 :: Arr v307 1 c308 :: Arr v309 1 c310 :: Box b247 [v234, v236, v238] :: Box b229 [v223, v4, v7] :: Box b215 [v1, v4, v7] :: hs) := H
            replace H := H.drop 0 rfl
            replace H : Hp C wd393 ρ (Arr v223 256 c224 :: Box b329 [v323, v236, v238] :: Arr v323 256 c324 :: Arr v234 256 c235 :: Arr v236 1 c237 :: Arr v238 1 c239 :: Box b318 [v305, v307, v309] :: Arr v305 256 c306 :: Arr v307 1 c308 :: Arr v309 1 c310 :: Box b247 [v234, v236, v238] :: Box b229 [v223, v4, v7] :: Box b215 [v1, v4, v7] :: hs) := H
            replace H := H.drop 0 rfl
            replace H : Hp C wd393 ρ (Box b329 [v323, v236, v238] :: Arr v323 256 c324 :: Arr v234 256 c235 :: Arr v236 1 c237 :: Arr v238 1 c239 :: Box b318 [v305, v307, v309] :: Arr v305 256 c306 :: Arr v307 1 c308 :: Arr v309 1 c310 :: Box b247 [v234, v236, v238] :: Box b229 [v223, v4, v7] :: Box b215 [v1, v4, v7] :: hs) := H
            replace H := H.drop 0 rfl
            replace H : Hp C wd393 ρ (Arr v323 256 c324 :: Arr v234 256 c235 :: Arr v236 1 c237 :: Arr v238 1 c239 :: Box b318 [v305, v307, v309] :: Arr v305 256 c306 :: Arr v307 1 c308 :: Arr v309 1 c310 :: Box b247 [v234, v236, v238] :: Box b229 [v223, v4, v7] :: Box b215 [v1, v4, v7] :: hs) := H
            replace H := H.drop 0 rfl
            replace H : Hp C wd393 ρ (Arr v234 256 c235 :: Arr v236 1 c237 :: Arr v238 1 c239 :: Box b318 [v305, v307, v309] :: Arr v305 256 c306 :: Arr v307 1 c308 :: Arr v309 1 c310 :: Box b247 [v234, v236, v238] :: Box b229 [v223, v4, v7] :: Box b215 [v1, v4, v7] :: hs) := H
            replace H := H.drop 0 rfl
            replace H : Hp C wd393 ρ (Arr v236 1 c237 :: Arr v238 1 c239 :: Box b318 [v305, v307, v309] :: Arr v305 256 c306 :: Arr v307 1 c308 :: Arr v309 1 c310 :: Box b247 [v234, v236, v238] :: Box b229 [v223, v4, v7] :: Box b215 [v1, v4, v7] :: hs) := H
            replace H := H.drop 0 rfl
            replace H : Hp C wd393 ρ (Arr v238 1 c239 :: Box b318 [v305, v307, v309] :: Arr v305 256 c306 :: Arr v307 1 c308 :: Arr v309 1 c310 :: Box b247 [v234, v236, v238] :: Box b229 [v223, v4, v7] :: Box b215 [v1, v4, v7] :: hs) := H
            replace H := H.drop 0 rfl
            replace H : Hp C wd393 ρ (Box b318 [v305, v307, v309] :: Arr v305 256 c306 :: Arr v307 1 c308 :: Arr v309 1 c310 :: Box b247 [v234, v236, v238] :: Box b229 [v223, v4, v7] :: Box b215 [v1, v4, v7] :: hs) := H
            replace H := H.drop 0 rfl
            replace H : Hp C wd393 ρ (Arr v305 256 c306 :: Arr v307 1 c308 :: Arr v309 1 c310 :: Box b247 [v234, v236, v238] :: Box b229 [v223, v4, v7] :: Box b215 [v1, v4, v7] :: hs) := H
            replace H := H.drop 0 rfl
            replace H : Hp C wd393 ρ (Arr v307 1 c308 :: Arr v309 1 c310 :: Box b247 [v234, v236, v238] :: Box b229 [v223, v4, v7] :: Box b215 [v1, v4, v7] :: hs) := H
            replace H := H.drop 0 rfl
            replace H : Hp C wd393 ρ (Arr v309 1 c310 :: Box b247 [v234, v236, v238] :: Box b229 [v223, v4, v7] :: Box b215 [v1, v4, v7] :: hs) := H
            replace H := H.drop 0 rfl
            replace H : Hp C wd393 ρ (Box b247 [v234, v236, v238] :: Box b229 [v223, v4, v7] :: Box b215 [v1, v4, v7] :: hs) := H
            replace H := H.drop 0 rfl
            replace H : Hp C wd393 ρ (Box b229 [v223, v4, v7] :: Box b215 [v1, v4, v7] :: hs) := H
            replace H := H.drop 0 rfl
            replace H : Hp C wd393 ρ (Box b215 [v1, v4, v7] :: hs) := H
            replace H := H.drop 0 rfl
            replace H : Hp C wd393 ρ (hs) := H
            obtain rfl := Option.some.inj ho375
            refine x_A fun a hf => ⟨false, rfl, hf.sub ⟨rfl, trivial⟩, H⟩
        · rintro a wd418 ⟨x374, rfl, hf, H⟩
          try dsimp only at hF
          refine CW.at hf ?_
          refine C_ret ?_
          obtain rfl := Option.some.inj hF
          exact fn_ret (l := [.tmp 2]) (vs := [.bool x374]) rfl rfl rfl ⟨x374, rfl, rfl, H⟩
end Go.Proofs.YteiaphkejkgfkaaDoor
