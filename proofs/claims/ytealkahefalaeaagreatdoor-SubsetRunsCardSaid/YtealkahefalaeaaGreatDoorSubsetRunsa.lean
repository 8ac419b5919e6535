/-
  The walks of the law SubsetRuns, printed by my program, part 1: each function of the code computes its pure function.
-/
import Derived.Test.YtealkahefalaeaaGreatDoorSubsetRunsD1
import Derived.Test.YtealkahefalaeaaGreatDoorProg
import Derived.Test.YtealkahefalaeaaGreatDoorSubsetRunsP1
namespace Go.Proofs.YtealkahefalaeaaGreatDoor
open Go Go.Eng
set_option maxRecDepth 100000
theorem ty3 : Ty Tryz.prog 3 1 8 (.int .i64 0) false := ⟨by kernel_rfl, by kernel_rfl⟩
theorem ty5 : Ty Tryz.prog 5 1 1 (.int .u8 0) false := ⟨by kernel_rfl, by kernel_rfl⟩
theorem ty23 : Ty Tryz.prog 23 1 24 (.slice none 0 0) false := ⟨by kernel_rfl, by kernel_rfl⟩
theorem ty76 : Ty Tryz.prog 76 1 24 (.slice none 0 0) false := ⟨by kernel_rfl, by kernel_rfl⟩
theorem ty78 : Ty Tryz.prog 78 3 72 (.agg ([.slice none 0 0, .slice none 0 0, .slice none 0 0]).toArray) true := ⟨by kernel_rfl, by kernel_rfl⟩
theorem ty79 : Ty Tryz.prog 79 1 24 (.slice none 0 0) false := ⟨by kernel_rfl, by kernel_rfl⟩
theorem ty81 : Ty Tryz.prog 81 3 72 (.agg ([.slice none 0 0, .slice none 0 0, .slice none 0 0]).toArray) true := ⟨by kernel_rfl, by kernel_rfl⟩
theorem ty87 : Ty Tryz.prog 87 256 2048 (.agg (repC 256 [.int .i64 0]).toArray) true := ⟨by kernel_rfl, by kernel_rfl⟩
theorem ty88 : Ty Tryz.prog 88 256 2048 (.agg (repC 256 [.int .i64 0]).toArray) true := ⟨by kernel_rfl, by kernel_rfl⟩
theorem st81 : ∃ fs, St Tryz.prog 81 fs [(0, 1), (1, 1), (2, 1)] [.slice none 0 0, .slice none 0 0, .slice none 0 0] := ⟨_, Tryz.underlying81, by kernel_rfl, _, _, _, _, ty81, rfl⟩
theorem fn45 : HasFn Tryz.prog 45 := ⟨_, _, Tryz.func45, by kernel_rfl, rfl⟩
theorem fn46 : HasFn Tryz.prog 46 := ⟨_, _, Tryz.func46, by kernel_rfl, rfl⟩
theorem fn52 : HasFn Tryz.prog 52 := ⟨_, _, Tryz.func52, by kernel_rfl, rfl⟩
theorem fn56 : HasFn Tryz.prog 56 := ⟨_, _, Tryz.func56, by kernel_rfl, rfl⟩
theorem fn57 : HasFn Tryz.prog 57 := ⟨_, _, Tryz.func57, by kernel_rfl, rfl⟩
theorem fn58 : HasFn Tryz.prog 58 := ⟨_, _, Tryz.func58, by kernel_rfl, rfl⟩
theorem fn59 : HasFn Tryz.prog 59 := ⟨_, _, Tryz.func59, by kernel_rfl, rfl⟩
theorem fn60 : HasFn Tryz.prog 60 := ⟨_, _, Tryz.func60, by kernel_rfl, rfl⟩
theorem fn61 : HasFn Tryz.prog 61 := ⟨_, _, Tryz.func61, by kernel_rfl, rfl⟩
theorem fn62 : HasFn Tryz.prog 62 := ⟨_, _, Tryz.func62, by kernel_rfl, rfl⟩
theorem fn76 : HasFn Tryz.prog 76 := ⟨_, _, Tryz.func76, by kernel_rfl, rfl⟩
theorem fn106 : HasFn Tryz.prog 106 := ⟨_, _, Tryz.func106, by kernel_rfl, rfl⟩
theorem fn107 : HasFn Tryz.prog 107 := ⟨_, _, Tryz.func107, by kernel_rfl, rfl⟩
theorem fn108 : HasFn Tryz.prog 108 := ⟨_, _, Tryz.func108, by kernel_rfl, rfl⟩
theorem fn109 : HasFn Tryz.prog 109 := ⟨_, _, Tryz.func109, by kernel_rfl, rfl⟩
theorem fn128 : HasFn Tryz.prog 128 := ⟨_, _, Tryz.func128, by kernel_rfl, rfl⟩
theorem c_46 {N : Nat} {C : Cx} {w : World} {ρ : View} {hs : List Hl} {gV : Nat → Value} {v1 : Value} {v4 : Value} {v7 : Value} {x2 : (List (List Int))} {x5 : (List Int)} {x8 : (List Int)} {x10 : Int} (H : Hp C w ρ (hs)) (_gle : GErrs ρ 394 errIds gV) (r3 : RdSl ρ (eA 256 (eI .i64)) v1 x2) (r6 : RdSl ρ (eI .i64) v4 x5) (r9 : RdSl ρ (eI .i64) v7 x8) {r : ((List (List Int)) × Bool)} (hF : F_dofferlaw17_Of N x2 x5 x8 x10 = some r) :
  Calls Tryz.prog 46 [.agg #[v1, v4, v7], .int .i64 x10].toArray w (Rets (fun v w' => (∃ (v181 : Value) (c182 : (List Value)) (x183 : (List (List Int))) (x185 : Bool), (x183, x185) = r ∧ .tuple [.agg #[v181, v4, v7], .bool x185].toArray = v ∧ rdL (eA 256 (eI .i64)) ρ x183 c182 ∧ Hp C w' ρ (Arr v181 256 c182 :: hs)))) := by
 unfold F_dofferlaw17_Of at hF
 have h0 : Tryz.f46.body = some _ := rfl
 refine fn_calls' Tryz.func46 h0 (n := 48) rfl (by simp) <| C_seq <| R_nd <| ne (E_box H (vs := [v1, v4, v7]) rfl rfl) rfl rfl ?_
 rintro _ wd187 ⟨b186, rfl, H⟩
 refine ne (E_alloc H ty81 (zs := [.slice none 0 0, .slice none 0 0, .slice none 0 0]) rfl) rfl rfl ?_
 rintro _ wd189 ⟨b188, rfl, H⟩
 refine nq (Q_assign rfl) rfl rfl <| WL_nil <| x_then <| C_seq <| R_nd <| nq (v := .pointer (some ⟨b186, 1, none⟩)) (Q_fld Tryz.underlying78 rfl ty23 (by decide) rfl rfl) rfl rfl <| nq (v := v4) (Q_ldB (k := 1) (cs := [v4]) H.ok rfl ty23 rfl rfl rfl (fun _ => rfl) rfl) rfl rfl <| nq (v := .pointer (some ⟨b186, 2, none⟩)) (Q_fld Tryz.underlying78 rfl ty23 (by decide) rfl rfl) rfl rfl <| nq (v := v7) (Q_ldB (k := 1) (cs := [v7]) H.ok rfl ty23 rfl rfl rfl (fun _ => rfl) rfl) rfl rfl <| nq (v := .agg #[.slice none 0 0, v4, v7]) (Q_buildS st81.choose_spec (ps := [(1, [v4]), (2, [v7])]) rfl ⟨rfl, (RdSl.cells r6), by simp, ⟨rfl, (RdSl.cells r9), by simp, trivial⟩⟩ rfl) rfl rfl <| ne (E_alloc H ty81 (zs := [.slice none 0 0, .slice none 0 0, .slice none 0 0]) rfl) rfl rfl ?_
 rintro _ wd191 ⟨b190, rfl, H⟩
 refine ne (E_stB (k := 0) (cs := [.slice none 0 0, v4, v7]) (vs' := [.slice none 0 0, v4, v7]) H rfl ty81 rfl rfl rfl rfl (one_cons rfl (one_cons (RdSl.one r6) (one_cons (RdSl.one r9) one_nil))) (by simp) rfl) rfl rfl ?_
 rintro _ wd192 H
 dsimp only [List.set] at H
 refine WL_nil <| x_then <| C_seq ?_
 obtain ⟨o194, ho194, hF⟩ := bnd hF
 refine C_cut (fun a w' => ∃ (x193 : Bool), x193 = o194 ∧ Fr 48 a [(2, .pointer (some ⟨b186, 0, none⟩)), (4, .pointer (some ⟨b188, 0, none⟩)), (6, .pointer (some ⟨b190, 0, none⟩)), (31, .bool x193)] ∧ Hp C w' ρ (Box b186 [v1, v4, v7] :: Box b188 [.slice none 0 0, .slice none 0 0, .slice none 0 0] :: Box b190 [.slice none 0 0, v4, v7] :: hs)) ?_ ?_
 ·refine R_nd <| nq (v := .pointer (some ⟨b186, 0, none⟩)) (Q_fld Tryz.underlying78 rfl ty76 (by decide) rfl rfl) rfl rfl <| nq (v := v1) (Q_ldB (k := 2) (cs := [v1]) H.ok rfl ty76 rfl rfl rfl (fun _ => rfl) rfl) rfl rfl <| nq (Q_len Tryz.underlying76 rfl r3) rfl rfl <| nq (Q_move rfl) rfl rfl <| nq (Q_gtr rfl rfl) rfl rfl <| nq (Q_move rfl) rfl rfl ?_
  rcases Bool.eq_false_or_eq_true (decide ((x2.length : Int) > x10)) with hb | hb
  ·rw [hb]
   replace ho194 := itT hb ho194
   refine gs rfl rfl rfl rfl <| gs rfl rfl rfl rfl <| gs rfl rfl rfl rfl <| gs rfl rfl rfl rfl <| gs rfl rfl rfl rfl <| nq (Q_pickT rfl rfl) rfl rfl <| nq (Q_move rfl) rfl rfl <| gs rfl rfl rfl rfl <| gs rfl rfl rfl rfl <| gs rfl rfl rfl rfl <| gs rfl rfl rfl rfl <| nq (Q_pickT rfl rfl) rfl rfl <| WL_nil ?_
   replace H := H.f1
   replace H := H.f2
   obtain rfl := Option.some.inj ho194
   refine x_A fun a hf => ⟨true, rfl, hf.sub ⟨rfl, rfl, rfl, rfl, trivial⟩, H⟩
  ·rw [hb]
   replace ho194 := itF hb ho194
   refine gq (v := .pointer (some ⟨b186, 1, none⟩)) (Q_fld Tryz.underlying78 rfl ty23 (by decide) rfl rfl) rfl rfl rfl <| gq (v := v4) (Q_ldB (k := 2) (cs := [v4]) H.ok rfl ty23 rfl rfl rfl (fun _ => rfl) rfl) rfl rfl rfl <| gq (Q_len Tryz.underlying23 rfl r6) rfl rfl rfl <| gq (Q_move rfl) rfl rfl rfl <| gq (Q_gtr rfl rfl) rfl rfl rfl <| nq (Q_pickF rfl rfl) rfl rfl <| nq (Q_move rfl) rfl rfl ?_
   rcases Bool.eq_false_or_eq_true (decide ((x5.length : Int) > x10)) with hb | hb
   ·rw [hb]
    replace ho194 := itT hb ho194
    refine gs rfl rfl rfl rfl <| gs rfl rfl rfl rfl <| gs rfl rfl rfl rfl <| gs rfl rfl rfl rfl <| nq (Q_pickT rfl rfl) rfl rfl <| WL_nil ?_
    replace H := H.f1
    replace H := H.f2
    obtain rfl := Option.some.inj ho194
    refine x_A fun a hf => ⟨true, rfl, hf.sub ⟨rfl, rfl, rfl, rfl, trivial⟩, H⟩
   ·rw [hb]
    replace ho194 := itF hb ho194
    refine gq (v := .pointer (some ⟨b186, 2, none⟩)) (Q_fld Tryz.underlying78 rfl ty23 (by decide) rfl rfl) rfl rfl rfl <| gq (v := v7) (Q_ldB (k := 2) (cs := [v7]) H.ok rfl ty23 rfl rfl rfl (fun _ => rfl) rfl) rfl rfl rfl <| gq (Q_len Tryz.underlying23 rfl r9) rfl rfl rfl <| gq (Q_gtr rfl rfl) rfl rfl rfl <| nq (Q_pickF rfl rfl) rfl rfl <| WL_nil ?_
    replace H := H.f1
    replace H := H.f2
    obtain rfl := Option.some.inj ho194
    refine x_A fun a hf => ⟨decide ((x8.length : Int) > 20), rfl, hf.sub ⟨rfl, rfl, rfl, rfl, trivial⟩, H⟩
 ·rintro a wd195 ⟨x193, rfl, hf, H⟩
  try dsimp only at hF
  refine CW.at hf ?_
  refine C_cond rfl (fun hb => ?_) (fun hb => ?_)
  ·replace hF := itT hb hF
   refine C_seq <| R_nd <| nq (v := .agg #[.slice none 0 0, v4, v7]) (Q_ldB (k := 2) (cs := [.slice none 0 0, v4, v7]) H.ok rfl ty81 rfl rfl rfl (fun h => nomatch h) rfl) rfl rfl <| ne (E_stB (k := 1) (cs := [.slice none 0 0, v4, v7]) (vs' := [.slice none 0 0, v4, v7]) H rfl ty81 rfl rfl rfl rfl (one_cons rfl (one_cons (RdSl.one r6) (one_cons (RdSl.one r9) one_nil))) (by simp) rfl) rfl rfl ?_
   rintro _ wd196 H
   dsimp only [List.set] at H
   refine nq (Q_assign rfl) rfl rfl <| WL_nil <| x_then <| C_ret <| x_then_ret ?_
   have H := H.nilArr 256
   have hRV : RV Tryz.prog wd196 [(4, .pointer (some ⟨b188, 0, none⟩)), (5, .bool false)] [.cell 4 81, .tmp 5] [.agg #[(.slice none 0 0), v4, v7], .bool false] := ⟨⟨_, rfl, run_ldv ty81 rfl (fun h => nomatch h) (box_at (H.ok.get (k := 2) rfl) 0 3)⟩, rfl, trivial⟩
   replace H := H.drop 1 rfl
   dsimp only [List.eraseIdx] at H
   replace H := H.drop 1 rfl
   dsimp only [List.eraseIdx] at H
   replace H := H.drop 1 rfl
   dsimp only [List.eraseIdx] at H
   obtain rfl := Option.some.inj hF
   exact fn_retV (rs := [.cell 4 81, .tmp 5]) (vs := [.agg #[(.slice none 0 0), v4, v7], .bool false]) rfl hRV ⟨(.slice none 0 0), [], [], false, rfl, rfl, rdL.nil, H⟩
  ·replace hF := itF hb hF
   refine C_skip <| x_then <| C_seq <| C_seq <| R_nd <| nq (v := .pointer (some ⟨b186, 0, none⟩)) (Q_fld Tryz.underlying78 rfl ty76 (by decide) rfl rfl) rfl rfl <| nq (v := v1) (Q_ldB (k := 0) (cs := [v1]) H.ok rfl ty76 rfl rfl rfl (fun _ => rfl) rfl) rfl rfl <| nq (Q_len Tryz.underlying76 rfl r3) rfl rfl <| nq (Q_move rfl) rfl rfl <| WL_nil <| x_then ?_
   obtain ⟨o277, ho277, hF⟩ := bnd hF
   refine C_cutQ (fun a w' => ∃ (v273 : Value) (c274 : (List Value)) (x275 : (List (List Int))), x275 = o277 ∧ rdL (eA 256 (eI .i64)) ρ x275 c274 ∧ Fr 48 a [(4, .pointer (some ⟨b188, 0, none⟩)), (6, .pointer (some ⟨b190, 0, none⟩))] ∧ Hp C w' ρ (Box b188 [.slice none 0 0, .slice none 0 0, .slice none 0 0] :: Box b190 [v273, v4, v7] :: Arr v273 256 c274 :: hs)) ?_ ?_
   ·refine C_block ?_
    have H := H.nilArr 256
    replace H := H.f3
    replace H := H.f3
    replace H := H.drop 3 rfl
    dsimp only [List.eraseIdx] at H
    refine C_iter (f := fun s => F_dofferlaw17_Of_l0 N x2 s.1 s.2) ho277 (fun s a w' => ∃ (v303 : Value) (c304 : (List Value)) (x302 : Int) (x305 : (List (List Int))), (x302, x305) = s ∧ rdL (eA 256 (eI .i64)) ρ x305 c304 ∧ Fr 48 a [(4, .pointer (some ⟨b188, 0, none⟩)), (6, .pointer (some ⟨b190, 0, none⟩)), (34, v1), (35, .int .i64 (x2.length : Int)), (36, .int .i64 x302)] ∧ Hp C w' ρ (Box b188 [.slice none 0 0, .slice none 0 0, .slice none 0 0] :: Box b190 [v303, v4, v7] :: Arr v303 256 c304 :: hs)) ?_ ?_
    ·exact fun a hf => ⟨(.slice none 0 0), [], 0, [], rfl, rdL.nil, hf.sub ⟨rfl, rfl, rfl, rfl, rfl, trivial⟩, H⟩
    ·rintro s o331 a wd334 ⟨v303, c304, x302, x305, rfl, r306, hf, H⟩ hB332 hO333
     replace hB332 : F_dofferlaw17_Of_l0 N x2 x302 x305 = some o331 := hB332
     unfold F_dofferlaw17_Of_l0 at hB332
     refine CW.at hf <| C_seq <| R_nd <| nq (Q_lss rfl rfl) rfl rfl <| WL_nil <| x_then <| C_seq ?_
     refine C_cond rfl (fun hb => ?_) (fun hb => ?_)
     ·replace hB332 := itT hb hB332
      refine C_skip <| x_then <| C_seq <| C_block <| C_seq <| R_nd ?_
      obtain ⟨x335, hx335, hB332⟩ := bnd hB332
      obtain ⟨b336, o337, c338, hc339, ha340, hi341⟩ := idxR r3 hx335
      refine nq (Q_idx hi341 Tryz.underlying76 ty88 rfl rfl) rfl rfl <| nq (v := .agg c338.toArray) (Q_ld (ha340.up H.ok.view) ty88 ((eA 256 (eI .i64)).len hc339) (fun h => nomatch h) rfl rfl) rfl rfl <| ne (E_allocA (N := 256) (n := 1) (zs := (repC 256 [.int .i64 0])) H ty88 rfl (by simp [repC_length])) rfl rfl ?_
      rintro _ wd343 ⟨b342, rfl, H⟩
      refine ne (E_stW (k := 0) H rfl ty88 rfl rfl (rdL.one hc339.2) (arr_clen (rdL_rep (e:=(eI .i64)) (ρ:=ρ) (rfl) 256) List.length_replicate) (arr_clen hc339.2 hc339.1)) rfl rfl ?_
      rintro _ wd344 H
      dsimp only [List.set] at H
      refine WL_nil <| x_then <| R_nd <| nq (v := .pointer (some ⟨b190, 0, none⟩)) (Q_fld Tryz.underlying81 rfl ty79 (by decide) rfl rfl) rfl rfl <| nq (v := v303) (Q_ldB (k := 2) (cs := [v303]) H.ok rfl ty79 rfl rfl rfl (fun _ => rfl) rfl) rfl rfl <| nq (Q_ldW (k := 0) H.ok rfl ty88 rfl (arr_clen hc339.2 hc339.1)) rfl rfl <| ne (E_bslice (xs := [.tmp 42]) (vs := [.agg c338.toArray]) H Tryz.underlying79 ty87 (by decide) (cs := c338) rfl (sz_cons (arr_clen hc339.2 hc339.1) sz_nil) (by simp [Value.cells]) (by simp) (by simp) rfl rfl) rfl rfl ?_
      rintro _ wd346 ⟨b345, rfl, H⟩
      obtain ⟨x347, hx347, hB332⟩ := bnd hB332
      obtain ⟨ha348a, ha348b⟩ := app_some hx347
      have r350 : rdL (eA 256 (eI .i64)) ρ x347 (c304 ++ c338) := ha348b ▸ rdL.app r306 (show rdL (eA 256 (eI .i64)) ρ ([x335]) c338 from rdL.single ⟨hc339.1, hc339.2⟩)
      refine ne (E_append (k := 4) H rfl Tryz.underlying79 ty87 rfl (by decide) (by decide) rfl rfl (Src.ofArr (k := 0) H.ok rfl) (rdL.one (show rdL (eA 256 (eI .i64)) ρ ([x335]) c338 from rdL.single ⟨hc339.1, hc339.2⟩)) (app_fit r306 (show rdL (eA 256 (eI .i64)) ρ ([x335]) c338 from rdL.single ⟨hc339.1, hc339.2⟩) ha348a)) rfl rfl ?_
      rintro v349 wd352 ⟨H, hc351⟩
      dsimp only [List.set] at H
      refine nq (v := .pointer (some ⟨b190, 0, none⟩)) (Q_fld Tryz.underlying81 rfl ty79 (by decide) rfl rfl) rfl rfl <| ne (E_stB (k := 3) (cs := [v349]) (vs' := [v349, v4, v7]) H rfl ty79 rfl rfl (arr_cells (H.ok.get (k := 4) rfl)).1 rfl (one_cons (arr_cells (H.ok.get (k := 4) rfl)).2 one_nil) (by simp) rfl) rfl rfl ?_
      rintro _ wd353 H
      dsimp only [List.set] at H
      refine WL_nil <| x_block <| x_then <| R_nd <| nq (Q_add rfl rfl) rfl rfl <| nq (Q_move rfl) rfl rfl <| WL_nil ?_
      replace H := H.f4
      replace H := H.f4
      replace H := H.f4
      replace H := H.drop 3 rfl
      dsimp only [List.eraseIdx] at H
      replace H := H.drop 3 rfl
      dsimp only [List.eraseIdx] at H
      obtain rfl := Option.some.inj hB332
      refine x_A fun a hf => ⟨_, rfl, v349, (c304 ++ c338), w64 (x302 + 1), x347, rfl, r350, hf.sub ⟨rfl, rfl, rfl, rfl, rfl, trivial⟩, H⟩
     ·replace hB332 := itF hb hB332
      refine C_exit <| x_then_exit <| x_then_exit <| x_block_exit ?_
      replace H := H.f2
      replace H := H.f2
      replace H := H.f2
      obtain rfl := Option.some.inj hB332
      obtain rfl := hO333 _ rfl
      refine x_A fun a hf => ⟨v303, c304, x305, rfl, r306, hf.sub ⟨rfl, rfl, trivial⟩, H⟩
   ·rintro a wd354 ⟨v273, c274, x275, rfl, r276, hf, H⟩
    try dsimp only at hF
    refine XX.at hf <| x_then <| C_seq <| R_nd <| nq (v := .agg #[v273, v4, v7]) (Q_ldB (k := 1) (cs := [v273, v4, v7]) H.ok rfl ty81 rfl rfl rfl (fun h => nomatch h) rfl) rfl rfl <| ne (E_stB (k := 0) (cs := [v273, v4, v7]) (vs' := [v273, v4, v7]) H rfl ty81 rfl rfl rfl rfl (one_cons (arr_cells (H.ok.get (k := 2) rfl)).2 (one_cons (RdSl.one r6) (one_cons (RdSl.one r9) one_nil))) (by simp) rfl) rfl rfl ?_
    rintro _ wd355 H
    dsimp only [List.set] at H
    refine nq (Q_assign rfl) rfl rfl <| WL_nil <| x_then <| C_ret ?_
    have hRV : RV Tryz.prog wd355 [(4, .pointer (some ⟨b188, 0, none⟩)), (5, .bool true)] [.cell 4 81, .tmp 5] [.agg #[v273, v4, v7], .bool true] := ⟨⟨_, rfl, run_ldv ty81 rfl (fun h => nomatch h) (box_at (H.ok.get (k := 0) rfl) 0 3)⟩, rfl, trivial⟩
    replace H := H.f2
    replace H := H.drop 1 rfl
    dsimp only [List.eraseIdx] at H
    replace H := H.drop 1 rfl
    dsimp only [List.eraseIdx] at H
    obtain rfl := Option.some.inj hF
    exact fn_retV (rs := [.cell 4 81, .tmp 5]) (vs := [.agg #[v273, v4, v7], .bool true]) rfl hRV ⟨v273, c274, x275, true, rfl, rfl, r276, H⟩
theorem c_108 {N : Nat} {C : Cx} {w : World} {ρ : View} {hs : List Hl} {gV : Nat → Value} {b2 : Nat} {x1 : Int} {x3 : Int} (H : Hp C w ρ (Box b2 [.int .i64 x3] :: hs)) (_gle : GErrs ρ 394 errIds gV) {r : Bool} (hF : F_subset_Right_1 N x1 x3 = some r) :
  Calls Tryz.prog 108 [.int .i64 x1, .pointer (some ⟨b2, 0, none⟩)].toArray w (Rets (fun v w' => (∃ (x7 : Bool), x7 = r ∧ .bool x7 = v ∧ Hp C w' ρ (Box b2 [.int .i64 x3] :: hs)))) := by
 unfold F_subset_Right_1 at hF
 have h0 : Tryz.f108.body = some _ := rfl
 refine fn_calls' Tryz.func108 h0 (n := 11) rfl (by simp) <| C_seq <| R_nd <| nq (Q_assign rfl) rfl rfl <| WL_nil <| x_then ?_
 obtain ⟨o9, ho9, hF⟩ := bnd hF
 refine C_cut (fun a w' => ∃ (x8 : Bool), x8 = o9 ∧ Fr 11 a [(3, .bool x8)] ∧ Hp C w' ρ (Box b2 [.int .i64 x3] :: hs)) ?_ ?_
 ·refine R_nd <| nq (Q_move rfl) rfl rfl <| nq (Q_lss rfl rfl) rfl rfl <| nq (Q_move rfl) rfl rfl ?_
  rcases Bool.eq_false_or_eq_true (decide (x1 < 0)) with hb | hb
  ·rw [hb]
   replace ho9 := itT hb ho9
   refine gs rfl rfl rfl rfl <| gs rfl rfl rfl rfl <| gs rfl rfl rfl rfl <| nq (Q_pickT rfl rfl) rfl rfl <| nq (Q_assign rfl) rfl rfl <| WL_nil ?_
   obtain rfl := Option.some.inj ho9
   refine x_A fun a hf => ⟨true, rfl, hf.sub ⟨rfl, trivial⟩, H⟩
  ·rw [hb]
   replace ho9 := itF hb ho9
   refine gq (Q_move rfl) rfl rfl rfl <| gq (v := .int .i64 x3) (Q_ldB (k := 0) (cs := [.int .i64 x3]) H.ok rfl ty3 rfl rfl rfl (fun _ => rfl) rfl) rfl rfl rfl <| gq (Q_geq rfl rfl) rfl rfl rfl <| nq (Q_pickF rfl rfl) rfl rfl <| nq (Q_assign rfl) rfl rfl <| WL_nil ?_
   obtain rfl := Option.some.inj ho9
   refine x_A fun a hf => ⟨decide (x1 ≥ x3), rfl, hf.sub ⟨rfl, trivial⟩, H⟩
 ·rintro a wd10 ⟨x8, rfl, hf, H⟩
  try dsimp only at hF
  refine CW.at hf <| C_ret ?_
  obtain rfl := Option.some.inj hF
  exact fn_ret (l := [.tmp 3]) (vs := [.bool x8]) rfl rfl rfl ⟨x8, rfl, rfl, H⟩
theorem c_128 {N : Nat} {C : Cx} {w : World} {ρ : View} {hs : List Hl} {gV : Nat → Value} {v1 : Value} {b4 : Nat} {x2 : (List Int)} {x5 : Int} (H : Hp C w ρ (Box b4 [.int .i64 x5] :: hs)) (gle : GErrs ρ 394 errIds gV) (r3 : RdSl ρ (eI .i64) v1 x2) {r : Int} (hF : F_slices_IndexFunc_int_int N x2 x5 = some r) :
  Calls Tryz.prog 128 [v1, .func (.func 108) #[] [.pointer (some ⟨b4, 0, none⟩)].toArray].toArray w (Rets (fun v w' => (∃ (x88 : Int), x88 = r ∧ .int .i64 x88 = v ∧ Hp C w' ρ (Box b4 [.int .i64 x5] :: hs)))) := by
 unfold F_slices_IndexFunc_int_int at hF
 have h0 : Tryz.f128.body = some _ := rfl
 refine fn_calls' Tryz.func128 h0 (n := 19) rfl (by simp) <| C_seq <| R_nd <| nq (Q_assign rfl) rfl rfl <| WL_nil <| x_then <| C_seq <| C_seq <| R_nd <| nq (Q_move rfl) rfl rfl <| nq (Q_len Tryz.underlying23 rfl r3) rfl rfl <| nq (Q_move rfl) rfl rfl <| WL_nil <| x_then ?_
 obtain ⟨o129, ho129, hF⟩ := bnd hF
 refine C_cutQ (fun a w' => .inl () = o129 ∧ Fr 19 a [] ∧ Hp C w' ρ (Box b4 [.int .i64 x5] :: hs)) ?_ ?_
 ·refine C_block ?_
  refine C_iter (f := fun s => F_slices_IndexFunc_int_int_l0 N x2 x5 s) ho129 (fun s a w' => ∃ (x142 : Int), x142 = s ∧ Fr 19 a [(0, v1), (1, .func (.func 108) #[] [.pointer (some ⟨b4, 0, none⟩)].toArray), (7, .int .i64 (x2.length : Int)), (8, .int .i64 x142)] ∧ Hp C w' ρ (Box b4 [.int .i64 x5] :: hs)) ?_ ?_
  ·exact fun a hf => ⟨0, rfl, hf.sub ⟨rfl, rfl, rfl, rfl, trivial⟩, H⟩
  ·rintro s o155 a wd158 ⟨x142, rfl, hf, H⟩ hB156 hO157
   replace hB156 : F_slices_IndexFunc_int_int_l0 N x2 x5 x142 = some o155 := hB156
   unfold F_slices_IndexFunc_int_int_l0 at hB156
   refine CW.at hf <| C_seq <| R_nd <| nq (Q_lss rfl rfl) rfl rfl <| WL_nil <| x_then <| C_seq ?_
   refine C_cond rfl (fun hb => ?_) (fun hb => ?_)
   ·replace hB156 := itT hb hB156
    refine C_skip <| x_then <| C_seq <| C_block <| C_seq <| R_nd <| nq (Q_move rfl) rfl rfl <| nq (Q_assign rfl) rfl rfl <| WL_nil <| x_then <| C_seq <| R_nd <| nq (Q_move rfl) rfl rfl <| nq (Q_move rfl) rfl rfl ?_
    refine nq (Q_move rfl) rfl rfl ?_
    obtain ⟨x159, hx159, hB156⟩ := bnd hB156
    obtain ⟨b160, o161, c162, hc163, ha164, hi165⟩ := idxR r3 hx159
    refine nq (Q_idx hi165 Tryz.underlying23 ty3 rfl rfl) rfl rfl <| nq (v := .int .i64 x159) (Q_ld (show cellsAt _ _ _ [.int .i64 x159] from (show _ = [_] from hc163) ▸ (ha164.up H.ok.view)) ty3 rfl (fun _ => rfl) rfl rfl) rfl rfl ?_
    obtain ⟨q166, hq166, hB156⟩ := bnd hB156
    refine ne (E_callV fn108 rfl rfl (c_108 H gle   hq166)) rfl rfl ?_
    rintro _ wd169 ⟨x168, rfl, rfl, H⟩
    try dsimp only at hB156
    refine WL_nil <| x_then ?_
    refine C_cond rfl (fun hb => ?_) (fun hb => ?_)
    ·replace hB156 := itT hb hB156
     refine C_seq <| R_nd <| nq (Q_move rfl) rfl rfl <| nq (Q_assign rfl) rfl rfl <| WL_nil <| x_then <| C_ret <| x_block_ret <| x_then_ret <| x_then_ret <| x_block_ret <| x_then_ret <| x_then_ret ?_
     obtain rfl := Option.some.inj hB156
     obtain rfl := hO157 _ rfl
     obtain rfl := Option.some.inj (show some _ = some _ from hF)
     exact fn_ret (l := [.tmp 4]) (vs := [.int .i64 x142]) rfl rfl rfl ⟨x142, rfl, rfl, H⟩
    ·replace hB156 := itF hb hB156
     refine C_skip <| x_block <| x_then <| R_nd <| nq (Q_add rfl rfl) rfl rfl <| nq (Q_move rfl) rfl rfl <| WL_nil ?_
     obtain rfl := Option.some.inj hB156
     refine x_A fun a hf => ⟨_, rfl, w64 (x142 + 1), rfl, hf.sub ⟨rfl, rfl, rfl, rfl, trivial⟩, H⟩
   ·replace hB156 := itF hb hB156
    refine C_exit <| x_then_exit <| x_then_exit <| x_block_exit ?_
    obtain rfl := Option.some.inj hB156
    obtain rfl := hO157 _ rfl
    refine x_A fun a hf => ⟨rfl, hf.sub trivial, H⟩
 ·rintro a wd170 ⟨rfl, hf, H⟩
  try dsimp only at hF
  refine XX.at hf <| x_then <| C_seq <| R_nd <| nq (Q_assign rfl) rfl rfl <| WL_nil <| x_then <| C_ret ?_
  obtain rfl := Option.some.inj hF
  exact fn_ret (l := [.tmp 4]) (vs := [.int .i64 (-1)]) rfl rfl rfl ⟨(-1), rfl, rfl, H⟩
theorem c_76 {N : Nat} {C : Cx} {w : World} {ρ : View} {hs : List Hl} {gV : Nat → Value} {v1 : Value} {b4 : Nat} {x2 : (List Int)} {x5 : Int} (H : Hp C w ρ (Box b4 [.int .i64 x5] :: hs)) (gle : GErrs ρ 394 errIds gV) (r3 : RdSl ρ (eI .i64) v1 x2) {r : Bool} (hF : F_slices_ContainsFunc_int_int N x2 x5 = some r) :
  Calls Tryz.prog 76 [v1, .func (.func 108) #[] [.pointer (some ⟨b4, 0, none⟩)].toArray].toArray w (Rets (fun v w' => (∃ (x10 : Bool), x10 = r ∧ .bool x10 = v ∧ Hp C w' ρ (Box b4 [.int .i64 x5] :: hs)))) := by
 unfold F_slices_ContainsFunc_int_int at hF
 have h0 : Tryz.f76.body = some _ := rfl
 refine fn_calls' Tryz.func76 h0 (n := 9) rfl (by simp) <| C_seq <| R_nd <| nq (Q_assign rfl) rfl rfl <| WL_nil <| x_then <| C_seq <| R_nd <| nq (Q_move rfl) rfl rfl <| nq (Q_move rfl) rfl rfl ?_
 obtain ⟨q11, hq11, hF⟩ := bnd hF
 refine ne (E_call fn128 rfl (c_128 H gle  r3 hq11)) rfl rfl ?_
 rintro _ wd14 ⟨x13, rfl, rfl, H⟩
 try dsimp only at hF
 refine nq (Q_geq rfl rfl) rfl rfl <| nq (Q_assign rfl) rfl rfl <| WL_nil <| x_then <| C_ret ?_
 obtain rfl := Option.some.inj hF
 exact fn_ret (l := [.tmp 4]) (vs := [.bool (decide (x13 ≥ 0))]) rfl rfl rfl ⟨decide (x13 ≥ 0), rfl, rfl, H⟩
theorem c_109 {N : Nat} {C : Cx} {w : World} {ρ : View} {hs : List Hl} {gV : Nat → Value} {x1 : Int} (H : Hp C w ρ (hs)) (_gle : GErrs ρ 394 errIds gV) {r : Bool} (hF : F_subset_Right_2 N x1 = some r) :
  Calls Tryz.prog 109 [.int .i64 x1].toArray w (Rets (fun v w' => (∃ (x5 : Bool), x5 = r ∧ .bool x5 = v ∧ Hp C w' ρ (hs)))) := by
 unfold F_subset_Right_2 at hF
 have h0 : Tryz.f109.body = some _ := rfl
 refine fn_calls' Tryz.func109 h0 (n := 9) rfl (by simp) <| C_seq <| R_nd <| nq (Q_assign rfl) rfl rfl <| WL_nil <| x_then ?_
 obtain ⟨o7, ho7, hF⟩ := bnd hF
 refine C_cut (fun a w' => ∃ (x6 : Bool), x6 = o7 ∧ Fr 9 a [(2, .bool x6)] ∧ Hp C w' ρ (hs)) ?_ ?_
 ·refine R_nd <| nq (Q_move rfl) rfl rfl <| nq (Q_lss rfl rfl) rfl rfl <| nq (Q_move rfl) rfl rfl ?_
  rcases Bool.eq_false_or_eq_true (decide (x1 < (-1))) with hb | hb
  ·rw [hb]
   replace ho7 := itT hb ho7
   refine gs rfl rfl rfl rfl <| gs rfl rfl rfl rfl <| nq (Q_pickT rfl rfl) rfl rfl <| nq (Q_assign rfl) rfl rfl <| WL_nil ?_
   obtain rfl := Option.some.inj ho7
   refine x_A fun a hf => ⟨true, rfl, hf.sub ⟨rfl, trivial⟩, H⟩
  ·rw [hb]
   replace ho7 := itF hb ho7
   refine gq (Q_move rfl) rfl rfl rfl <| gq (Q_geq rfl rfl) rfl rfl rfl <| nq (Q_pickF rfl rfl) rfl rfl <| nq (Q_assign rfl) rfl rfl <| WL_nil ?_
   obtain rfl := Option.some.inj ho7
   refine x_A fun a hf => ⟨decide (x1 ≥ 48), rfl, hf.sub ⟨rfl, trivial⟩, H⟩
 ·rintro a wd8 ⟨x6, rfl, hf, H⟩
  try dsimp only at hF
  refine CW.at hf <| C_ret ?_
  obtain rfl := Option.some.inj hF
  exact fn_ret (l := [.tmp 2]) (vs := [.bool x6]) rfl rfl rfl ⟨x6, rfl, rfl, H⟩
theorem c_128_1 {N : Nat} {C : Cx} {w : World} {ρ : View} {hs : List Hl} {gV : Nat → Value} {v1 : Value} {x2 : (List Int)} (H : Hp C w ρ (hs)) (gle : GErrs ρ 394 errIds gV) (r3 : RdSl ρ (eI .i64) v1 x2) {r : Int} (hF : F_slices_IndexFunc_int_int_1 N x2 = some r) :
  Calls Tryz.prog 128 [v1, .func (.func 109) #[] [].toArray].toArray w (Rets (fun v w' => (∃ (x86 : Int), x86 = r ∧ .int .i64 x86 = v ∧ Hp C w' ρ (hs)))) := by
 unfold F_slices_IndexFunc_int_int_1 at hF
 have h0 : Tryz.f128.body = some _ := rfl
 refine fn_calls' Tryz.func128 h0 (n := 19) rfl (by simp) <| C_seq <| R_nd <| nq (Q_assign rfl) rfl rfl <| WL_nil <| x_then <| C_seq <| C_seq <| R_nd <| nq (Q_move rfl) rfl rfl <| nq (Q_len Tryz.underlying23 rfl r3) rfl rfl <| nq (Q_move rfl) rfl rfl <| WL_nil <| x_then ?_
 obtain ⟨o127, ho127, hF⟩ := bnd hF
 refine C_cutQ (fun a w' => .inl () = o127 ∧ Fr 19 a [] ∧ Hp C w' ρ (hs)) ?_ ?_
 ·refine C_block ?_
  refine C_iter (f := fun s => F_slices_IndexFunc_int_int_1_l0 N x2 s) ho127 (fun s a w' => ∃ (x140 : Int), x140 = s ∧ Fr 19 a [(0, v1), (1, .func (.func 109) #[] [].toArray), (7, .int .i64 (x2.length : Int)), (8, .int .i64 x140)] ∧ Hp C w' ρ (hs)) ?_ ?_
  ·exact fun a hf => ⟨0, rfl, hf.sub ⟨rfl, rfl, rfl, rfl, trivial⟩, H⟩
  ·rintro s o153 a wd156 ⟨x140, rfl, hf, H⟩ hB154 hO155
   replace hB154 : F_slices_IndexFunc_int_int_1_l0 N x2 x140 = some o153 := hB154
   unfold F_slices_IndexFunc_int_int_1_l0 at hB154
   refine CW.at hf <| C_seq <| R_nd <| nq (Q_lss rfl rfl) rfl rfl <| WL_nil <| x_then <| C_seq ?_
   refine C_cond rfl (fun hb => ?_) (fun hb => ?_)
   ·replace hB154 := itT hb hB154
    refine C_skip <| x_then <| C_seq <| C_block <| C_seq <| R_nd <| nq (Q_move rfl) rfl rfl <| nq (Q_assign rfl) rfl rfl <| WL_nil <| x_then <| C_seq <| R_nd <| nq (Q_move rfl) rfl rfl <| nq (Q_move rfl) rfl rfl ?_
    refine nq (Q_move rfl) rfl rfl ?_
    obtain ⟨x157, hx157, hB154⟩ := bnd hB154
    obtain ⟨b158, o159, c160, hc161, ha162, hi163⟩ := idxR r3 hx157
    refine nq (Q_idx hi163 Tryz.underlying23 ty3 rfl rfl) rfl rfl <| nq (v := .int .i64 x157) (Q_ld (show cellsAt _ _ _ [.int .i64 x157] from (show _ = [_] from hc161) ▸ (ha162.up H.ok.view)) ty3 rfl (fun _ => rfl) rfl rfl) rfl rfl ?_
    obtain ⟨q164, hq164, hB154⟩ := bnd hB154
    refine ne (E_callV fn109 rfl rfl (c_109 H gle   hq164)) rfl rfl ?_
    rintro _ wd167 ⟨x166, rfl, rfl, H⟩
    try dsimp only at hB154
    refine WL_nil <| x_then ?_
    refine C_cond rfl (fun hb => ?_) (fun hb => ?_)
    ·replace hB154 := itT hb hB154
     refine C_seq <| R_nd <| nq (Q_move rfl) rfl rfl <| nq (Q_assign rfl) rfl rfl <| WL_nil <| x_then <| C_ret <| x_block_ret <| x_then_ret <| x_then_ret <| x_block_ret <| x_then_ret <| x_then_ret ?_
     obtain rfl := Option.some.inj hB154
     obtain rfl := hO155 _ rfl
     obtain rfl := Option.some.inj (show some _ = some _ from hF)
     exact fn_ret (l := [.tmp 4]) (vs := [.int .i64 x140]) rfl rfl rfl ⟨x140, rfl, rfl, H⟩
    ·replace hB154 := itF hb hB154
     refine C_skip <| x_block <| x_then <| R_nd <| nq (Q_add rfl rfl) rfl rfl <| nq (Q_move rfl) rfl rfl <| WL_nil ?_
     obtain rfl := Option.some.inj hB154
     refine x_A fun a hf => ⟨_, rfl, w64 (x140 + 1), rfl, hf.sub ⟨rfl, rfl, rfl, rfl, trivial⟩, H⟩
   ·replace hB154 := itF hb hB154
    refine C_exit <| x_then_exit <| x_then_exit <| x_block_exit ?_
    obtain rfl := Option.some.inj hB154
    obtain rfl := hO155 _ rfl
    refine x_A fun a hf => ⟨rfl, hf.sub trivial, H⟩
 ·rintro a wd168 ⟨rfl, hf, H⟩
  try dsimp only at hF
  refine XX.at hf <| x_then <| C_seq <| R_nd <| nq (Q_assign rfl) rfl rfl <| WL_nil <| x_then <| C_ret ?_
  obtain rfl := Option.some.inj hF
  exact fn_ret (l := [.tmp 4]) (vs := [.int .i64 (-1)]) rfl rfl rfl ⟨(-1), rfl, rfl, H⟩
theorem c_76_1 {N : Nat} {C : Cx} {w : World} {ρ : View} {hs : List Hl} {gV : Nat → Value} {v1 : Value} {x2 : (List Int)} (H : Hp C w ρ (hs)) (gle : GErrs ρ 394 errIds gV) (r3 : RdSl ρ (eI .i64) v1 x2) {r : Bool} (hF : F_slices_ContainsFunc_int_int_1 N x2 = some r) :
  Calls Tryz.prog 76 [v1, .func (.func 109) #[] [].toArray].toArray w (Rets (fun v w' => (∃ (x8 : Bool), x8 = r ∧ .bool x8 = v ∧ Hp C w' ρ (hs)))) := by
 unfold F_slices_ContainsFunc_int_int_1 at hF
 have h0 : Tryz.f76.body = some _ := rfl
 refine fn_calls' Tryz.func76 h0 (n := 9) rfl (by simp) <| C_seq <| R_nd <| nq (Q_assign rfl) rfl rfl <| WL_nil <| x_then <| C_seq <| R_nd <| nq (Q_move rfl) rfl rfl <| nq (Q_move rfl) rfl rfl ?_
 obtain ⟨q9, hq9, hF⟩ := bnd hF
 refine ne (E_call fn128 rfl (c_128_1 H gle  r3 hq9)) rfl rfl ?_
 rintro _ wd12 ⟨x11, rfl, rfl, H⟩
 try dsimp only at hF
 refine nq (Q_geq rfl rfl) rfl rfl <| nq (Q_assign rfl) rfl rfl <| WL_nil <| x_then <| C_ret ?_
 obtain rfl := Option.some.inj hF
 exact fn_ret (l := [.tmp 4]) (vs := [.bool (decide (x11 ≥ 0))]) rfl rfl rfl ⟨decide (x11 ≥ 0), rfl, rfl, H⟩
theorem c_57 {N : Nat} {C : Cx} {w : World} {ρ : View} {hs : List Hl} {gV : Nat → Value} {v1 : Value} {v4 : Value} {v7 : Value} {x2 : (List (List Int))} {x5 : (List Int)} {x8 : (List Int)} (H : Hp C w ρ (hs)) (gle : GErrs ρ 394 errIds gV) (r3 : RdSl ρ (eA 256 (eI .i64)) v1 x2) (r6 : RdSl ρ (eI .i64) v4 x5) (r9 : RdSl ρ (eI .i64) v7 x8) {r : Bool} (hF : F_subset_Right N x2 x5 x8 = some r) :
  Calls Tryz.prog 57 [.agg #[v1, v4, v7]].toArray w (Rets (fun v w' => (∃ (x168 : Bool), x168 = r ∧ .bool x168 = v ∧ Hp C w' ρ (hs)))) := by
 unfold F_subset_Right at hF
 have h0 : Tryz.f57.body = some _ := rfl
 refine fn_calls' Tryz.func57 h0 (n := 71) rfl (by simp) <| C_seq <| R_nd <| ne (E_box H (vs := [v1, v4, v7]) rfl rfl) rfl rfl ?_
 rintro _ wd170 ⟨b169, rfl, H⟩
 refine nq (Q_assign rfl) rfl rfl <| WL_nil <| x_then <| C_seq <| R_nd <| nq (v := .pointer (some ⟨b169, 0, none⟩)) (Q_fld Tryz.underlying78 rfl ty76 (by decide) rfl rfl) rfl rfl <| nq (v := v1) (Q_ldB (k := 0) (cs := [v1]) H.ok rfl ty76 rfl rfl rfl (fun _ => rfl) rfl) rfl rfl <| nq (Q_len Tryz.underlying76 rfl r3) rfl rfl <| ne (E_alloc H ty3 (zs := [.int .i64 0]) rfl) rfl rfl ?_
 rintro _ wd172 ⟨b171, rfl, H⟩
 refine ne (E_stB (k := 0) (cs := [.int .i64 (x2.length : Int)]) (vs' := [.int .i64 (x2.length : Int)]) H rfl ty3 rfl rfl rfl rfl (one_cons rfl one_nil) (by simp) rfl) rfl rfl ?_
 rintro _ wd173 H
 dsimp only [List.set] at H
 refine WL_nil <| x_then <| C_seq ?_
 obtain ⟨o175, ho175, hF⟩ := bnd hF
 refine C_cut (fun a w' => ∃ (x174 : Bool), x174 = o175 ∧ Fr 71 a [(1, .pointer (some ⟨b169, 0, none⟩)), (3, .pointer (some ⟨b171, 0, none⟩)), (35, .bool x174)] ∧ Hp C w' ρ (Box b169 [v1, v4, v7] :: Box b171 [.int .i64 (x2.length : Int)] :: hs)) ?_ ?_
 ·refine R_nd <| nq (v := .int .i64 (x2.length : Int)) (Q_ldB (k := 0) (cs := [.int .i64 (x2.length : Int)]) H.ok rfl ty3 rfl rfl rfl (fun _ => rfl) rfl) rfl rfl <| nq (Q_lss rfl rfl) rfl rfl <| nq (Q_move rfl) rfl rfl ?_
  rcases Bool.eq_false_or_eq_true (decide ((x2.length : Int) < 1)) with hb | hb
  ·rw [hb]
   replace ho175 := itT hb ho175
   refine gs rfl rfl rfl rfl <| gs rfl rfl rfl rfl <| nq (Q_pickT rfl rfl) rfl rfl <| nq (Q_move rfl) rfl rfl <| gs rfl rfl rfl rfl <| gs rfl rfl rfl rfl <| gs rfl rfl rfl rfl <| gs rfl rfl rfl rfl <| gs rfl rfl rfl rfl <| nq (Q_pickT rfl rfl) rfl rfl <| nq (Q_move rfl) rfl rfl <| gs rfl rfl rfl rfl <| gs rfl rfl rfl rfl <| gs rfl rfl rfl rfl ?_
   refine gs rfl rfl rfl rfl <| nq (Q_pickT rfl rfl) rfl rfl <| nq (Q_move rfl) rfl rfl <| gs rfl rfl rfl rfl <| gs rfl rfl rfl rfl <| gs rfl rfl rfl rfl <| gs rfl rfl rfl rfl <| nq (Q_pickT rfl rfl) rfl rfl <| WL_nil ?_
   replace H := H.f1
   obtain rfl := Option.some.inj ho175
   refine x_A fun a hf => ⟨true, rfl, hf.sub ⟨rfl, rfl, rfl, trivial⟩, H⟩
  ·rw [hb]
   replace ho175 := itF hb ho175
   refine gq (v := .int .i64 (x2.length : Int)) (Q_ldB (k := 0) (cs := [.int .i64 (x2.length : Int)]) H.ok rfl ty3 rfl rfl rfl (fun _ => rfl) rfl) rfl rfl rfl <| gq (Q_gtr rfl rfl) rfl rfl rfl <| nq (Q_pickF rfl rfl) rfl rfl <| nq (Q_move rfl) rfl rfl ?_
   rcases Bool.eq_false_or_eq_true (decide ((x2.length : Int) > 200)) with hb | hb
   ·rw [hb]
    replace ho175 := itT hb ho175
    refine gs rfl rfl rfl rfl <| gs rfl rfl rfl rfl <| gs rfl rfl rfl rfl <| gs rfl rfl rfl rfl <| gs rfl rfl rfl rfl <| nq (Q_pickT rfl rfl) rfl rfl <| nq (Q_move rfl) rfl rfl <| gs rfl rfl rfl rfl <| gs rfl rfl rfl rfl <| gs rfl rfl rfl rfl <| gs rfl rfl rfl rfl <| nq (Q_pickT rfl rfl) rfl rfl <| nq (Q_move rfl) rfl rfl <| gs rfl rfl rfl rfl ?_
    refine gs rfl rfl rfl rfl <| gs rfl rfl rfl rfl <| gs rfl rfl rfl rfl <| nq (Q_pickT rfl rfl) rfl rfl <| WL_nil ?_
    replace H := H.f1
    obtain rfl := Option.some.inj ho175
    refine x_A fun a hf => ⟨true, rfl, hf.sub ⟨rfl, rfl, rfl, trivial⟩, H⟩
   ·rw [hb]
    replace ho175 := itF hb ho175
    refine gq (v := .pointer (some ⟨b169, 1, none⟩)) (Q_fld Tryz.underlying78 rfl ty23 (by decide) rfl rfl) rfl rfl rfl <| gq (v := v4) (Q_ldB (k := 1) (cs := [v4]) H.ok rfl ty23 rfl rfl rfl (fun _ => rfl) rfl) rfl rfl rfl <| gq (Q_len Tryz.underlying23 rfl r6) rfl rfl rfl <| gq (v := .int .i64 (x2.length : Int)) (Q_ldB (k := 0) (cs := [.int .i64 (x2.length : Int)]) H.ok rfl ty3 rfl rfl rfl (fun _ => rfl) rfl) rfl rfl rfl <| gq (Q_neq rfl rfl) rfl rfl rfl <| nq (Q_pickF rfl rfl) rfl rfl <| nq (Q_move rfl) rfl rfl ?_
    rcases Bool.eq_false_or_eq_true ((x5.length : Int) != (x2.length : Int)) with hb | hb
    ·rw [hb]
     replace ho175 := itT hb ho175
     refine gs rfl rfl rfl rfl <| gs rfl rfl rfl rfl <| gs rfl rfl rfl rfl <| gs rfl rfl rfl rfl <| nq (Q_pickT rfl rfl) rfl rfl <| nq (Q_move rfl) rfl rfl <| gs rfl rfl rfl rfl <| gs rfl rfl rfl rfl <| gs rfl rfl rfl rfl <| gs rfl rfl rfl rfl <| nq (Q_pickT rfl rfl) rfl rfl <| WL_nil ?_
     replace H := H.f1
     obtain rfl := Option.some.inj ho175
     refine x_A fun a hf => ⟨true, rfl, hf.sub ⟨rfl, rfl, rfl, trivial⟩, H⟩
    ·rw [hb]
     replace ho175 := itF hb ho175
     refine gq (v := .pointer (some ⟨b169, 2, none⟩)) (Q_fld Tryz.underlying78 rfl ty23 (by decide) rfl rfl) rfl rfl rfl <| gq (v := v7) (Q_ldB (k := 1) (cs := [v7]) H.ok rfl ty23 rfl rfl rfl (fun _ => rfl) rfl) rfl rfl rfl <| gq (Q_len Tryz.underlying23 rfl r9) rfl rfl rfl <| gq (Q_lss rfl rfl) rfl rfl rfl <| nq (Q_pickF rfl rfl) rfl rfl <| nq (Q_move rfl) rfl rfl ?_
     rcases Bool.eq_false_or_eq_true (decide ((x8.length : Int) < 1)) with hb | hb
     ·rw [hb]
      replace ho175 := itT hb ho175
      refine gs rfl rfl rfl rfl <| gs rfl rfl rfl rfl <| gs rfl rfl rfl rfl <| gs rfl rfl rfl rfl <| nq (Q_pickT rfl rfl) rfl rfl <| WL_nil ?_
      replace H := H.f1
      obtain rfl := Option.some.inj ho175
      refine x_A fun a hf => ⟨true, rfl, hf.sub ⟨rfl, rfl, rfl, trivial⟩, H⟩
     ·rw [hb]
      replace ho175 := itF hb ho175
      refine gq (v := .pointer (some ⟨b169, 2, none⟩)) (Q_fld Tryz.underlying78 rfl ty23 (by decide) rfl rfl) rfl rfl rfl <| gq (v := v7) (Q_ldB (k := 1) (cs := [v7]) H.ok rfl ty23 rfl rfl rfl (fun _ => rfl) rfl) rfl rfl rfl <| gq (Q_len Tryz.underlying23 rfl r9) rfl rfl rfl <| gq (Q_gtr rfl rfl) rfl rfl rfl <| nq (Q_pickF rfl rfl) rfl rfl <| WL_nil ?_
      replace H := H.f1
      obtain rfl := Option.some.inj ho175
      refine x_A fun a hf => ⟨decide ((x8.length : Int) > 8), rfl, hf.sub ⟨rfl, rfl, rfl, trivial⟩, H⟩
 ·rintro a wd176 ⟨x174, rfl, hf, H⟩
  try dsimp only at hF
  refine CW.at hf ?_
  refine C_cond rfl (fun hb => ?_) (fun hb => ?_)
  ·replace hF := itT hb hF
   refine C_seq <| R_nd <| nq (Q_assign rfl) rfl rfl <| WL_nil <| x_then <| C_ret <| x_then_ret ?_
   replace H := H.drop 0 rfl
   dsimp only [List.eraseIdx] at H
   replace H := H.drop 0 rfl
   dsimp only [List.eraseIdx] at H
   obtain rfl := Option.some.inj hF
   exact fn_ret (l := [.tmp 2]) (vs := [.bool false]) rfl rfl rfl ⟨false, rfl, rfl, H⟩
  ·replace hF := itF hb hF
   refine C_skip <| x_then <| C_seq <| R_nd <| nq (v := .func (.func 108) #[] [.pointer (some ⟨b171, 0, none⟩)].toArray) (Q_func rfl) rfl rfl <| nq (Q_assign rfl) rfl rfl <| WL_nil <| x_then <| C_seq <| C_seq <| R_nd <| nq (v := .pointer (some ⟨b169, 0, none⟩)) (Q_fld Tryz.underlying78 rfl ty76 (by decide) rfl rfl) rfl rfl <| nq (v := v1) (Q_ldB (k := 0) (cs := [v1]) H.ok rfl ty76 rfl rfl rfl (fun _ => rfl) rfl) rfl rfl <| nq (Q_len Tryz.underlying76 rfl r3) rfl rfl ?_
   refine nq (Q_move rfl) rfl rfl <| WL_nil <| x_then ?_
   obtain ⟨o226, ho226, hF⟩ := bnd hF
   refine C_cutQ (fun a w' => .inl () = o226 ∧ Fr 71 a [(1, .pointer (some ⟨b169, 0, none⟩)), (4, .func (.func 108) #[] [.pointer (some ⟨b171, 0, none⟩)].toArray)] ∧ Hp C w' ρ (Box b169 [v1, v4, v7] :: Box b171 [.int .i64 (x2.length : Int)] :: hs)) ?_ ?_
   ·refine C_block ?_
    replace H := H.f1
    replace H := H.f1
    refine C_iter (f := fun s => F_subset_Right_l0 N x2 s) ho226 (fun s a w' => ∃ (x242 : Int), x242 = s ∧ Fr 71 a [(1, .pointer (some ⟨b169, 0, none⟩)), (4, .func (.func 108) #[] [.pointer (some ⟨b171, 0, none⟩)].toArray), (38, v1), (39, .int .i64 (x2.length : Int)), (40, .int .i64 x242)] ∧ Hp C w' ρ (Box b169 [v1, v4, v7] :: Box b171 [.int .i64 (x2.length : Int)] :: hs)) ?_ ?_
    ·exact fun a hf => ⟨0, rfl, hf.sub ⟨rfl, rfl, rfl, rfl, rfl, trivial⟩, H⟩
    ·rintro s o258 a wd261 ⟨x242, rfl, hf, H⟩ hB259 hO260
     replace hB259 : F_subset_Right_l0 N x2 x242 = some o258 := hB259
     unfold F_subset_Right_l0 at hB259
     refine CW.at hf <| C_seq <| R_nd <| nq (Q_lss rfl rfl) rfl rfl <| WL_nil <| x_then <| C_seq ?_
     refine C_cond rfl (fun hb => ?_) (fun hb => ?_)
     ·replace hB259 := itT hb hB259
      refine C_skip <| x_then <| C_seq <| C_block <| C_seq <| R_nd ?_
      obtain ⟨x262, hx262, hB259⟩ := bnd hB259
      obtain ⟨b263, o264, c265, hc266, ha267, hi268⟩ := idxR r3 hx262
      refine nq (Q_idx hi268 Tryz.underlying76 ty88 rfl rfl) rfl rfl <| nq (v := .agg c265.toArray) (Q_ld (ha267.up H.ok.view) ty88 ((eA 256 (eI .i64)).len hc266) (fun h => nomatch h) rfl rfl) rfl rfl <| ne (E_allocA (N := 256) (n := 1) (zs := (repC 256 [.int .i64 0])) H ty88 rfl (by simp [repC_length])) rfl rfl ?_
      rintro _ wd270 ⟨b269, rfl, H⟩
      refine ne (E_stW (k := 0) H rfl ty88 rfl rfl (rdL.one hc266.2) (arr_clen (rdL_rep (e:=(eI .i64)) (ρ:=ρ) (rfl) 256) List.length_replicate) (arr_clen hc266.2 hc266.1)) rfl rfl ?_
      rintro _ wd271 H
      dsimp only [List.set] at H
      refine WL_nil <| x_then <| C_seq <| R_nd <| nq (v := (.slice (some ⟨b269, 0, none⟩) 256 256)) (Q_slA Tryz.underlying88 ty3 rfl) rfl rfl <| nq (Q_move rfl) rfl rfl ?_
      replace H := H.f2
      obtain ⟨q272, hq272, hB259⟩ := bnd hB259
      obtain ⟨C', ρ', hl273, HA, hL, hback⟩ := Hp.lend (A := [Box b171 [.int .i64 (x2.length : Int)]]) (L := [Arr (.slice (some ⟨b269, 0, none⟩) 256 256) 1 c265]) (F := Box b169 [v1, v4, v7] :: hs) H
      refine ne (E_call fn76 rfl (c_76 HA (gle.up hl273)  (arr_rd (by decide) hl273 (hL (Arr (.slice (some ⟨b269, 0, none⟩) 256 256) 1 c265) (by simp)) hc266.2) hq272)) rfl rfl ?_
      rintro _ wd275 ⟨x274, rfl, rfl, H⟩
      try dsimp only at hB259
      replace H := hback H
      dsimp only [List.cons_append, List.nil_append] at H
      refine WL_nil <| x_then ?_
      refine C_cond rfl (fun hb => ?_) (fun hb => ?_)
      ·replace hB259 := itT hb hB259
       refine C_seq <| R_nd <| nq (Q_assign rfl) rfl rfl <| WL_nil <| x_then <| C_ret <| x_block_ret <| x_then_ret <| x_then_ret <| x_block_ret <| x_then_ret <| x_then_ret ?_
       replace H := H.drop 0 rfl
       dsimp only [List.eraseIdx] at H
       replace H := H.drop 0 rfl
       dsimp only [List.eraseIdx] at H
       replace H := H.drop 0 rfl
       dsimp only [List.eraseIdx] at H
       obtain rfl := Option.some.inj hB259
       obtain rfl := hO260 _ rfl
       obtain rfl := Option.some.inj (show some _ = some _ from hF)
       exact fn_ret (l := [.tmp 2]) (vs := [.bool false]) rfl rfl rfl ⟨false, rfl, rfl, H⟩
      ·replace hB259 := itF hb hB259
       refine C_skip <| x_block <| x_then <| R_nd <| nq (Q_add rfl rfl) rfl rfl <| nq (Q_move rfl) rfl rfl <| WL_nil ?_
       replace H := H.f2
       replace H := H.drop 2 rfl
       dsimp only [List.eraseIdx] at H
       obtain rfl := Option.some.inj hB259
       refine x_A fun a hf => ⟨_, rfl, w64 (x242 + 1), rfl, hf.sub ⟨rfl, rfl, rfl, rfl, rfl, trivial⟩, H⟩
     ·replace hB259 := itF hb hB259
      refine C_exit <| x_then_exit <| x_then_exit <| x_block_exit ?_
      replace H := H.f1
      replace H := H.f1
      obtain rfl := Option.some.inj hB259
      obtain rfl := hO260 _ rfl
      refine x_A fun a hf => ⟨rfl, hf.sub ⟨rfl, rfl, trivial⟩, H⟩
   ·rintro a wd276 ⟨rfl, hf, H⟩
    try dsimp only at hF
    refine XX.at hf <| x_then <| C_seq <| R_nd <| nq (Q_assign rfl) rfl rfl <| WL_nil <| x_then <| C_seq ?_
    obtain ⟨o286, ho286, hF⟩ := bnd hF
    refine C_cut (fun a w' => ∃ (x285 : Bool), x285 = o286 ∧ Fr 71 a [(1, .pointer (some ⟨b169, 0, none⟩)), (57, .bool x285)] ∧ Hp C w' ρ (Box b169 [v1, v4, v7] :: hs)) ?_ ?_
    ·refine R_nd <| nq (v := .pointer (some ⟨b169, 1, none⟩)) (Q_fld Tryz.underlying78 rfl ty23 (by decide) rfl rfl) rfl rfl <| nq (v := v4) (Q_ldB (k := 0) (cs := [v4]) H.ok rfl ty23 rfl rfl rfl (fun _ => rfl) rfl) rfl rfl <| nq (Q_move rfl) rfl rfl ?_
     obtain ⟨q287, hq287, ho286⟩ := bnd ho286
     refine ne (E_call fn76 rfl (c_76_1 H gle  r6 hq287)) rfl rfl ?_
     rintro _ wd290 ⟨x289, rfl, rfl, H⟩
     try dsimp only at ho286
     refine nq (Q_move rfl) rfl rfl ?_
     rcases Bool.eq_false_or_eq_true x289 with hb | hb
     ·rw [hb]
      replace ho286 := itT hb ho286
      refine gs rfl rfl rfl rfl <| gs rfl rfl rfl rfl <| gs rfl rfl rfl rfl <| gs rfl rfl rfl rfl <| nq (Q_pickT rfl rfl) rfl rfl <| WL_nil ?_
      replace H := H.drop 1 rfl
      dsimp only [List.eraseIdx] at H
      obtain rfl := Option.some.inj ho286
      refine x_A fun a hf => ⟨true, rfl, hf.sub ⟨rfl, rfl, trivial⟩, H⟩
     ·rw [hb]
      replace ho286 := itF hb ho286
      refine gq (v := .pointer (some ⟨b169, 2, none⟩)) (Q_fld Tryz.underlying78 rfl ty23 (by decide) rfl rfl) rfl rfl rfl <| gq (v := v7) (Q_ldB (k := 0) (cs := [v7]) H.ok rfl ty23 rfl rfl rfl (fun _ => rfl) rfl) rfl rfl rfl <| gq (Q_move rfl) rfl rfl rfl ?_
      replace H := H.f1
      obtain ⟨q291, hq291, ho286⟩ := bnd ho286
      refine ge (E_call fn76 rfl (c_76 H gle  r9 hq291)) rfl rfl rfl ?_
      rintro _ wd294 ⟨x293, rfl, rfl, H⟩
      try dsimp only at ho286
      refine nq (Q_pickF rfl rfl) rfl rfl <| WL_nil ?_
      replace H := H.f1
      replace H := H.drop 1 rfl
      dsimp only [List.eraseIdx] at H
      obtain rfl := Option.some.inj ho286
      refine x_A fun a hf => ⟨x293, rfl, hf.sub ⟨rfl, rfl, trivial⟩, H⟩
    ·rintro a wd295 ⟨x285, rfl, hf, H⟩
     try dsimp only at hF
     refine CW.at hf ?_
     refine C_cond rfl (fun hb => ?_) (fun hb => ?_)
     ·replace hF := itT hb hF
      refine C_seq <| R_nd <| nq (Q_assign rfl) rfl rfl <| WL_nil <| x_then <| C_ret <| x_then_ret ?_
      replace H := H.drop 0 rfl
      dsimp only [List.eraseIdx] at H
      obtain rfl := Option.some.inj hF
      exact fn_ret (l := [.tmp 2]) (vs := [.bool false]) rfl rfl rfl ⟨false, rfl, rfl, H⟩
     ·replace hF := itF hb hF
      refine C_skip <| x_then ?_
      obtain ⟨o311, ho311, hF⟩ := bnd hF
      refine C_cut (fun a w' => ∃ (x310 : Bool), x310 = o311 ∧ Fr 71 a [(2, .bool x310)] ∧ Hp C w' ρ (hs)) ?_ ?_
      ·refine R_nd <| nq (v := .pointer (some ⟨b169, 0, none⟩)) (Q_fld Tryz.underlying78 rfl ty76 (by decide) rfl rfl) rfl rfl <| nq (v := v1) (Q_ldB (k := 0) (cs := [v1]) H.ok rfl ty76 rfl rfl rfl (fun _ => rfl) rfl) rfl rfl ?_
       obtain ⟨x312, hx312, ho311⟩ := bnd ho311
       obtain ⟨b313, o314, c315, hc316, ha317, hi318⟩ := idxR r3 hx312
       refine nq (Q_idx hi318 Tryz.underlying76 ty88 rfl rfl) rfl rfl <| nq (v := .agg c315.toArray) (Q_ld (ha317.up H.ok.view) ty88 ((eA 256 (eI .i64)).len hc316) (fun h => nomatch h) rfl rfl) rfl rfl <| nq (v := .agg (repC 256 [.int .i64 0]).toArray) (Q_build0 (zs := (repC 256 [.int .i64 0])) ty88 Tryz.underlying88 ty3 rfl) rfl rfl <| nq (v := .bool (x312 == (List.replicate 256 0))) (Q_eqlA Tryz.underlying88 ty3 (by kernel_rfl) Tryz.underlying3 hc316.2 hc316.1 (rdL_rep (e:=(eI .i64)) (ρ:=ρ) (rfl) 256) List.length_replicate rfl rfl) rfl rfl <| nq (Q_move rfl) rfl rfl ?_
       rcases Bool.eq_false_or_eq_true (x312 == (List.replicate 256 0)) with hb | hb
       ·rw [hb]
        replace ho311 := itT hb ho311
        refine gq (v := .pointer (some ⟨b169, 1, none⟩)) (Q_fld Tryz.underlying78 rfl ty23 (by decide) rfl rfl) rfl rfl rfl <| gq (v := v4) (Q_ldB (k := 0) (cs := [v4]) H.ok rfl ty23 rfl rfl rfl (fun _ => rfl) rfl) rfl rfl rfl ?_
        obtain ⟨x319, hx319, ho311⟩ := bnd ho311
        obtain ⟨b320, o321, c322, hc323, ha324, hi325⟩ := idxR r6 hx319
        refine gq (Q_idx hi325 Tryz.underlying23 ty3 rfl rfl) rfl rfl rfl <| gq (v := .int .i64 x319) (Q_ld (show cellsAt _ _ _ [.int .i64 x319] from (show _ = [_] from hc323) ▸ (ha324.up H.ok.view)) ty3 rfl (fun _ => rfl) rfl rfl) rfl rfl rfl <| gq (Q_eql rfl rfl) rfl rfl rfl <| nq (Q_pickT rfl rfl) rfl rfl <| nq (Q_assign rfl) rfl rfl <| WL_nil ?_
        replace H := H.drop 0 rfl
        dsimp only [List.eraseIdx] at H
        obtain rfl := Option.some.inj ho311
        refine x_A fun a hf => ⟨x319 == (-1), rfl, hf.sub ⟨rfl, trivial⟩, H⟩
       ·rw [hb]
        replace ho311 := itF hb ho311
        refine gs rfl rfl rfl rfl <| gs rfl rfl rfl rfl <| gs rfl rfl rfl rfl <| gs rfl rfl rfl rfl <| gs rfl rfl rfl rfl <| nq (Q_pickF rfl rfl) rfl rfl <| nq (Q_assign rfl) rfl rfl <| WL_nil ?_
        replace H := H.drop 0 rfl
        dsimp only [List.eraseIdx] at H
        obtain rfl := Option.some.inj ho311
        refine x_A fun a hf => ⟨false, rfl, hf.sub ⟨rfl, trivial⟩, H⟩
      ·rintro a wd326 ⟨x310, rfl, hf, H⟩
       try dsimp only at hF
       refine CW.at hf <| C_ret ?_
       obtain rfl := Option.some.inj hF
       exact fn_ret (l := [.tmp 2]) (vs := [.bool x310]) rfl rfl rfl ⟨x310, rfl, rfl, H⟩
theorem c_106 {N : Nat} {C : Cx} {w : World} {ρ : View} {hs : List Hl} {gV : Nat → Value} {v1 : Value} {v4 : Value} {v7 : Value} {x2 : (List (List Int))} {x5 : (List Int)} {x8 : (List Int)} {x10 : Int} (H : Hp C w ρ (hs)) (_gle : GErrs ρ 394 errIds gV) (_r3 : RdSl ρ (eA 256 (eI .i64)) v1 x2) (_r6 : RdSl ρ (eI .i64) v4 x5) (r9 : RdSl ρ (eI .i64) v7 x8) {r : Int} (hF : F_subset_DFA_begin N x2 x5 x8 x10 = some r) :
  Calls Tryz.prog 106 [.agg #[v1, v4, v7], .int .i64 x10].toArray w (Rets (fun v w' => (∃ (x23 : Int), x23 = r ∧ .int .i64 x23 = v ∧ Hp C w' ρ (hs)))) := by
 unfold F_subset_DFA_begin at hF
 have h0 : Tryz.f106.body = some _ := rfl
 refine fn_calls' Tryz.func106 h0 (n := 19) rfl (by simp) <| C_seq <| R_nd <| ne (E_box H (vs := [v1, v4, v7]) rfl rfl) rfl rfl ?_
 rintro _ wd25 ⟨b24, rfl, H⟩
 refine nq (Q_assign rfl) rfl rfl <| WL_nil <| x_then <| C_seq ?_
 obtain ⟨o27, ho27, hF⟩ := bnd hF
 refine C_cut (fun a w' => ∃ (x26 : Bool), x26 = o27 ∧ Fr 19 a [(1, .int .i64 x10), (2, .pointer (some ⟨b24, 0, none⟩)), (13, .bool x26)] ∧ Hp C w' ρ (Box b24 [v1, v4, v7] :: hs)) ?_ ?_
 ·refine R_nd <| nq (Q_move rfl) rfl rfl <| nq (Q_lss rfl rfl) rfl rfl <| nq (Q_move rfl) rfl rfl ?_
  rcases Bool.eq_false_or_eq_true (decide (x10 < 0)) with hb | hb
  ·rw [hb]
   replace ho27 := itT hb ho27
   refine gs rfl rfl rfl rfl <| gs rfl rfl rfl rfl <| gs rfl rfl rfl rfl <| gs rfl rfl rfl rfl <| gs rfl rfl rfl rfl <| nq (Q_pickT rfl rfl) rfl rfl <| WL_nil ?_
   obtain rfl := Option.some.inj ho27
   refine x_A fun a hf => ⟨true, rfl, hf.sub ⟨rfl, rfl, rfl, trivial⟩, H⟩
  ·rw [hb]
   replace ho27 := itF hb ho27
   refine gq (Q_move rfl) rfl rfl rfl <| gq (v := .pointer (some ⟨b24, 2, none⟩)) (Q_fld Tryz.underlying78 rfl ty23 (by decide) rfl rfl) rfl rfl rfl <| gq (v := v7) (Q_ldB (k := 0) (cs := [v7]) H.ok rfl ty23 rfl rfl rfl (fun _ => rfl) rfl) rfl rfl rfl <| gq (Q_len Tryz.underlying23 rfl r9) rfl rfl rfl <| gq (Q_geq rfl rfl) rfl rfl rfl <| nq (Q_pickF rfl rfl) rfl rfl <| WL_nil ?_
   obtain rfl := Option.some.inj ho27
   refine x_A fun a hf => ⟨decide (x10 ≥ (x8.length : Int)), rfl, hf.sub ⟨rfl, rfl, rfl, trivial⟩, H⟩
 ·rintro a wd28 ⟨x26, rfl, hf, H⟩
  try dsimp only at hF
  refine CW.at hf ?_
  refine C_cond rfl (fun hb => ?_) (fun hb => ?_)
  ·replace hF := itT hb hF
   refine C_seq <| R_nd <| nq (Q_assign rfl) rfl rfl <| WL_nil <| x_then <| C_ret <| x_then_ret ?_
   replace H := H.drop 0 rfl
   dsimp only [List.eraseIdx] at H
   obtain rfl := Option.some.inj hF
   exact fn_ret (l := [.tmp 4]) (vs := [.int .i64 0]) rfl rfl rfl ⟨0, rfl, rfl, H⟩
  ·replace hF := itF hb hF
   refine C_skip <| x_then <| C_seq <| R_nd <| nq (v := .pointer (some ⟨b24, 2, none⟩)) (Q_fld Tryz.underlying78 rfl ty23 (by decide) rfl rfl) rfl rfl <| nq (v := v7) (Q_ldB (k := 0) (cs := [v7]) H.ok rfl ty23 rfl rfl rfl (fun _ => rfl) rfl) rfl rfl <| nq (Q_move rfl) rfl rfl ?_
   obtain ⟨x29, hx29, hF⟩ := bnd hF
   obtain ⟨b30, o31, c32, hc33, ha34, hi35⟩ := idxR r9 hx29
   refine nq (Q_idx hi35 Tryz.underlying23 ty3 rfl rfl) rfl rfl <| nq (v := .int .i64 x29) (Q_ld (show cellsAt _ _ _ [.int .i64 x29] from (show _ = [_] from hc33) ▸ (ha34.up H.ok.view)) ty3 rfl (fun _ => rfl) rfl rfl) rfl rfl <| nq (Q_assign rfl) rfl rfl <| WL_nil <| x_then <| C_ret ?_
   replace H := H.drop 0 rfl
   dsimp only [List.eraseIdx] at H
   obtain rfl := Option.some.inj hF
   exact fn_ret (l := [.tmp 4]) (vs := [.int .i64 x29]) rfl rfl rfl ⟨x29, rfl, rfl, H⟩
theorem c_107 {N : Nat} {C : Cx} {w : World} {ρ : View} {hs : List Hl} {gV : Nat → Value} {v1 : Value} {v4 : Value} {v7 : Value} {x2 : (List (List Int))} {x5 : (List Int)} {x8 : (List Int)} {x10 : Int} {x11 : Int} (H : Hp C w ρ (hs)) (_gle : GErrs ρ 394 errIds gV) (r3 : RdSl ρ (eA 256 (eI .i64)) v1 x2) (_r6 : RdSl ρ (eI .i64) v4 x5) (_r9 : RdSl ρ (eI .i64) v7 x8) {r : Int} (hF : F_subset_DFA_next N x2 x5 x8 x10 x11 = some r) :
  Calls Tryz.prog 107 [.agg #[v1, v4, v7], .int .i64 x10, .int .u8 x11].toArray w (Rets (fun v w' => (∃ (x29 : Int), x29 = r ∧ .int .i64 x29 = v ∧ Hp C w' ρ (hs)))) := by
 unfold F_subset_DFA_next at hF
 have h0 : Tryz.f107.body = some _ := rfl
 refine fn_calls' Tryz.func107 h0 (n := 23) rfl (by simp) <| C_seq <| R_nd <| ne (E_box H (vs := [v1, v4, v7]) rfl rfl) rfl rfl ?_
 rintro _ wd31 ⟨b30, rfl, H⟩
 refine nq (Q_assign rfl) rfl rfl <| WL_nil <| x_then <| C_seq ?_
 obtain ⟨o33, ho33, hF⟩ := bnd hF
 refine C_cut (fun a w' => ∃ (x32 : Bool), x32 = o33 ∧ Fr 23 a [(1, .int .i64 x10), (2, .int .u8 x11), (3, .pointer (some ⟨b30, 0, none⟩)), (15, .bool x32)] ∧ Hp C w' ρ (Box b30 [v1, v4, v7] :: hs)) ?_ ?_
 ·refine R_nd <| nq (Q_move rfl) rfl rfl <| nq (Q_lss rfl rfl) rfl rfl <| nq (Q_move rfl) rfl rfl ?_
  rcases Bool.eq_false_or_eq_true (decide (x10 < 0)) with hb | hb
  ·rw [hb]
   replace ho33 := itT hb ho33
   refine gs rfl rfl rfl rfl <| gs rfl rfl rfl rfl <| gs rfl rfl rfl rfl <| gs rfl rfl rfl rfl <| gs rfl rfl rfl rfl <| nq (Q_pickT rfl rfl) rfl rfl <| WL_nil ?_
   obtain rfl := Option.some.inj ho33
   refine x_A fun a hf => ⟨true, rfl, hf.sub ⟨rfl, rfl, rfl, rfl, trivial⟩, H⟩
  ·rw [hb]
   replace ho33 := itF hb ho33
   refine gq (Q_move rfl) rfl rfl rfl <| gq (v := .pointer (some ⟨b30, 0, none⟩)) (Q_fld Tryz.underlying78 rfl ty76 (by decide) rfl rfl) rfl rfl rfl <| gq (v := v1) (Q_ldB (k := 0) (cs := [v1]) H.ok rfl ty76 rfl rfl rfl (fun _ => rfl) rfl) rfl rfl rfl <| gq (Q_len Tryz.underlying76 rfl r3) rfl rfl rfl <| gq (Q_geq rfl rfl) rfl rfl rfl <| nq (Q_pickF rfl rfl) rfl rfl <| WL_nil ?_
   obtain rfl := Option.some.inj ho33
   refine x_A fun a hf => ⟨decide (x10 ≥ (x2.length : Int)), rfl, hf.sub ⟨rfl, rfl, rfl, rfl, trivial⟩, H⟩
 ·rintro a wd34 ⟨x32, rfl, hf, H⟩
  try dsimp only at hF
  refine CW.at hf ?_
  refine C_cond rfl (fun hb => ?_) (fun hb => ?_)
  ·replace hF := itT hb hF
   refine C_seq <| R_nd <| nq (Q_assign rfl) rfl rfl <| WL_nil <| x_then <| C_ret <| x_then_ret ?_
   replace H := H.drop 0 rfl
   dsimp only [List.eraseIdx] at H
   obtain rfl := Option.some.inj hF
   exact fn_ret (l := [.tmp 6]) (vs := [.int .i64 0]) rfl rfl rfl ⟨0, rfl, rfl, H⟩
  ·replace hF := itF hb hF
   refine C_skip <| x_then <| C_seq <| R_nd <| nq (v := .pointer (some ⟨b30, 0, none⟩)) (Q_fld Tryz.underlying78 rfl ty76 (by decide) rfl rfl) rfl rfl <| nq (v := v1) (Q_ldB (k := 0) (cs := [v1]) H.ok rfl ty76 rfl rfl rfl (fun _ => rfl) rfl) rfl rfl <| nq (Q_move rfl) rfl rfl <| nq (Q_move rfl) rfl rfl ?_
   obtain ⟨x35, hx35, hF⟩ := bnd hF
   obtain ⟨b36, o37, c38, hc39, ha40, hi41⟩ := idxR r3 hx35
   refine nq (Q_idx hi41 Tryz.underlying76 ty88 rfl rfl) rfl rfl ?_
   obtain ⟨x42, hx42, hF⟩ := bnd hF
   have hn43 := idx_lt hc39.1 hx42
   refine nq (Q_idxA hn43.1 hn43.2 Tryz.underlying88 ty3 rfl rfl) rfl rfl ?_
   obtain ⟨c44, hc45, ha46, _⟩ := arrR hc39 ha40 hx42
   refine nq (v := .int .i64 x42) (Q_ld (show cellsAt _ _ _ [.int .i64 x42] from (show _ = [_] from hc45) ▸ (ha46.up H.ok.view)) ty3 rfl (fun _ => rfl) rfl rfl) rfl rfl <| nq (Q_assign rfl) rfl rfl <| WL_nil <| x_then <| C_ret ?_
   replace H := H.drop 0 rfl
   dsimp only [List.eraseIdx] at H
   obtain rfl := Option.some.inj hF
   exact fn_ret (l := [.tmp 6]) (vs := [.int .i64 x42]) rfl rfl rfl ⟨x42, rfl, rfl, H⟩
theorem c_56 {N : Nat} {C : Cx} {w : World} {ρ : View} {hs : List Hl} {gV : Nat → Value} {v1 : Value} {v4 : Value} {v7 : Value} {v11 : Value} {x2 : (List (List Int))} {x5 : (List Int)} {x8 : (List Int)} {x10 : Int} {x12 : (List Int)} {x14 : Int} {x15 : Int} (H : Hp C w ρ (hs)) (gle : GErrs ρ 394 errIds gV) (r3 : RdSl ρ (eA 256 (eI .i64)) v1 x2) (r6 : RdSl ρ (eI .i64) v4 x5) (r9 : RdSl ρ (eI .i64) v7 x8) (r13 : RdSl ρ (eI .u8) v11 x12) {r : (Int × Int)} (hF : F_subset_DFA_Longest N x2 x5 x8 x10 x12 x14 x15 = some r) :
  Calls Tryz.prog 56 [.agg #[v1, v4, v7], .int .i64 x10, v11, .int .i64 x14, .int .i64 x15].toArray w (Rets (fun v w' => (∃ (x404 : Int) (x405 : Int), (x404, x405) = r ∧ .tuple [.int .i64 x404, .int .i64 x405].toArray = v ∧ Hp C w' ρ (hs)))) := by
 unfold F_subset_DFA_Longest at hF
 have h0 : Tryz.f56.body = some _ := rfl
 refine fn_calls' Tryz.func56 h0 (n := 69) rfl (by simp) <| C_seq <| R_nd <| ne (E_box H (vs := [v1, v4, v7]) rfl rfl) rfl rfl ?_
 rintro _ wd407 ⟨b406, rfl, H⟩
 refine nq (Q_assign rfl) rfl rfl <| nq (Q_assign rfl) rfl rfl <| WL_nil <| x_then <| C_seq <| R_nd <| nq (Q_assign rfl) rfl rfl <| nq (Q_assign rfl) rfl rfl <| WL_nil <| x_then <| C_seq ?_
 obtain ⟨o413, ho413, hF⟩ := bnd hF
 refine C_cut (fun a w' => ∃ (x412 : Bool), x412 = o413 ∧ Fr 69 a [(1, .int .i64 x10), (2, v11), (3, .int .i64 x14), (4, .int .i64 x15), (5, .pointer (some ⟨b406, 0, none⟩)), (12, .int .i64 0), (13, .int .i64 (-1)), (30, .bool x412)] ∧ Hp C w' ρ (Box b406 [v1, v4, v7] :: hs)) ?_ ?_
 ·refine R_nd <| nq (Q_move rfl) rfl rfl <| nq (Q_lss rfl rfl) rfl rfl <| nq (Q_move rfl) rfl rfl ?_
  rcases Bool.eq_false_or_eq_true (decide (x14 < 0)) with hb | hb
  ·rw [hb]
   replace ho413 := itT hb ho413
   refine gs rfl rfl rfl rfl <| gs rfl rfl rfl rfl <| gs rfl rfl rfl rfl <| gs rfl rfl rfl rfl <| nq (Q_pickT rfl rfl) rfl rfl <| nq (Q_move rfl) rfl rfl <| gs rfl rfl rfl rfl <| gs rfl rfl rfl rfl <| gs rfl rfl rfl rfl <| nq (Q_pickT rfl rfl) rfl rfl <| WL_nil ?_
   obtain rfl := Option.some.inj ho413
   refine x_A fun a hf => ⟨true, rfl, hf.sub ⟨rfl, rfl, rfl, rfl, rfl, rfl, rfl, rfl, trivial⟩, H⟩
  ·rw [hb]
   replace ho413 := itF hb ho413
   refine gq (Q_move rfl) rfl rfl rfl <| gq (Q_move rfl) rfl rfl rfl <| gq (Q_len Tryz.underlying42 rfl r13) rfl rfl rfl <| gq (Q_gtr rfl rfl) rfl rfl rfl <| nq (Q_pickF rfl rfl) rfl rfl <| nq (Q_move rfl) rfl rfl ?_
   rcases Bool.eq_false_or_eq_true (decide (x14 > (x12.length : Int))) with hb | hb
   ·rw [hb]
    replace ho413 := itT hb ho413
    refine gs rfl rfl rfl rfl <| gs rfl rfl rfl rfl <| gs rfl rfl rfl rfl <| nq (Q_pickT rfl rfl) rfl rfl <| WL_nil ?_
    obtain rfl := Option.some.inj ho413
    refine x_A fun a hf => ⟨true, rfl, hf.sub ⟨rfl, rfl, rfl, rfl, rfl, rfl, rfl, rfl, trivial⟩, H⟩
   ·rw [hb]
    replace ho413 := itF hb ho413
    refine gq (v := .agg #[v1, v4, v7]) (Q_ldB (k := 0) (cs := [v1, v4, v7]) H.ok rfl ty78 rfl rfl rfl (fun h => nomatch h) rfl) rfl rfl rfl ?_
    obtain ⟨q414, hq414, ho413⟩ := bnd ho413
    refine ge (E_call fn57 rfl (c_57 H gle  r3 r6 r9 hq414)) rfl rfl rfl ?_
    rintro _ wd417 ⟨x416, rfl, rfl, H⟩
    try dsimp only at ho413
    refine gq (Q_not rfl) rfl rfl rfl <| nq (Q_pickF rfl rfl) rfl rfl <| WL_nil ?_
    obtain rfl := Option.some.inj ho413
    refine x_A fun a hf => ⟨!x416, rfl, hf.sub ⟨rfl, rfl, rfl, rfl, rfl, rfl, rfl, rfl, trivial⟩, H⟩
 ·rintro a wd418 ⟨x412, rfl, hf, H⟩
  try dsimp only at hF
  refine CW.at hf ?_
  refine C_cond rfl (fun hb => ?_) (fun hb => ?_)
  ·replace hF := itT hb hF
   refine C_seq <| R_nd <| nq (Q_move rfl) rfl rfl <| nq (Q_move rfl) rfl rfl <| nq (Q_assign rfl) rfl rfl <| nq (Q_assign rfl) rfl rfl <| WL_nil <| x_then <| C_ret <| x_then_ret ?_
   replace H := H.drop 0 rfl
   dsimp only [List.eraseIdx] at H
   obtain rfl := Option.some.inj hF
   exact fn_ret (l := [.tmp 10, .tmp 11]) (vs := [.int .i64 0, .int .i64 (-1)]) rfl rfl rfl ⟨0, (-1), rfl, rfl, H⟩
  ·replace hF := itF hb hF
   refine C_skip <| x_then <| C_seq <| R_nd <| nq (v := .agg #[v1, v4, v7]) (Q_ldB (k := 0) (cs := [v1, v4, v7]) H.ok rfl ty78 rfl rfl rfl (fun h => nomatch h) rfl) rfl rfl <| nq (Q_move rfl) rfl rfl ?_
   obtain ⟨q419, hq419, hF⟩ := bnd hF
   refine ne (E_call fn106 rfl (c_106 H gle  r3 r6 r9 hq419)) rfl rfl ?_
   rintro _ wd422 ⟨x421, rfl, rfl, H⟩
   try dsimp only at hF
   refine nq (Q_assign rfl) rfl rfl <| WL_nil <| x_then <| C_seq <| C_seq <| R_nd <| nq (Q_move rfl) rfl rfl <| nq (Q_move rfl) rfl rfl ?_
   obtain ⟨x423, hx423, hF⟩ := bnd hF
   obtain ⟨hs424a, hs424b, hs424c, hs424d⟩ := slc_some hx423
   obtain ⟨v425, r426, hq427⟩ := sliceR r13 hs424a hs424b hs424c
   rw [← hs424d] at r426
   refine nq (v := v425) (hq427 _ _ _ _ _ _ _ _ _ _ _ _ _ _ _ Tryz.underlying42 ty5 rfl ⟨_, rfl⟩ rfl) rfl rfl <| nq (Q_len Tryz.underlying42 rfl r426) rfl rfl <| nq (Q_move rfl) rfl rfl <| WL_nil <| x_then ?_
   obtain ⟨o611, ho611, hF⟩ := bnd hF
   refine C_cutQ (fun a w' => ∃ (x609 : Int) (x610 : Int), (x609, x610) = o611 ∧ Fr 69 a [(12, .int .i64 x609), (13, .int .i64 x610)] ∧ Hp C w' ρ (hs)) ?_ ?_
   ·refine C_block ?_
    refine C_iter (f := fun s => F_subset_DFA_Longest_l0 N x2 x5 x8 x15 x423 s.1 s.2.1 s.2.2.1 s.2.2.2) ho611 (fun s a w' => ∃ (x671 : Int) (x672 : Int) (x673 : Int) (x674 : Int), (x671, x672, x673, x674) = s ∧ Fr 69 a [(4, .int .i64 x15), (5, .pointer (some ⟨b406, 0, none⟩)), (12, .int .i64 x671), (13, .int .i64 x672), (14, .int .i64 x673), (38, v425), (39, .int .i64 (x423.length : Int)), (40, .int .i64 x674)] ∧ Hp C w' ρ (Box b406 [v1, v4, v7] :: hs)) ?_ ?_
    ·exact fun a hf => ⟨0, (-1), x421, 0, rfl, hf.sub ⟨rfl, rfl, rfl, rfl, rfl, rfl, rfl, rfl, trivial⟩, H⟩
    ·rintro s o734 a wd737 ⟨x671, x672, x673, x674, rfl, hf, H⟩ hB735 hO736
     replace hB735 : F_subset_DFA_Longest_l0 N x2 x5 x8 x15 x423 x671 x672 x673 x674 = some o734 := hB735
     unfold F_subset_DFA_Longest_l0 at hB735
     refine CW.at hf <| C_seq <| R_nd <| nq (Q_lss rfl rfl) rfl rfl <| WL_nil <| x_then <| C_seq ?_
     refine C_cond rfl (fun hb => ?_) (fun hb => ?_)
     ·replace hB735 := itT hb hB735
      refine C_skip <| x_then ?_
      obtain ⟨o766, ho766, hB735⟩ := bnd hB735
      refine C_cut (fun a w' => ∃ (x763 : Int) (x764 : Int) (x765 : Int), .inl (x763, x764, x765) = o766 ∧ Fr 69 a [(4, .int .i64 x15), (5, .pointer (some ⟨b406, 0, none⟩)), (12, .int .i64 x763), (13, .int .i64 x764), (14, .int .i64 x765), (38, v425), (39, .int .i64 (x423.length : Int)), (40, .int .i64 x674)] ∧ Hp C w' ρ (Box b406 [v1, v4, v7] :: hs)) ?_ ?_
      ·refine C_block <| C_seq <| R_nd <| nq (Q_move rfl) rfl rfl ?_
       obtain ⟨x767, hx767, ho766⟩ := bnd ho766
       obtain ⟨b768, o769, c770, hc771, ha772, hi773⟩ := idxR r426 hx767
       refine nq (Q_idx hi773 Tryz.underlying42 ty5 rfl rfl) rfl rfl <| nq (v := .int .u8 x767) (Q_ld (show cellsAt _ _ _ [.int .u8 x767] from (show _ = [_] from hc771) ▸ (ha772.up H.ok.view)) ty5 rfl (fun _ => rfl) rfl rfl) rfl rfl <| nq (Q_assign rfl) rfl rfl <| nq (Q_assign rfl) rfl rfl <| WL_nil <| x_then <| C_seq <| R_nd <| nq (v := .agg #[v1, v4, v7]) (Q_ldB (k := 0) (cs := [v1, v4, v7]) H.ok rfl ty78 rfl rfl rfl (fun h => nomatch h) rfl) rfl rfl <| nq (Q_move rfl) rfl rfl <| nq (Q_move rfl) rfl rfl ?_
       obtain ⟨q774, hq774, ho766⟩ := bnd ho766
       refine ne (E_call fn107 rfl (c_107 H gle  r3 r6 r9 hq774)) rfl rfl ?_
       rintro _ wd777 ⟨x776, rfl, rfl, H⟩
       try dsimp only at ho766
       refine nq (Q_assign rfl) rfl rfl <| WL_nil <| x_then <| C_seq ?_
       obtain ⟨o779, ho779, ho766⟩ := bnd ho766
       refine C_cut (fun a w' => ∃ (x778 : Bool), x778 = o779 ∧ Fr 69 a [(4, .int .i64 x15), (5, .pointer (some ⟨b406, 0, none⟩)), (12, .int .i64 x671), (13, .int .i64 x672), (14, .int .i64 x776), (15, .int .i64 x674), (38, v425), (39, .int .i64 (x423.length : Int)), (40, .int .i64 x674), (55, .bool x778)] ∧ Hp C w' ρ (Box b406 [v1, v4, v7] :: hs)) ?_ ?_
       ·refine R_nd <| nq (Q_move rfl) rfl rfl <| nq (Q_eql rfl rfl) rfl rfl <| nq (Q_move rfl) rfl rfl ?_
        rcases Bool.eq_false_or_eq_true (x776 == 0) with hb | hb
        ·rw [hb]
         replace ho779 := itT hb ho779
         refine gs rfl rfl rfl rfl <| gs rfl rfl rfl rfl <| gs rfl rfl rfl rfl <| nq (Q_pickT rfl rfl) rfl rfl <| WL_nil ?_
         obtain rfl := Option.some.inj ho779
         refine x_A fun a hf => ⟨true, rfl, hf.sub ⟨rfl, rfl, rfl, rfl, rfl, rfl, rfl, rfl, rfl, rfl, trivial⟩, H⟩
        ·rw [hb]
         replace ho779 := itF hb ho779
         refine gq (Q_move rfl) rfl rfl rfl <| gq (Q_move rfl) rfl rfl rfl <| gq (Q_geq rfl rfl) rfl rfl rfl <| nq (Q_pickF rfl rfl) rfl rfl <| WL_nil ?_
         obtain rfl := Option.some.inj ho779
         refine x_A fun a hf => ⟨decide (x674 ≥ x15), rfl, hf.sub ⟨rfl, rfl, rfl, rfl, rfl, rfl, rfl, rfl, rfl, rfl, trivial⟩, H⟩
       ·rintro a wd780 ⟨x778, rfl, hf, H⟩
        try dsimp only at ho766
        refine CW.at hf ?_
        refine C_cond rfl (fun hb => ?_) (fun hb => ?_)
        ·replace ho766 := itT hb ho766
         refine C_exit <| x_then_exit <| x_block_other rfl <| x_then_exit <| x_then_exit <| x_block_exit ?_
         replace H := H.drop 0 rfl
         dsimp only [List.eraseIdx] at H
         obtain rfl := Option.some.inj ho766
         obtain rfl := Option.some.inj (show some _ = some _ from hB735)
         obtain rfl := hO736 _ rfl
         refine x_A fun a hf => ⟨x671, x672, rfl, hf.sub ⟨rfl, rfl, trivial⟩, H⟩
        ·replace ho766 := itF hb ho766
         refine C_skip <| x_then <| C_seq <| R_nd <| nq (v := .pointer (some ⟨b406, 1, none⟩)) (Q_fld Tryz.underlying78 rfl ty23 (by decide) rfl rfl) rfl rfl <| nq (v := v4) (Q_ldB (k := 0) (cs := [v4]) H.ok rfl ty23 rfl rfl rfl (fun _ => rfl) rfl) rfl rfl <| nq (Q_move rfl) rfl rfl ?_
         obtain ⟨x781, hx781, ho766⟩ := bnd ho766
         obtain ⟨b782, o783, c784, hc785, ha786, hi787⟩ := idxR r6 hx781
         refine nq (Q_idx hi787 Tryz.underlying23 ty3 rfl rfl) rfl rfl <| nq (v := .int .i64 x781) (Q_ld (show cellsAt _ _ _ [.int .i64 x781] from (show _ = [_] from hc785) ▸ (ha786.up H.ok.view)) ty3 rfl (fun _ => rfl) rfl rfl) rfl rfl <| nq (Q_assign rfl) rfl rfl <| WL_nil <| x_then <| C_seq <| R_nd <| nq (Q_move rfl) rfl rfl <| nq (Q_neq rfl rfl) rfl rfl <| WL_nil <| x_then ?_
         obtain ⟨o790, ho790, ho766⟩ := bnd ho766
         refine C_cutQ (fun a w' => ∃ (x788 : Int) (x789 : Int), (x788, x789) = o790 ∧ Fr 69 a [(4, .int .i64 x15), (5, .pointer (some ⟨b406, 0, none⟩)), (12, .int .i64 x788), (13, .int .i64 x789), (14, .int .i64 x776), (38, v425), (39, .int .i64 (x423.length : Int)), (40, .int .i64 x674)] ∧ Hp C w' ρ (Box b406 [v1, v4, v7] :: hs)) ?_ ?_
         ·refine C_cond rfl (fun hb => ?_) (fun hb => ?_)
          ·replace ho790 := itT hb ho790
           refine R_nd <| nq (Q_move rfl) rfl rfl <| nq (Q_add rfl rfl) rfl rfl <| nq (Q_move rfl) rfl rfl <| nq (Q_assign rfl) rfl rfl <| nq (Q_assign rfl) rfl rfl <| WL_nil ?_
           obtain rfl := Option.some.inj ho790
           refine x_A fun a hf => ⟨w64 (x674 + 1), x781, rfl, hf.sub ⟨rfl, rfl, rfl, rfl, rfl, rfl, rfl, rfl, trivial⟩, H⟩
          ·replace ho790 := itF hb ho790
           refine C_skip ?_
           obtain rfl := Option.some.inj ho790
           refine x_A fun a hf => ⟨x671, x672, rfl, hf.sub ⟨rfl, rfl, rfl, rfl, rfl, rfl, rfl, rfl, trivial⟩, H⟩
         ·rintro a wd791 ⟨x788, x789, rfl, hf, H⟩
          try dsimp only at ho766
          refine XX.at hf <| x_block ?_
          obtain rfl := Option.some.inj ho766
          refine x_A fun a hf => ⟨x788, x789, x776, rfl, hf.sub ⟨rfl, rfl, rfl, rfl, rfl, rfl, rfl, rfl, trivial⟩, H⟩
      ·rintro a wd792 ⟨x763, x764, x765, rfl, hf, H⟩
       try dsimp only at hB735
       refine CW.at hf <| R_nd <| nq (Q_add rfl rfl) rfl rfl <| nq (Q_move rfl) rfl rfl <| WL_nil ?_
       obtain rfl := Option.some.inj hB735
       refine x_A fun a hf => ⟨_, rfl, x763, x764, x765, w64 (x674 + 1), rfl, hf.sub ⟨rfl, rfl, rfl, rfl, rfl, rfl, rfl, rfl, trivial⟩, H⟩
     ·replace hB735 := itF hb hB735
      refine C_exit <| x_then_exit <| x_then_exit <| x_block_exit ?_
      replace H := H.drop 0 rfl
      dsimp only [List.eraseIdx] at H
      obtain rfl := Option.some.inj hB735
      obtain rfl := hO736 _ rfl
      refine x_A fun a hf => ⟨x671, x672, rfl, hf.sub ⟨rfl, rfl, trivial⟩, H⟩
   ·rintro a wd793 ⟨x609, x610, rfl, hf, H⟩
    try dsimp only at hF
    refine XX.at hf <| x_then <| C_seq <| R_nd <| nq (Q_move rfl) rfl rfl <| nq (Q_move rfl) rfl rfl <| nq (Q_assign rfl) rfl rfl <| nq (Q_assign rfl) rfl rfl <| WL_nil <| x_then <| C_ret ?_
    obtain rfl := Option.some.inj hF
    exact fn_ret (l := [.tmp 10, .tmp 11]) (vs := [.int .i64 x609, .int .i64 x610]) rfl rfl rfl ⟨x609, x610, rfl, rfl, H⟩
theorem c_52 {N : Nat} {C : Cx} {w : World} {ρ : View} {hs : List Hl} {gV : Nat → Value} {v1 : Value} {v4 : Value} {v7 : Value} {x2 : (List (List Int))} {x5 : (List Int)} {x8 : (List Int)} (H : Hp C w ρ (hs)) (_gle : GErrs ρ 394 errIds gV) (r3 : RdSl ρ (eA 256 (eI .i64)) v1 x2) (r6 : RdSl ρ (eI .i64) v4 x5) (r9 : RdSl ρ (eI .i64) v7 x8) {r : Bool} (hF : F_dofferref17_Right N x2 x5 x8 = some r) :
  Calls Tryz.prog 52 [.agg #[v1, v4, v7]].toArray w (Rets (fun v w' => (∃ (x600 : Bool), x600 = r ∧ .bool x600 = v ∧ Hp C w' ρ (hs)))) := by
 unfold F_dofferref17_Right at hF
 have h0 : Tryz.f52.body = some _ := rfl
 refine fn_calls' Tryz.func52 h0 (n := 101) rfl (by simp) <| C_seq <| R_nd <| ne (E_box H (vs := [v1, v4, v7]) rfl rfl) rfl rfl ?_
 rintro _ wd602 ⟨b601, rfl, H⟩
 refine nq (Q_assign rfl) rfl rfl <| WL_nil <| x_then <| C_seq <| R_nd <| nq (v := .pointer (some ⟨b601, 0, none⟩)) (Q_fld Tryz.underlying81 rfl ty79 (by decide) rfl rfl) rfl rfl <| nq (v := v1) (Q_ldB (k := 0) (cs := [v1]) H.ok rfl ty79 rfl rfl rfl (fun _ => rfl) rfl) rfl rfl <| nq (Q_len Tryz.underlying79 rfl r3) rfl rfl <| nq (Q_assign rfl) rfl rfl <| WL_nil <| x_then <| C_seq ?_
 obtain ⟨o604, ho604, hF⟩ := bnd hF
 refine C_cut (fun a w' => ∃ (x603 : Bool), x603 = o604 ∧ Fr 101 a [(1, .pointer (some ⟨b601, 0, none⟩)), (3, .int .i64 (x2.length : Int)), (37, .bool x603)] ∧ Hp C w' ρ (Box b601 [v1, v4, v7] :: hs)) ?_ ?_
 ·refine R_nd <| nq (Q_move rfl) rfl rfl <| nq (Q_lss rfl rfl) rfl rfl <| nq (Q_move rfl) rfl rfl ?_
  rcases Bool.eq_false_or_eq_true (decide ((x2.length : Int) < 1)) with hb | hb
  ·rw [hb]
   replace ho604 := itT hb ho604
   refine gs rfl rfl rfl rfl <| gs rfl rfl rfl rfl <| nq (Q_pickT rfl rfl) rfl rfl <| nq (Q_move rfl) rfl rfl <| gs rfl rfl rfl rfl <| gs rfl rfl rfl rfl <| gs rfl rfl rfl rfl <| gs rfl rfl rfl rfl <| gs rfl rfl rfl rfl <| nq (Q_pickT rfl rfl) rfl rfl <| nq (Q_move rfl) rfl rfl <| gs rfl rfl rfl rfl <| gs rfl rfl rfl rfl <| gs rfl rfl rfl rfl ?_
   refine gs rfl rfl rfl rfl <| nq (Q_pickT rfl rfl) rfl rfl <| nq (Q_move rfl) rfl rfl <| gs rfl rfl rfl rfl <| gs rfl rfl rfl rfl <| gs rfl rfl rfl rfl <| gs rfl rfl rfl rfl <| nq (Q_pickT rfl rfl) rfl rfl <| WL_nil ?_
   obtain rfl := Option.some.inj ho604
   refine x_A fun a hf => ⟨true, rfl, hf.sub ⟨rfl, rfl, rfl, trivial⟩, H⟩
  ·rw [hb]
   replace ho604 := itF hb ho604
   refine gq (Q_move rfl) rfl rfl rfl <| gq (Q_gtr rfl rfl) rfl rfl rfl <| nq (Q_pickF rfl rfl) rfl rfl <| nq (Q_move rfl) rfl rfl ?_
   rcases Bool.eq_false_or_eq_true (decide ((x2.length : Int) > 200)) with hb | hb
   ·rw [hb]
    replace ho604 := itT hb ho604
    refine gs rfl rfl rfl rfl <| gs rfl rfl rfl rfl <| gs rfl rfl rfl rfl <| gs rfl rfl rfl rfl <| gs rfl rfl rfl rfl <| nq (Q_pickT rfl rfl) rfl rfl <| nq (Q_move rfl) rfl rfl <| gs rfl rfl rfl rfl <| gs rfl rfl rfl rfl <| gs rfl rfl rfl rfl <| gs rfl rfl rfl rfl <| nq (Q_pickT rfl rfl) rfl rfl <| nq (Q_move rfl) rfl rfl <| gs rfl rfl rfl rfl ?_
    refine gs rfl rfl rfl rfl <| gs rfl rfl rfl rfl <| gs rfl rfl rfl rfl <| nq (Q_pickT rfl rfl) rfl rfl <| WL_nil ?_
    obtain rfl := Option.some.inj ho604
    refine x_A fun a hf => ⟨true, rfl, hf.sub ⟨rfl, rfl, rfl, trivial⟩, H⟩
   ·rw [hb]
    replace ho604 := itF hb ho604
    refine gq (v := .pointer (some ⟨b601, 1, none⟩)) (Q_fld Tryz.underlying81 rfl ty23 (by decide) rfl rfl) rfl rfl rfl <| gq (v := v4) (Q_ldB (k := 0) (cs := [v4]) H.ok rfl ty23 rfl rfl rfl (fun _ => rfl) rfl) rfl rfl rfl <| gq (Q_len Tryz.underlying23 rfl r6) rfl rfl rfl <| gq (Q_move rfl) rfl rfl rfl <| gq (Q_neq rfl rfl) rfl rfl rfl <| nq (Q_pickF rfl rfl) rfl rfl <| nq (Q_move rfl) rfl rfl ?_
    rcases Bool.eq_false_or_eq_true ((x5.length : Int) != (x2.length : Int)) with hb | hb
    ·rw [hb]
     replace ho604 := itT hb ho604
     refine gs rfl rfl rfl rfl <| gs rfl rfl rfl rfl <| gs rfl rfl rfl rfl <| gs rfl rfl rfl rfl <| nq (Q_pickT rfl rfl) rfl rfl <| nq (Q_move rfl) rfl rfl <| gs rfl rfl rfl rfl <| gs rfl rfl rfl rfl <| gs rfl rfl rfl rfl <| gs rfl rfl rfl rfl <| nq (Q_pickT rfl rfl) rfl rfl <| WL_nil ?_
     obtain rfl := Option.some.inj ho604
     refine x_A fun a hf => ⟨true, rfl, hf.sub ⟨rfl, rfl, rfl, trivial⟩, H⟩
    ·rw [hb]
     replace ho604 := itF hb ho604
     refine gq (v := .pointer (some ⟨b601, 2, none⟩)) (Q_fld Tryz.underlying81 rfl ty23 (by decide) rfl rfl) rfl rfl rfl <| gq (v := v7) (Q_ldB (k := 0) (cs := [v7]) H.ok rfl ty23 rfl rfl rfl (fun _ => rfl) rfl) rfl rfl rfl <| gq (Q_len Tryz.underlying23 rfl r9) rfl rfl rfl <| gq (Q_lss rfl rfl) rfl rfl rfl <| nq (Q_pickF rfl rfl) rfl rfl <| nq (Q_move rfl) rfl rfl ?_
     rcases Bool.eq_false_or_eq_true (decide ((x8.length : Int) < 1)) with hb | hb
     ·rw [hb]
      replace ho604 := itT hb ho604
      refine gs rfl rfl rfl rfl <| gs rfl rfl rfl rfl <| gs rfl rfl rfl rfl <| gs rfl rfl rfl rfl <| nq (Q_pickT rfl rfl) rfl rfl <| WL_nil ?_
      obtain rfl := Option.some.inj ho604
      refine x_A fun a hf => ⟨true, rfl, hf.sub ⟨rfl, rfl, rfl, trivial⟩, H⟩
     ·rw [hb]
      replace ho604 := itF hb ho604
      refine gq (v := .pointer (some ⟨b601, 2, none⟩)) (Q_fld Tryz.underlying81 rfl ty23 (by decide) rfl rfl) rfl rfl rfl <| gq (v := v7) (Q_ldB (k := 0) (cs := [v7]) H.ok rfl ty23 rfl rfl rfl (fun _ => rfl) rfl) rfl rfl rfl <| gq (Q_len Tryz.underlying23 rfl r9) rfl rfl rfl <| gq (Q_gtr rfl rfl) rfl rfl rfl <| nq (Q_pickF rfl rfl) rfl rfl <| WL_nil ?_
      obtain rfl := Option.some.inj ho604
      refine x_A fun a hf => ⟨decide ((x8.length : Int) > 8), rfl, hf.sub ⟨rfl, rfl, rfl, trivial⟩, H⟩
 ·rintro a wd605 ⟨x603, rfl, hf, H⟩
  try dsimp only at hF
  refine CW.at hf ?_
  refine C_cond rfl (fun hb => ?_) (fun hb => ?_)
  ·replace hF := itT hb hF
   refine C_seq <| R_nd <| nq (Q_assign rfl) rfl rfl <| WL_nil <| x_then <| C_ret <| x_then_ret ?_
   replace H := H.drop 0 rfl
   dsimp only [List.eraseIdx] at H
   obtain rfl := Option.some.inj hF
   exact fn_ret (l := [.tmp 2]) (vs := [.bool false]) rfl rfl rfl ⟨false, rfl, rfl, H⟩
  ·replace hF := itF hb hF
   refine C_skip <| x_then <| C_seq <| C_seq <| R_nd <| nq (v := .pointer (some ⟨b601, 0, none⟩)) (Q_fld Tryz.underlying81 rfl ty79 (by decide) rfl rfl) rfl rfl <| nq (v := v1) (Q_ldB (k := 0) (cs := [v1]) H.ok rfl ty79 rfl rfl rfl (fun _ => rfl) rfl) rfl rfl <| nq (Q_len Tryz.underlying79 rfl r3) rfl rfl <| nq (Q_move rfl) rfl rfl <| WL_nil <| x_then ?_
   obtain ⟨o856, ho856, hF⟩ := bnd hF
   refine C_cutQ (fun a w' => .inl () = o856 ∧ Fr 101 a [(1, .pointer (some ⟨b601, 0, none⟩)), (3, .int .i64 (x2.length : Int))] ∧ Hp C w' ρ (Box b601 [v1, v4, v7] :: hs)) ?_ ?_
   ·refine C_block ?_
    refine C_iter (f := fun s => F_dofferref17_Right_l0 N x2 x5 s) ho856 (fun s a w' => ∃ (x939 : Int), x939 = s ∧ Fr 101 a [(1, .pointer (some ⟨b601, 0, none⟩)), (3, .int .i64 (x2.length : Int)), (39, v1), (40, .int .i64 (x2.length : Int)), (41, .int .i64 x939)] ∧ Hp C w' ρ (Box b601 [v1, v4, v7] :: hs)) ?_ ?_
    ·exact fun a hf => ⟨0, rfl, hf.sub ⟨rfl, rfl, rfl, rfl, rfl, trivial⟩, H⟩
    ·rintro s o1022 a wd1025 ⟨x939, rfl, hf, H⟩ hB1023 hO1024
     replace hB1023 : F_dofferref17_Right_l0 N x2 x5 x939 = some o1022 := hB1023
     unfold F_dofferref17_Right_l0 at hB1023
     refine CW.at hf <| C_seq <| R_nd <| nq (Q_lss rfl rfl) rfl rfl <| WL_nil <| x_then <| C_seq ?_
     refine C_cond rfl (fun hb => ?_) (fun hb => ?_)
     ·replace hB1023 := itT hb hB1023
      refine C_skip <| x_then <| C_seq <| C_block <| C_seq <| R_nd <| nq (Q_move rfl) rfl rfl ?_
      obtain ⟨x1026, hx1026, hB1023⟩ := bnd hB1023
      obtain ⟨b1027, o1028, c1029, hc1030, ha1031, hi1032⟩ := idxR r3 hx1026
      refine nq (Q_idx hi1032 Tryz.underlying79 ty87 rfl rfl) rfl rfl <| nq (v := .agg c1029.toArray) (Q_ld (ha1031.up H.ok.view) ty87 ((eA 256 (eI .i64)).len hc1030) (fun h => nomatch h) rfl rfl) rfl rfl <| ne (E_allocA (N := 256) (n := 1) (zs := (repC 256 [.int .i64 0])) H ty87 rfl (by simp [repC_length])) rfl rfl ?_
      rintro _ wd1034 ⟨b1033, rfl, H⟩
      refine nq (Q_assign rfl) rfl rfl <| ne (E_stW (k := 0) H rfl ty87 rfl rfl (rdL.one hc1030.2) (arr_clen (rdL_rep (e:=(eI .i64)) (ρ:=ρ) (rfl) 256) List.length_replicate) (arr_clen hc1030.2 hc1030.1)) rfl rfl ?_
      rintro _ wd1035 H
      dsimp only [List.set] at H
      refine WL_nil <| x_then <| C_seq ?_
      obtain ⟨o1051, ho1051, hB1023⟩ := bnd hB1023
      refine C_cut (fun a w' => ∃ (x1050 : Bool), x1050 = o1051 ∧ Fr 101 a [(1, .pointer (some ⟨b601, 0, none⟩)), (3, .int .i64 (x2.length : Int)), (4, .int .i64 x939), (5, .pointer (some ⟨b1033, 0, none⟩)), (39, v1), (40, .int .i64 (x2.length : Int)), (41, .int .i64 x939), (59, .bool x1050)] ∧ Hp C w' ρ (Box b601 [v1, v4, v7] :: Arr (.slice (some ⟨b1033, 0, none⟩) 256 256) 1 c1029 :: hs)) ?_ ?_
      ·refine R_nd <| nq (v := .pointer (some ⟨b601, 1, none⟩)) (Q_fld Tryz.underlying81 rfl ty23 (by decide) rfl rfl) rfl rfl <| nq (v := v4) (Q_ldB (k := 1) (cs := [v4]) H.ok rfl ty23 rfl rfl rfl (fun _ => rfl) rfl) rfl rfl <| nq (Q_move rfl) rfl rfl ?_
       obtain ⟨x1052, hx1052, ho1051⟩ := bnd ho1051
       obtain ⟨b1053, o1054, c1055, hc1056, ha1057, hi1058⟩ := idxR r6 hx1052
       refine nq (Q_idx hi1058 Tryz.underlying23 ty3 rfl rfl) rfl rfl <| nq (v := .int .i64 x1052) (Q_ld (show cellsAt _ _ _ [.int .i64 x1052] from (show _ = [_] from hc1056) ▸ (ha1057.up H.ok.view)) ty3 rfl (fun _ => rfl) rfl rfl) rfl rfl <| nq (Q_lss rfl rfl) rfl rfl <| nq (Q_move rfl) rfl rfl ?_
       rcases Bool.eq_false_or_eq_true (decide (x1052 < (-1))) with hb | hb
       ·rw [hb]
        replace ho1051 := itT hb ho1051
        refine gs rfl rfl rfl rfl <| gs rfl rfl rfl rfl <| gs rfl rfl rfl rfl <| gs rfl rfl rfl rfl <| gs rfl rfl rfl rfl <| gs rfl rfl rfl rfl <| nq (Q_pickT rfl rfl) rfl rfl <| WL_nil ?_
        replace H := H.f1
        obtain rfl := Option.some.inj ho1051
        refine x_A fun a hf => ⟨true, rfl, hf.sub ⟨rfl, rfl, rfl, rfl, rfl, rfl, rfl, rfl, trivial⟩, H⟩
       ·rw [hb]
        replace ho1051 := itF hb ho1051
        refine gq (v := .pointer (some ⟨b601, 1, none⟩)) (Q_fld Tryz.underlying81 rfl ty23 (by decide) rfl rfl) rfl rfl rfl <| gq (v := v4) (Q_ldB (k := 1) (cs := [v4]) H.ok rfl ty23 rfl rfl rfl (fun _ => rfl) rfl) rfl rfl rfl <| gq (Q_move rfl) rfl rfl rfl ?_
        obtain ⟨x1059, hx1059, ho1051⟩ := bnd ho1051
        obtain ⟨b1060, o1061, c1062, hc1063, ha1064, hi1065⟩ := idxR r6 hx1059
        refine gq (Q_idx hi1065 Tryz.underlying23 ty3 rfl rfl) rfl rfl rfl <| gq (v := .int .i64 x1059) (Q_ld (show cellsAt _ _ _ [.int .i64 x1059] from (show _ = [_] from hc1063) ▸ (ha1064.up H.ok.view)) ty3 rfl (fun _ => rfl) rfl rfl) rfl rfl rfl <| gq (Q_gtr rfl rfl) rfl rfl rfl <| nq (Q_pickF rfl rfl) rfl rfl <| WL_nil ?_
        replace H := H.f1
        obtain rfl := Option.some.inj ho1051
        refine x_A fun a hf => ⟨decide (x1059 > 47), rfl, hf.sub ⟨rfl, rfl, rfl, rfl, rfl, rfl, rfl, rfl, trivial⟩, H⟩
      ·rintro a wd1066 ⟨x1050, rfl, hf, H⟩
       try dsimp only at hB1023
       refine CW.at hf ?_
       refine C_cond rfl (fun hb => ?_) (fun hb => ?_)
       ·replace hB1023 := itT hb hB1023
        refine C_seq <| R_nd <| nq (Q_assign rfl) rfl rfl <| WL_nil <| x_then <| C_ret <| x_then_ret <| x_block_ret <| x_then_ret <| x_then_ret <| x_block_ret <| x_then_ret <| x_then_ret ?_
        replace H := H.drop 0 rfl
        dsimp only [List.eraseIdx] at H
        replace H := H.drop 0 rfl
        dsimp only [List.eraseIdx] at H
        obtain rfl := Option.some.inj hB1023
        obtain rfl := hO1024 _ rfl
        obtain rfl := Option.some.inj (show some _ = some _ from hF)
        exact fn_ret (l := [.tmp 2]) (vs := [.bool false]) rfl rfl rfl ⟨false, rfl, rfl, H⟩
       ·replace hB1023 := itF hb hB1023
        refine C_skip <| x_then <| C_seq <| R_nd <| nq (Q_ldW (k := 1) H.ok rfl ty87 rfl (arr_clen hc1030.2 hc1030.1)) rfl rfl <| nq (Q_move rfl) rfl rfl <| WL_nil <| x_then ?_
        obtain ⟨o1086, ho1086, hB1023⟩ := bnd hB1023
        refine C_cutQ (fun a w' => .inl () = o1086 ∧ Fr 101 a [(1, .pointer (some ⟨b601, 0, none⟩)), (3, .int .i64 (x2.length : Int)), (39, v1), (40, .int .i64 (x2.length : Int)), (41, .int .i64 x939)] ∧ Hp C w' ρ (Box b601 [v1, v4, v7] :: hs)) ?_ ?_
        ·refine C_block ?_
         replace H := H.drop 1 rfl
         dsimp only [List.eraseIdx] at H
         refine C_iter (f := fun s => F_dofferref17_Right_l1 N x2 x939 x1026 s) ho1086 (fun s a w' => ∃ (x1092 : Int), x1092 = s ∧ Fr 101 a [(1, .pointer (some ⟨b601, 0, none⟩)), (3, .int .i64 (x2.length : Int)), (4, .int .i64 x939), (39, v1), (40, .int .i64 (x2.length : Int)), (41, .int .i64 x939), (60, .agg c1029.toArray), (61, .int .i64 x1092)] ∧ Hp C w' ρ (Box b601 [v1, v4, v7] :: hs)) ?_ ?_
         ·exact fun a hf => ⟨0, rfl, hf.sub ⟨rfl, rfl, rfl, rfl, rfl, rfl, rfl, rfl, trivial⟩, H⟩
         ·rintro s o1098 a wd1101 ⟨x1092, rfl, hf, H⟩ hB1099 hO1100
          replace hB1099 : F_dofferref17_Right_l1 N x2 x939 x1026 x1092 = some o1098 := hB1099
          unfold F_dofferref17_Right_l1 at hB1099
          refine CW.at hf <| C_seq <| R_nd <| nq (Q_lss rfl rfl) rfl rfl <| WL_nil <| x_then <| C_seq ?_
          refine C_cond rfl (fun hb => ?_) (fun hb => ?_)
          ·replace hB1099 := itT hb hB1099
           refine C_skip <| x_then <| C_seq <| C_block <| C_seq <| R_nd ?_
           obtain ⟨x1102, hx1102, hB1099⟩ := bnd hB1099
           refine nq (Q_ixI hc1030.2 hc1030.1 hx1102 Tryz.underlying87 rfl rfl ty3 rfl) rfl rfl <| nq (Q_assign rfl) rfl rfl <| WL_nil <| x_then ?_
           obtain ⟨o1104, ho1104, hB1099⟩ := bnd hB1099
           refine C_cut (fun a w' => ∃ (x1103 : Bool), x1103 = o1104 ∧ Fr 101 a [(1, .pointer (some ⟨b601, 0, none⟩)), (3, .int .i64 (x2.length : Int)), (4, .int .i64 x939), (39, v1), (40, .int .i64 (x2.length : Int)), (41, .int .i64 x939), (60, .agg c1029.toArray), (61, .int .i64 x1092), (78, .bool x1103)] ∧ Hp C w' ρ (Box b601 [v1, v4, v7] :: hs)) ?_ ?_
           ·refine R_nd <| nq (Q_move rfl) rfl rfl <| nq (Q_lss rfl rfl) rfl rfl <| nq (Q_move rfl) rfl rfl ?_
            rcases Bool.eq_false_or_eq_true (decide (x1102 < 0)) with hb | hb
            ·rw [hb]
             replace ho1104 := itT hb ho1104
             refine gs rfl rfl rfl rfl <| gs rfl rfl rfl rfl <| gs rfl rfl rfl rfl <| nq (Q_pickT rfl rfl) rfl rfl <| nq (Q_move rfl) rfl rfl <| gs rfl rfl rfl rfl <| gs rfl rfl rfl rfl <| gs rfl rfl rfl rfl <| gsu rfl ⟨_, _, rfl, rfl, rfl⟩ rfl <| gsu rfl ⟨_, _, rfl, rfl, rfl⟩ rfl <| gs rfl rfl rfl rfl <| nq (Q_pickT rfl rfl) rfl rfl <| WL_nil ?_
             obtain rfl := Option.some.inj ho1104
             refine x_A fun a hf => ⟨true, rfl, hf.sub ⟨rfl, rfl, rfl, rfl, rfl, rfl, rfl, rfl, rfl, trivial⟩, H⟩
            ·rw [hb]
             replace ho1104 := itF hb ho1104
             refine gq (Q_move rfl) rfl rfl rfl <| gq (Q_move rfl) rfl rfl rfl <| gq (Q_geq rfl rfl) rfl rfl rfl <| nq (Q_pickF rfl rfl) rfl rfl <| nq (Q_move rfl) rfl rfl ?_
             rcases Bool.eq_false_or_eq_true (decide (x1102 ≥ (x2.length : Int))) with hb | hb
             ·rw [hb]
              replace ho1104 := itT hb ho1104
              refine gs rfl rfl rfl rfl <| gs rfl rfl rfl rfl <| gs rfl rfl rfl rfl <| gsu rfl ⟨_, _, rfl, rfl, rfl⟩ rfl <| gsu rfl ⟨_, _, rfl, rfl, rfl⟩ rfl <| gs rfl rfl rfl rfl <| nq (Q_pickT rfl rfl) rfl rfl <| WL_nil ?_
              obtain rfl := Option.some.inj ho1104
              refine x_A fun a hf => ⟨true, rfl, hf.sub ⟨rfl, rfl, rfl, rfl, rfl, rfl, rfl, rfl, rfl, trivial⟩, H⟩
             ·rw [hb]
              replace ho1104 := itF hb ho1104
              refine gq (Q_move rfl) rfl rfl rfl <| gq (Q_eql rfl rfl) rfl rfl rfl <| gq (Q_move rfl) rfl rfl rfl ?_
              rcases Bool.eq_false_or_eq_true (x939 == 0) with hb | hb
              ·rw [hb]
               replace ho1104 := itT hb ho1104
               refine gq (Q_move rfl) rfl rfl rfl <| gq (Q_neq rfl rfl) rfl rfl rfl <| gq (Q_pickT rfl rfl) rfl rfl rfl <| nq (Q_pickF rfl rfl) rfl rfl <| WL_nil ?_
               obtain rfl := Option.some.inj ho1104
               refine x_A fun a hf => ⟨x1102 != 0, rfl, hf.sub ⟨rfl, rfl, rfl, rfl, rfl, rfl, rfl, rfl, rfl, trivial⟩, H⟩
              ·rw [hb]
               replace ho1104 := itF hb ho1104
               refine gs rfl rfl rfl rfl <| gs rfl rfl rfl rfl <| gq (Q_pickF rfl rfl) rfl rfl rfl <| nq (Q_pickF rfl rfl) rfl rfl <| WL_nil ?_
               obtain rfl := Option.some.inj ho1104
               refine x_A fun a hf => ⟨false, rfl, hf.sub ⟨rfl, rfl, rfl, rfl, rfl, rfl, rfl, rfl, rfl, trivial⟩, H⟩
           ·rintro a wd1105 ⟨x1103, rfl, hf, H⟩
            try dsimp only at hB1099
            refine CW.at hf ?_
            refine C_cond rfl (fun hb => ?_) (fun hb => ?_)
            ·replace hB1099 := itT hb hB1099
             refine C_seq <| R_nd <| nq (Q_assign rfl) rfl rfl <| WL_nil <| x_then <| C_ret <| x_block_ret <| x_then_ret <| x_then_ret <| x_block_ret <| x_then_ret <| x_block_ret <| x_then_ret <| x_then_ret ?_
             refine x_block_ret <| x_then_ret <| x_then_ret ?_
             replace H := H.drop 0 rfl
             dsimp only [List.eraseIdx] at H
             obtain rfl := Option.some.inj hB1099
             obtain rfl := hO1100 _ rfl
             obtain rfl := Option.some.inj (show some _ = some _ from hB1023)
             obtain rfl := hO1024 _ rfl
             obtain rfl := Option.some.inj (show some _ = some _ from hF)
             exact fn_ret (l := [.tmp 2]) (vs := [.bool false]) rfl rfl rfl ⟨false, rfl, rfl, H⟩
            ·replace hB1099 := itF hb hB1099
             refine C_skip <| x_block <| x_then <| R_nd <| nq (Q_add rfl rfl) rfl rfl <| nq (Q_move rfl) rfl rfl <| WL_nil ?_
             obtain rfl := Option.some.inj hB1099
             refine x_A fun a hf => ⟨_, rfl, w64 (x1092 + 1), rfl, hf.sub ⟨rfl, rfl, rfl, rfl, rfl, rfl, rfl, rfl, trivial⟩, H⟩
          ·replace hB1099 := itF hb hB1099
           refine C_exit <| x_then_exit <| x_then_exit <| x_block_exit ?_
           obtain rfl := Option.some.inj hB1099
           obtain rfl := hO1100 _ rfl
           refine x_A fun a hf => ⟨rfl, hf.sub ⟨rfl, rfl, rfl, rfl, rfl, trivial⟩, H⟩
        ·rintro a wd1106 ⟨rfl, hf, H⟩
         try dsimp only at hB1023
         refine XX.at hf <| x_block <| x_then <| R_nd <| nq (Q_add rfl rfl) rfl rfl <| nq (Q_move rfl) rfl rfl <| WL_nil ?_
         obtain rfl := Option.some.inj hB1023
         refine x_A fun a hf => ⟨_, rfl, w64 (x939 + 1), rfl, hf.sub ⟨rfl, rfl, rfl, rfl, rfl, trivial⟩, H⟩
     ·replace hB1023 := itF hb hB1023
      refine C_exit <| x_then_exit <| x_then_exit <| x_block_exit ?_
      obtain rfl := Option.some.inj hB1023
      obtain rfl := hO1024 _ rfl
      refine x_A fun a hf => ⟨rfl, hf.sub ⟨rfl, rfl, trivial⟩, H⟩
   ·rintro a wd1107 ⟨rfl, hf, H⟩
    try dsimp only at hF
    refine XX.at hf <| x_then <| C_seq <| C_seq <| R_nd <| nq (v := .pointer (some ⟨b601, 2, none⟩)) (Q_fld Tryz.underlying81 rfl ty23 (by decide) rfl rfl) rfl rfl <| nq (v := v7) (Q_ldB (k := 0) (cs := [v7]) H.ok rfl ty23 rfl rfl rfl (fun _ => rfl) rfl) rfl rfl <| nq (Q_len Tryz.underlying23 rfl r9) rfl rfl <| nq (Q_move rfl) rfl rfl <| WL_nil <| x_then ?_
    obtain ⟨o1145, ho1145, hF⟩ := bnd hF
    refine C_cutQ (fun a w' => .inl () = o1145 ∧ Fr 101 a [(1, .pointer (some ⟨b601, 0, none⟩))] ∧ Hp C w' ρ (Box b601 [v1, v4, v7] :: hs)) ?_ ?_
    ·refine C_block ?_
     refine C_iter (f := fun s => F_dofferref17_Right_l2 N x2 x8 s) ho1145 (fun s a w' => ∃ (x1157 : Int), x1157 = s ∧ Fr 101 a [(1, .pointer (some ⟨b601, 0, none⟩)), (3, .int .i64 (x2.length : Int)), (82, v7), (83, .int .i64 (x8.length : Int)), (84, .int .i64 x1157)] ∧ Hp C w' ρ (Box b601 [v1, v4, v7] :: hs)) ?_ ?_
     ·exact fun a hf => ⟨0, rfl, hf.sub ⟨rfl, rfl, rfl, rfl, rfl, trivial⟩, H⟩
     ·rintro s o1169 a wd1172 ⟨x1157, rfl, hf, H⟩ hB1170 hO1171
      replace hB1170 : F_dofferref17_Right_l2 N x2 x8 x1157 = some o1169 := hB1170
      unfold F_dofferref17_Right_l2 at hB1170
      refine CW.at hf <| C_seq <| R_nd <| nq (Q_lss rfl rfl) rfl rfl <| WL_nil <| x_then <| C_seq ?_
      refine C_cond rfl (fun hb => ?_) (fun hb => ?_)
      ·replace hB1170 := itT hb hB1170
       refine C_skip <| x_then <| C_seq <| C_block <| C_seq <| R_nd ?_
       obtain ⟨x1173, hx1173, hB1170⟩ := bnd hB1170
       obtain ⟨b1174, o1175, c1176, hc1177, ha1178, hi1179⟩ := idxR r9 hx1173
       refine nq (Q_idx hi1179 Tryz.underlying23 ty3 rfl rfl) rfl rfl <| nq (v := .int .i64 x1173) (Q_ld (show cellsAt _ _ _ [.int .i64 x1173] from (show _ = [_] from hc1177) ▸ (ha1178.up H.ok.view)) ty3 rfl (fun _ => rfl) rfl rfl) rfl rfl <| nq (Q_assign rfl) rfl rfl <| WL_nil <| x_then ?_
       obtain ⟨o1181, ho1181, hB1170⟩ := bnd hB1170
       refine C_cut (fun a w' => ∃ (x1180 : Bool), x1180 = o1181 ∧ Fr 101 a [(1, .pointer (some ⟨b601, 0, none⟩)), (3, .int .i64 (x2.length : Int)), (82, v7), (83, .int .i64 (x8.length : Int)), (84, .int .i64 x1157), (94, .bool x1180)] ∧ Hp C w' ρ (Box b601 [v1, v4, v7] :: hs)) ?_ ?_
       ·refine R_nd <| nq (Q_move rfl) rfl rfl <| nq (Q_lss rfl rfl) rfl rfl <| nq (Q_move rfl) rfl rfl ?_
        rcases Bool.eq_false_or_eq_true (decide (x1173 < 0)) with hb | hb
        ·rw [hb]
         replace ho1181 := itT hb ho1181
         refine gs rfl rfl rfl rfl <| gs rfl rfl rfl rfl <| gs rfl rfl rfl rfl <| nq (Q_pickT rfl rfl) rfl rfl <| WL_nil ?_
         obtain rfl := Option.some.inj ho1181
         refine x_A fun a hf => ⟨true, rfl, hf.sub ⟨rfl, rfl, rfl, rfl, rfl, rfl, trivial⟩, H⟩
        ·rw [hb]
         replace ho1181 := itF hb ho1181
         refine gq (Q_move rfl) rfl rfl rfl <| gq (Q_move rfl) rfl rfl rfl <| gq (Q_geq rfl rfl) rfl rfl rfl <| nq (Q_pickF rfl rfl) rfl rfl <| WL_nil ?_
         obtain rfl := Option.some.inj ho1181
         refine x_A fun a hf => ⟨decide (x1173 ≥ (x2.length : Int)), rfl, hf.sub ⟨rfl, rfl, rfl, rfl, rfl, rfl, trivial⟩, H⟩
       ·rintro a wd1182 ⟨x1180, rfl, hf, H⟩
        try dsimp only at hB1170
        refine CW.at hf ?_
        refine C_cond rfl (fun hb => ?_) (fun hb => ?_)
        ·replace hB1170 := itT hb hB1170
         refine C_seq <| R_nd <| nq (Q_assign rfl) rfl rfl <| WL_nil <| x_then <| C_ret <| x_block_ret <| x_then_ret <| x_then_ret <| x_block_ret <| x_then_ret <| x_then_ret ?_
         replace H := H.drop 0 rfl
         dsimp only [List.eraseIdx] at H
         obtain rfl := Option.some.inj hB1170
         obtain rfl := hO1171 _ rfl
         obtain rfl := Option.some.inj (show some _ = some _ from hF)
         exact fn_ret (l := [.tmp 2]) (vs := [.bool false]) rfl rfl rfl ⟨false, rfl, rfl, H⟩
        ·replace hB1170 := itF hb hB1170
         refine C_skip <| x_block <| x_then <| R_nd <| nq (Q_add rfl rfl) rfl rfl <| nq (Q_move rfl) rfl rfl <| WL_nil ?_
         obtain rfl := Option.some.inj hB1170
         refine x_A fun a hf => ⟨_, rfl, w64 (x1157 + 1), rfl, hf.sub ⟨rfl, rfl, rfl, rfl, rfl, trivial⟩, H⟩
      ·replace hB1170 := itF hb hB1170
       refine C_exit <| x_then_exit <| x_then_exit <| x_block_exit ?_
       obtain rfl := Option.some.inj hB1170
       obtain rfl := hO1171 _ rfl
       refine x_A fun a hf => ⟨rfl, hf.sub ⟨rfl, trivial⟩, H⟩
    ·rintro a wd1183 ⟨rfl, hf, H⟩
     try dsimp only at hF
     refine XX.at hf <| x_then <| C_seq <| R_nd <| nq (v := .pointer (some ⟨b601, 1, none⟩)) (Q_fld Tryz.underlying81 rfl ty23 (by decide) rfl rfl) rfl rfl <| nq (v := v4) (Q_ldB (k := 0) (cs := [v4]) H.ok rfl ty23 rfl rfl rfl (fun _ => rfl) rfl) rfl rfl ?_
     obtain ⟨x1184, hx1184, hF⟩ := bnd hF
     obtain ⟨b1185, o1186, c1187, hc1188, ha1189, hi1190⟩ := idxR r6 hx1184
     refine nq (Q_idx hi1190 Tryz.underlying23 ty3 rfl rfl) rfl rfl <| nq (v := .int .i64 x1184) (Q_ld (show cellsAt _ _ _ [.int .i64 x1184] from (show _ = [_] from hc1188) ▸ (ha1189.up H.ok.view)) ty3 rfl (fun _ => rfl) rfl rfl) rfl rfl <| nq (Q_eql rfl rfl) rfl rfl <| nq (Q_assign rfl) rfl rfl <| WL_nil <| x_then <| C_ret ?_
     replace H := H.drop 0 rfl
     dsimp only [List.eraseIdx] at H
     obtain rfl := Option.some.inj hF
     exact fn_ret (l := [.tmp 2]) (vs := [.bool (x1184 == (-1))]) rfl rfl rfl ⟨x1184 == (-1), rfl, rfl, H⟩
theorem c_58 {N : Nat} {C : Cx} {w : World} {ρ : View} {hs : List Hl} {gV : Nat → Value} {v1 : Value} {v4 : Value} {v7 : Value} {v11 : Value} {x2 : (List (List Int))} {x5 : (List Int)} {x8 : (List Int)} {x10 : Int} {x12 : (List Int)} (H : Hp C w ρ (hs)) (gle : GErrs ρ 394 errIds gV) (r3 : RdSl ρ (eA 256 (eI .i64)) v1 x2) (r6 : RdSl ρ (eI .i64) v4 x5) (r9 : RdSl ρ (eI .i64) v7 x8) (r13 : RdSl ρ (eI .u8) v11 x12) {r : Int} (hF : F_subset_DFA_Run N x2 x5 x8 x10 x12 = some r) :
  Calls Tryz.prog 58 [.agg #[v1, v4, v7], .int .i64 x10, v11].toArray w (Rets (fun v w' => (∃ (x120 : Int), x120 = r ∧ .int .i64 x120 = v ∧ Hp C w' ρ (hs)))) := by
 unfold F_subset_DFA_Run at hF
 have h0 : Tryz.f58.body = some _ := rfl
 refine fn_calls' Tryz.func58 h0 (n := 32) rfl (by simp) <| C_seq <| R_nd <| ne (E_box H (vs := [v1, v4, v7]) rfl rfl) rfl rfl ?_
 rintro _ wd122 ⟨b121, rfl, H⟩
 refine nq (Q_assign rfl) rfl rfl <| WL_nil <| x_then <| C_seq <| C_seq <| R_nd <| nq (v := .agg #[v1, v4, v7]) (Q_ldB (k := 0) (cs := [v1, v4, v7]) H.ok rfl ty78 rfl rfl rfl (fun h => nomatch h) rfl) rfl rfl ?_
 obtain ⟨q123, hq123, hF⟩ := bnd hF
 refine ne (E_call fn57 rfl (c_57 H gle  r3 r6 r9 hq123)) rfl rfl ?_
 rintro _ wd126 ⟨x125, rfl, rfl, H⟩
 try dsimp only at hF
 refine nq (Q_not rfl) rfl rfl <| WL_nil <| x_then ?_
 refine C_cond rfl (fun hb => ?_) (fun hb => ?_)
 ·replace hF := itT hb hF
  refine C_seq <| R_nd <| nq (Q_assign rfl) rfl rfl <| WL_nil <| x_then <| C_ret <| x_then_ret ?_
  replace H := H.drop 0 rfl
  dsimp only [List.eraseIdx] at H
  obtain rfl := Option.some.inj hF
  exact fn_ret (l := [.tmp 6]) (vs := [.int .i64 (-1)]) rfl rfl rfl ⟨(-1), rfl, rfl, H⟩
 ·replace hF := itF hb hF
  refine C_skip <| x_then <| C_seq <| R_nd <| nq (v := .agg #[v1, v4, v7]) (Q_ldB (k := 0) (cs := [v1, v4, v7]) H.ok rfl ty78 rfl rfl rfl (fun h => nomatch h) rfl) rfl rfl <| nq (Q_move rfl) rfl rfl ?_
  obtain ⟨q127, hq127, hF⟩ := bnd hF
  refine ne (E_call fn106 rfl (c_106 H gle  r3 r6 r9 hq127)) rfl rfl ?_
  rintro _ wd130 ⟨x129, rfl, rfl, H⟩
  try dsimp only at hF
  refine nq (Q_assign rfl) rfl rfl <| WL_nil <| x_then <| C_seq <| C_seq <| R_nd <| nq (Q_move rfl) rfl rfl <| nq (Q_len Tryz.underlying42 rfl r13) rfl rfl <| nq (Q_move rfl) rfl rfl <| WL_nil <| x_then ?_
  obtain ⟨o175, ho175, hF⟩ := bnd hF
  refine C_cutQ (fun a w' => ∃ (x174 : Int), x174 = o175 ∧ Fr 32 a [(3, .pointer (some ⟨b121, 0, none⟩)), (7, .int .i64 x174)] ∧ Hp C w' ρ (Box b121 [v1, v4, v7] :: hs)) ?_ ?_
  ·refine C_block ?_
   refine C_iter (f := fun s => F_subset_DFA_Run_l0 N x2 x5 x8 x12 s.1 s.2) ho175 (fun s a w' => ∃ (x189 : Int) (x190 : Int), (x189, x190) = s ∧ Fr 32 a [(3, .pointer (some ⟨b121, 0, none⟩)), (7, .int .i64 x190), (16, v11), (17, .int .i64 (x12.length : Int)), (18, .int .i64 x189)] ∧ Hp C w' ρ (Box b121 [v1, v4, v7] :: hs)) ?_ ?_
   ·exact fun a hf => ⟨0, x129, rfl, hf.sub ⟨rfl, rfl, rfl, rfl, rfl, trivial⟩, H⟩
   ·rintro s o204 a wd207 ⟨x189, x190, rfl, hf, H⟩ hB205 hO206
    replace hB205 : F_subset_DFA_Run_l0 N x2 x5 x8 x12 x189 x190 = some o204 := hB205
    unfold F_subset_DFA_Run_l0 at hB205
    refine CW.at hf <| C_seq <| R_nd <| nq (Q_lss rfl rfl) rfl rfl <| WL_nil <| x_then <| C_seq ?_
    refine C_cond rfl (fun hb => ?_) (fun hb => ?_)
    ·replace hB205 := itT hb hB205
     refine C_skip <| x_then <| C_seq <| C_block <| C_seq <| R_nd ?_
     obtain ⟨x208, hx208, hB205⟩ := bnd hB205
     obtain ⟨b209, o210, c211, hc212, ha213, hi214⟩ := idxR r13 hx208
     refine nq (Q_idx hi214 Tryz.underlying42 ty5 rfl rfl) rfl rfl <| nq (v := .int .u8 x208) (Q_ld (show cellsAt _ _ _ [.int .u8 x208] from (show _ = [_] from hc212) ▸ (ha213.up H.ok.view)) ty5 rfl (fun _ => rfl) rfl rfl) rfl rfl <| nq (Q_assign rfl) rfl rfl <| WL_nil <| x_then <| R_nd <| nq (v := .agg #[v1, v4, v7]) (Q_ldB (k := 0) (cs := [v1, v4, v7]) H.ok rfl ty78 rfl rfl rfl (fun h => nomatch h) rfl) rfl rfl <| nq (Q_move rfl) rfl rfl <| nq (Q_move rfl) rfl rfl ?_
     obtain ⟨q215, hq215, hB205⟩ := bnd hB205
     refine ne (E_call fn107 rfl (c_107 H gle  r3 r6 r9 hq215)) rfl rfl ?_
     rintro _ wd218 ⟨x217, rfl, rfl, H⟩
     try dsimp only at hB205
     refine nq (Q_assign rfl) rfl rfl <| WL_nil <| x_block <| x_then <| R_nd <| nq (Q_add rfl rfl) rfl rfl <| nq (Q_move rfl) rfl rfl <| WL_nil ?_
     obtain rfl := Option.some.inj hB205
     refine x_A fun a hf => ⟨_, rfl, w64 (x189 + 1), x217, rfl, hf.sub ⟨rfl, rfl, rfl, rfl, rfl, trivial⟩, H⟩
    ·replace hB205 := itF hb hB205
     refine C_exit <| x_then_exit <| x_then_exit <| x_block_exit ?_
     obtain rfl := Option.some.inj hB205
     obtain rfl := hO206 _ rfl
     refine x_A fun a hf => ⟨x190, rfl, hf.sub ⟨rfl, rfl, trivial⟩, H⟩
  ·rintro a wd219 ⟨x174, rfl, hf, H⟩
   try dsimp only at hF
   refine XX.at hf <| x_then <| C_seq <| R_nd <| nq (v := .pointer (some ⟨b121, 1, none⟩)) (Q_fld Tryz.underlying78 rfl ty23 (by decide) rfl rfl) rfl rfl <| nq (v := v4) (Q_ldB (k := 0) (cs := [v4]) H.ok rfl ty23 rfl rfl rfl (fun _ => rfl) rfl) rfl rfl <| nq (Q_move rfl) rfl rfl ?_
   obtain ⟨x220, hx220, hF⟩ := bnd hF
   obtain ⟨b221, o222, c223, hc224, ha225, hi226⟩ := idxR r6 hx220
   refine nq (Q_idx hi226 Tryz.underlying23 ty3 rfl rfl) rfl rfl <| nq (v := .int .i64 x220) (Q_ld (show cellsAt _ _ _ [.int .i64 x220] from (show _ = [_] from hc224) ▸ (ha225.up H.ok.view)) ty3 rfl (fun _ => rfl) rfl rfl) rfl rfl <| nq (Q_assign rfl) rfl rfl <| WL_nil <| x_then <| C_ret ?_
   replace H := H.drop 0 rfl
   dsimp only [List.eraseIdx] at H
   obtain rfl := Option.some.inj hF
   exact fn_ret (l := [.tmp 6]) (vs := [.int .i64 x220]) rfl rfl rfl ⟨x220, rfl, rfl, H⟩
theorem c_59 {N : Nat} {C : Cx} {w : World} {ρ : View} {hs : List Hl} {gV : Nat → Value} {v1 : Value} {v4 : Value} {v7 : Value} {x2 : (List (List Int))} {x5 : (List Int)} {x8 : (List Int)} {x10 : Int} {x11 : Int} (H : Hp C w ρ (hs)) (gle : GErrs ρ 394 errIds gV) (r3 : RdSl ρ (eA 256 (eI .i64)) v1 x2) (r6 : RdSl ρ (eI .i64) v4 x5) (r9 : RdSl ρ (eI .i64) v7 x8) {r : Int} (hF : F_subset_DFA_Next N x2 x5 x8 x10 x11 = some r) :
  Calls Tryz.prog 59 [.agg #[v1, v4, v7], .int .i64 x10, .int .u8 x11].toArray w (Rets (fun v w' => (∃ (x22 : Int), x22 = r ∧ .int .i64 x22 = v ∧ Hp C w' ρ (hs)))) := by
 unfold F_subset_DFA_Next at hF
 have h0 : Tryz.f59.body = some _ := rfl
 refine fn_calls' Tryz.func59 h0 (n := 14) rfl (by simp) <| C_seq <| R_nd <| ne (E_box H (vs := [v1, v4, v7]) rfl rfl) rfl rfl ?_
 rintro _ wd24 ⟨b23, rfl, H⟩
 refine nq (Q_assign rfl) rfl rfl <| WL_nil <| x_then <| C_seq <| C_seq <| R_nd <| nq (v := .agg #[v1, v4, v7]) (Q_ldB (k := 0) (cs := [v1, v4, v7]) H.ok rfl ty78 rfl rfl rfl (fun h => nomatch h) rfl) rfl rfl ?_
 obtain ⟨q25, hq25, hF⟩ := bnd hF
 refine ne (E_call fn57 rfl (c_57 H gle  r3 r6 r9 hq25)) rfl rfl ?_
 rintro _ wd28 ⟨x27, rfl, rfl, H⟩
 try dsimp only at hF
 refine nq (Q_not rfl) rfl rfl <| WL_nil <| x_then ?_
 refine C_cond rfl (fun hb => ?_) (fun hb => ?_)
 ·replace hF := itT hb hF
  refine C_seq <| R_nd <| nq (Q_assign rfl) rfl rfl <| WL_nil <| x_then <| C_ret <| x_then_ret ?_
  replace H := H.drop 0 rfl
  dsimp only [List.eraseIdx] at H
  obtain rfl := Option.some.inj hF
  exact fn_ret (l := [.tmp 6]) (vs := [.int .i64 0]) rfl rfl rfl ⟨0, rfl, rfl, H⟩
 ·replace hF := itF hb hF
  refine C_skip <| x_then <| C_seq <| R_nd <| nq (v := .agg #[v1, v4, v7]) (Q_ldB (k := 0) (cs := [v1, v4, v7]) H.ok rfl ty78 rfl rfl rfl (fun h => nomatch h) rfl) rfl rfl <| nq (Q_move rfl) rfl rfl <| nq (Q_move rfl) rfl rfl ?_
  obtain ⟨q29, hq29, hF⟩ := bnd hF
  refine ne (E_call fn107 rfl (c_107 H gle  r3 r6 r9 hq29)) rfl rfl ?_
  rintro _ wd32 ⟨x31, rfl, rfl, H⟩
  try dsimp only at hF
  refine nq (Q_assign rfl) rfl rfl <| WL_nil <| x_then <| C_ret ?_
  replace H := H.drop 0 rfl
  dsimp only [List.eraseIdx] at H
  obtain rfl := Option.some.inj hF
  exact fn_ret (l := [.tmp 6]) (vs := [.int .i64 x31]) rfl rfl rfl ⟨x31, rfl, rfl, H⟩
theorem c_60 {N : Nat} {C : Cx} {w : World} {ρ : View} {hs : List Hl} {gV : Nat → Value} {v1 : Value} {v4 : Value} {v7 : Value} {x2 : (List (List Int))} {x5 : (List Int)} {x8 : (List Int)} {x10 : Int} (H : Hp C w ρ (hs)) (gle : GErrs ρ 394 errIds gV) (r3 : RdSl ρ (eA 256 (eI .i64)) v1 x2) (r6 : RdSl ρ (eI .i64) v4 x5) (r9 : RdSl ρ (eI .i64) v7 x8) {r : Int} (hF : F_subset_DFA_Begin N x2 x5 x8 x10 = some r) :
  Calls Tryz.prog 60 [.agg #[v1, v4, v7], .int .i64 x10].toArray w (Rets (fun v w' => (∃ (x21 : Int), x21 = r ∧ .int .i64 x21 = v ∧ Hp C w' ρ (hs)))) := by
 unfold F_subset_DFA_Begin at hF
 have h0 : Tryz.f60.body = some _ := rfl
 refine fn_calls' Tryz.func60 h0 (n := 11) rfl (by simp) <| C_seq <| R_nd <| ne (E_box H (vs := [v1, v4, v7]) rfl rfl) rfl rfl ?_
 rintro _ wd23 ⟨b22, rfl, H⟩
 refine nq (Q_assign rfl) rfl rfl <| WL_nil <| x_then <| C_seq <| C_seq <| R_nd <| nq (v := .agg #[v1, v4, v7]) (Q_ldB (k := 0) (cs := [v1, v4, v7]) H.ok rfl ty78 rfl rfl rfl (fun h => nomatch h) rfl) rfl rfl ?_
 obtain ⟨q24, hq24, hF⟩ := bnd hF
 refine ne (E_call fn57 rfl (c_57 H gle  r3 r6 r9 hq24)) rfl rfl ?_
 rintro _ wd27 ⟨x26, rfl, rfl, H⟩
 try dsimp only at hF
 refine nq (Q_not rfl) rfl rfl <| WL_nil <| x_then ?_
 refine C_cond rfl (fun hb => ?_) (fun hb => ?_)
 ·replace hF := itT hb hF
  refine C_seq <| R_nd <| nq (Q_assign rfl) rfl rfl <| WL_nil <| x_then <| C_ret <| x_then_ret ?_
  replace H := H.drop 0 rfl
  dsimp only [List.eraseIdx] at H
  obtain rfl := Option.some.inj hF
  exact fn_ret (l := [.tmp 4]) (vs := [.int .i64 0]) rfl rfl rfl ⟨0, rfl, rfl, H⟩
 ·replace hF := itF hb hF
  refine C_skip <| x_then <| C_seq <| R_nd <| nq (v := .agg #[v1, v4, v7]) (Q_ldB (k := 0) (cs := [v1, v4, v7]) H.ok rfl ty78 rfl rfl rfl (fun h => nomatch h) rfl) rfl rfl <| nq (Q_move rfl) rfl rfl ?_
  obtain ⟨q28, hq28, hF⟩ := bnd hF
  refine ne (E_call fn106 rfl (c_106 H gle  r3 r6 r9 hq28)) rfl rfl ?_
  rintro _ wd31 ⟨x30, rfl, rfl, H⟩
  try dsimp only at hF
  refine nq (Q_assign rfl) rfl rfl <| WL_nil <| x_then <| C_ret ?_
  replace H := H.drop 0 rfl
  dsimp only [List.eraseIdx] at H
  obtain rfl := Option.some.inj hF
  exact fn_ret (l := [.tmp 4]) (vs := [.int .i64 x30]) rfl rfl rfl ⟨x30, rfl, rfl, H⟩
theorem c_61 {N : Nat} {C : Cx} {w : World} {ρ : View} {hs : List Hl} {gV : Nat → Value} {v1 : Value} {v4 : Value} {v7 : Value} {v11 : Value} {x2 : (List (List Int))} {x5 : (List Int)} {x8 : (List Int)} {x10 : Int} {x12 : (List Int)} (H : Hp C w ρ (hs)) (_gle : GErrs ρ 394 errIds gV) (r3 : RdSl ρ (eA 256 (eI .i64)) v1 x2) (_r6 : RdSl ρ (eI .i64) v4 x5) (r9 : RdSl ρ (eI .i64) v7 x8) (r13 : RdSl ρ (eI .u8) v11 x12) {r : (List Int)} (hF : F_dofferref17_Trace N x2 x5 x8 x10 x12 = some r) :
  Calls Tryz.prog 61 [.agg #[v1, v4, v7], .int .i64 x10, v11].toArray w (Rets (fun v w' => (∃ (v252 : Value) (c253 : (List Value)) (x254 : (List Int)), x254 = r ∧ v252 = v ∧ rdL (eI .i64) ρ x254 c253 ∧ Hp C w' ρ (Arr v252 1 c253 :: hs)))) := by
 unfold F_dofferref17_Trace at hF
 have h0 : Tryz.f61.body = some _ := rfl
 refine fn_calls' Tryz.func61 h0 (n := 46) rfl (by simp) <| C_seq <| R_nd <| ne (E_box H (vs := [v1, v4, v7]) rfl rfl) rfl rfl ?_
 rintro _ wd257 ⟨b256, rfl, H⟩
 refine nq (Q_assign rfl) rfl rfl <| WL_nil <| x_then <| C_seq <| R_nd <| nq (Q_assign rfl) rfl rfl <| WL_nil <| x_then <| C_seq ?_
 obtain ⟨o259, ho259, hF⟩ := bnd hF
 refine C_cut (fun a w' => ∃ (x258 : Bool), x258 = o259 ∧ Fr 46 a [(1, .int .i64 x10), (2, v11), (3, .pointer (some ⟨b256, 0, none⟩)), (7, .int .i64 0), (19, .bool x258)] ∧ Hp C w' ρ (Box b256 [v1, v4, v7] :: hs)) ?_ ?_
 ·refine R_nd <| nq (Q_move rfl) rfl rfl <| nq (Q_geq rfl rfl) rfl rfl <| nq (Q_move rfl) rfl rfl ?_
  rcases Bool.eq_false_or_eq_true (decide (x10 ≥ 0)) with hb | hb
  ·rw [hb]
   replace ho259 := itT hb ho259
   refine gq (Q_move rfl) rfl rfl rfl <| gq (v := .pointer (some ⟨b256, 2, none⟩)) (Q_fld Tryz.underlying81 rfl ty23 (by decide) rfl rfl) rfl rfl rfl <| gq (v := v7) (Q_ldB (k := 0) (cs := [v7]) H.ok rfl ty23 rfl rfl rfl (fun _ => rfl) rfl) rfl rfl rfl <| gq (Q_len Tryz.underlying23 rfl r9) rfl rfl rfl <| gq (Q_lss rfl rfl) rfl rfl rfl <| nq (Q_pickT rfl rfl) rfl rfl <| WL_nil ?_
   obtain rfl := Option.some.inj ho259
   refine x_A fun a hf => ⟨decide (x10 < (x8.length : Int)), rfl, hf.sub ⟨rfl, rfl, rfl, rfl, rfl, trivial⟩, H⟩
  ·rw [hb]
   replace ho259 := itF hb ho259
   refine gs rfl rfl rfl rfl <| gs rfl rfl rfl rfl <| gs rfl rfl rfl rfl <| gs rfl rfl rfl rfl <| gs rfl rfl rfl rfl <| nq (Q_pickF rfl rfl) rfl rfl <| WL_nil ?_
   obtain rfl := Option.some.inj ho259
   refine x_A fun a hf => ⟨false, rfl, hf.sub ⟨rfl, rfl, rfl, rfl, rfl, trivial⟩, H⟩
 ·rintro a wd260 ⟨x258, rfl, hf, H⟩
  try dsimp only at hF
  refine CW.at hf ?_
  obtain ⟨o269, ho269, hF⟩ := bnd hF
  refine C_cutQ (fun a w' => ∃ (x268 : Int), x268 = o269 ∧ Fr 46 a [(2, v11), (3, .pointer (some ⟨b256, 0, none⟩)), (7, .int .i64 x268)] ∧ Hp C w' ρ (Box b256 [v1, v4, v7] :: hs)) ?_ ?_
  ·refine C_cond rfl (fun hb => ?_) (fun hb => ?_)
   ·replace ho269 := itT hb ho269
    refine R_nd <| nq (v := .pointer (some ⟨b256, 2, none⟩)) (Q_fld Tryz.underlying81 rfl ty23 (by decide) rfl rfl) rfl rfl <| nq (v := v7) (Q_ldB (k := 0) (cs := [v7]) H.ok rfl ty23 rfl rfl rfl (fun _ => rfl) rfl) rfl rfl <| nq (Q_move rfl) rfl rfl ?_
    obtain ⟨x270, hx270, ho269⟩ := bnd ho269
    obtain ⟨b271, o272, c273, hc274, ha275, hi276⟩ := idxR r9 hx270
    refine nq (Q_idx hi276 Tryz.underlying23 ty3 rfl rfl) rfl rfl <| nq (v := .int .i64 x270) (Q_ld (show cellsAt _ _ _ [.int .i64 x270] from (show _ = [_] from hc274) ▸ (ha275.up H.ok.view)) ty3 rfl (fun _ => rfl) rfl rfl) rfl rfl <| nq (Q_assign rfl) rfl rfl <| WL_nil ?_
    obtain rfl := Option.some.inj ho269
    refine x_A fun a hf => ⟨x270, rfl, hf.sub ⟨rfl, rfl, rfl, trivial⟩, H⟩
   ·replace ho269 := itF hb ho269
    refine C_skip ?_
    obtain rfl := Option.some.inj ho269
    refine x_A fun a hf => ⟨0, rfl, hf.sub ⟨rfl, rfl, rfl, trivial⟩, H⟩
  ·rintro a wd277 ⟨x268, rfl, hf, H⟩
   try dsimp only at hF
   refine XX.at hf <| x_then <| C_seq <| R_nd <| nq (Q_move rfl) rfl rfl <| ne (E_bslice (xs := [.tmp 25]) (vs := [.int .i64 x268]) H Tryz.underlying23 ty3 (by decide) (cs := [.int .i64 x268]) rfl (sz_cons rfl sz_nil) rfl (by simp) (by simp) rfl rfl) rfl rfl ?_
   rintro _ wd279 ⟨b278, rfl, H⟩
   refine nq (Q_assign rfl) rfl rfl <| WL_nil <| x_then <| C_seq <| C_seq <| R_nd <| nq (Q_move rfl) rfl rfl <| nq (Q_len Tryz.underlying42 rfl r13) rfl rfl <| nq (Q_move rfl) rfl rfl <| WL_nil <| x_then ?_
   obtain ⟨o387, ho387, hF⟩ := bnd hF
   refine C_cutQ (fun a w' => ∃ (v383 : Value) (c384 : (List Value)) (x385 : (List Int)), x385 = o387 ∧ rdL (eI .i64) ρ x385 c384 ∧ Fr 46 a [(8, v383)] ∧ Hp C w' ρ (Arr v383 1 c384 :: hs)) ?_ ?_
   ·refine C_block ?_
    replace H := H.f1
    refine C_iter (f := fun s => F_dofferref17_Trace_l0 N x2 x12 s.1 s.2.1 s.2.2) ho387 (fun s a w' => ∃ (v423 : Value) (c424 : (List Value)) (x421 : Int) (x422 : Int) (x425 : (List Int)), (x421, x422, x425) = s ∧ rdL (eI .i64) ρ x425 c424 ∧ Fr 46 a [(3, .pointer (some ⟨b256, 0, none⟩)), (7, .int .i64 x422), (8, v423), (27, v11), (28, .int .i64 (x12.length : Int)), (29, .int .i64 x421)] ∧ Hp C w' ρ (Box b256 [v1, v4, v7] :: Arr v423 1 c424 :: hs)) ?_ ?_
    ·exact fun a hf => ⟨(.slice (some ⟨b278, 0, none⟩) 1 1), [.int .i64 x268], 0, x268, [x268], rfl, (show rdL (eI .i64) ρ ([x268]) ([.int .i64 x268]) from ⟨([.int .i64 x268]), _, rfl, rfl, rdL.nil⟩), hf.sub ⟨rfl, rfl, rfl, rfl, rfl, rfl, trivial⟩, H⟩
    ·rintro s o460 a wd463 ⟨v423, c424, x421, x422, x425, rfl, r426, hf, H⟩ hB461 hO462
     replace hB461 : F_dofferref17_Trace_l0 N x2 x12 x421 x422 x425 = some o460 := hB461
     unfold F_dofferref17_Trace_l0 at hB461
     refine CW.at hf <| C_seq <| R_nd <| nq (Q_lss rfl rfl) rfl rfl <| WL_nil <| x_then <| C_seq ?_
     refine C_cond rfl (fun hb => ?_) (fun hb => ?_)
     ·replace hB461 := itT hb hB461
      refine C_skip <| x_then <| C_seq <| C_block <| C_seq <| R_nd ?_
      obtain ⟨x464, hx464, hB461⟩ := bnd hB461
      obtain ⟨b465, o466, c467, hc468, ha469, hi470⟩ := idxR r13 hx464
      refine nq (Q_idx hi470 Tryz.underlying42 ty5 rfl rfl) rfl rfl <| nq (v := .int .u8 x464) (Q_ld (show cellsAt _ _ _ [.int .u8 x464] from (show _ = [_] from hc468) ▸ (ha469.up H.ok.view)) ty5 rfl (fun _ => rfl) rfl rfl) rfl rfl <| nq (Q_assign rfl) rfl rfl <| WL_nil <| x_then <| C_seq <| R_nd <| nq (v := .pointer (some ⟨b256, 0, none⟩)) (Q_fld Tryz.underlying81 rfl ty79 (by decide) rfl rfl) rfl rfl <| nq (v := v1) (Q_ldB (k := 0) (cs := [v1]) H.ok rfl ty79 rfl rfl rfl (fun _ => rfl) rfl) rfl rfl <| nq (Q_move rfl) rfl rfl <| nq (Q_move rfl) rfl rfl ?_
      obtain ⟨x471, hx471, hB461⟩ := bnd hB461
      obtain ⟨b472, o473, c474, hc475, ha476, hi477⟩ := idxR r3 hx471
      refine nq (Q_idx hi477 Tryz.underlying79 ty87 rfl rfl) rfl rfl ?_
      obtain ⟨x478, hx478, hB461⟩ := bnd hB461
      have hn479 := idx_lt hc475.1 hx478
      refine nq (Q_idxA hn479.1 hn479.2 Tryz.underlying87 ty3 rfl rfl) rfl rfl ?_
      obtain ⟨c480, hc481, ha482, _⟩ := arrR hc475 ha476 hx478
      refine nq (v := .int .i64 x478) (Q_ld (show cellsAt _ _ _ [.int .i64 x478] from (show _ = [_] from hc481) ▸ (ha482.up H.ok.view)) ty3 rfl (fun _ => rfl) rfl rfl) rfl rfl <| nq (Q_assign rfl) rfl rfl <| WL_nil <| x_then <| R_nd <| nq (Q_move rfl) rfl rfl <| nq (Q_move rfl) rfl rfl <| ne (E_bslice (xs := [.tmp 41]) (vs := [.int .i64 x478]) H Tryz.underlying23 ty3 (by decide) (cs := [.int .i64 x478]) rfl (sz_cons rfl sz_nil) rfl (by simp) (by simp) rfl rfl) rfl rfl ?_
      rintro _ wd484 ⟨b483, rfl, H⟩
      obtain ⟨x485, hx485, hB461⟩ := bnd hB461
      obtain ⟨ha486a, ha486b⟩ := app_some hx485
      have r488 : rdL (eI .i64) ρ x485 (c424 ++ ([.int .i64 x478])) := ha486b ▸ rdL.app r426 (show rdL (eI .i64) ρ ([x478]) ([.int .i64 x478]) from ⟨([.int .i64 x478]), _, rfl, rfl, rdL.nil⟩)
      refine ne (E_append (k := 2) H rfl Tryz.underlying23 ty3 rfl (by decide) (by decide) rfl rfl (Src.ofArr (k := 0) H.ok rfl) (rdL.one (show rdL (eI .i64) ρ ([x478]) ([.int .i64 x478]) from ⟨([.int .i64 x478]), _, rfl, rfl, rdL.nil⟩)) (app_fit r426 (show rdL (eI .i64) ρ ([x478]) ([.int .i64 x478]) from ⟨([.int .i64 x478]), _, rfl, rfl, rdL.nil⟩) ha486a)) rfl rfl ?_
      rintro v487 wd490 ⟨H, hc489⟩
      dsimp only [List.set] at H
      refine nq (Q_assign rfl) rfl rfl <| WL_nil <| x_block <| x_then <| R_nd <| nq (Q_add rfl rfl) rfl rfl <| nq (Q_move rfl) rfl rfl <| WL_nil ?_
      replace H := H.f2
      replace H := H.f2
      replace H := H.drop 2 rfl
      dsimp only [List.eraseIdx] at H
      obtain rfl := Option.some.inj hB461
      refine x_A fun a hf => ⟨_, rfl, v487, (c424 ++ ([.int .i64 x478])), w64 (x421 + 1), x478, x485, rfl, r488, hf.sub ⟨rfl, rfl, rfl, rfl, rfl, rfl, trivial⟩, H⟩
     ·replace hB461 := itF hb hB461
      refine C_exit <| x_then_exit <| x_then_exit <| x_block_exit ?_
      replace H := H.f1
      replace H := H.drop 1 rfl
      dsimp only [List.eraseIdx] at H
      obtain rfl := Option.some.inj hB461
      obtain rfl := hO462 _ rfl
      refine x_A fun a hf => ⟨v423, c424, x425, rfl, r426, hf.sub ⟨rfl, trivial⟩, H⟩
   ·rintro a wd491 ⟨v383, c384, x385, rfl, r386, hf, H⟩
    try dsimp only at hF
    refine XX.at hf <| x_then <| C_seq <| R_nd <| nq (Q_move rfl) rfl rfl <| nq (Q_assign rfl) rfl rfl <| WL_nil <| x_then <| C_ret ?_
    obtain rfl := Option.some.inj hF
    exact fn_ret (l := [.tmp 6]) (vs := [v383]) rfl rfl rfl ⟨v383, c384, x385, rfl, rfl, r386, H⟩
theorem c_62 {N : Nat} {C : Cx} {w : World} {ρ : View} {hs : List Hl} {gV : Nat → Value} {v1 : Value} {v4 : Value} {v7 : Value} {v11 : Value} {x2 : (List (List Int))} {x5 : (List Int)} {x8 : (List Int)} {x10 : Int} {x12 : (List Int)} {x14 : Int} {x15 : Int} (H : Hp C w ρ (hs)) (gle : GErrs ρ 394 errIds gV) (r3 : RdSl ρ (eA 256 (eI .i64)) v1 x2) (r6 : RdSl ρ (eI .i64) v4 x5) (r9 : RdSl ρ (eI .i64) v7 x8) (r13 : RdSl ρ (eI .u8) v11 x12) {r : (Int × Int)} (hF : F_dofferref17_Longest N x2 x5 x8 x10 x12 x14 x15 = some r) :
  Calls Tryz.prog 62 [.agg #[v1, v4, v7], .int .i64 x10, v11, .int .i64 x14, .int .i64 x15].toArray w (Rets (fun v w' => (∃ (x643 : Int) (x644 : Int), (x643, x644) = r ∧ .tuple [.int .i64 x643, .int .i64 x644].toArray = v ∧ Hp C w' ρ (hs)))) := by
 unfold F_dofferref17_Longest at hF
 have h0 : Tryz.f62.body = some _ := rfl
 refine fn_calls' Tryz.func62 h0 (n := 60) rfl (by simp) <| C_seq <| R_nd <| ne (E_box H (vs := [v1, v4, v7]) rfl rfl) rfl rfl ?_
 rintro _ wd646 ⟨b645, rfl, H⟩
 refine nq (Q_assign rfl) rfl rfl <| nq (Q_assign rfl) rfl rfl <| WL_nil <| x_then <| C_seq <| R_nd <| nq (Q_assign rfl) rfl rfl <| nq (Q_assign rfl) rfl rfl <| WL_nil <| x_then <| C_seq ?_
 obtain ⟨o648, ho648, hF⟩ := bnd hF
 refine C_cut (fun a w' => ∃ (x647 : Bool), x647 = o648 ∧ Fr 60 a [(1, .int .i64 x10), (2, v11), (3, .int .i64 x14), (4, .int .i64 x15), (5, .pointer (some ⟨b645, 0, none⟩)), (12, .int .i64 0), (13, .int .i64 (-1)), (23, .bool x647)] ∧ Hp C w' ρ (Box b645 [v1, v4, v7] :: hs)) ?_ ?_
 ·refine R_nd <| nq (Q_move rfl) rfl rfl <| nq (Q_lss rfl rfl) rfl rfl <| nq (Q_move rfl) rfl rfl ?_
  rcases Bool.eq_false_or_eq_true (decide (x14 < 0)) with hb | hb
  ·rw [hb]
   replace ho648 := itT hb ho648
   refine gs rfl rfl rfl rfl <| gs rfl rfl rfl rfl <| gs rfl rfl rfl rfl <| gs rfl rfl rfl rfl <| nq (Q_pickT rfl rfl) rfl rfl <| WL_nil ?_
   obtain rfl := Option.some.inj ho648
   refine x_A fun a hf => ⟨true, rfl, hf.sub ⟨rfl, rfl, rfl, rfl, rfl, rfl, rfl, rfl, trivial⟩, H⟩
  ·rw [hb]
   replace ho648 := itF hb ho648
   refine gq (Q_move rfl) rfl rfl rfl <| gq (Q_move rfl) rfl rfl rfl <| gq (Q_len Tryz.underlying42 rfl r13) rfl rfl rfl <| gq (Q_gtr rfl rfl) rfl rfl rfl <| nq (Q_pickF rfl rfl) rfl rfl <| WL_nil ?_
   obtain rfl := Option.some.inj ho648
   refine x_A fun a hf => ⟨decide (x14 > (x12.length : Int)), rfl, hf.sub ⟨rfl, rfl, rfl, rfl, rfl, rfl, rfl, rfl, trivial⟩, H⟩
 ·rintro a wd649 ⟨x647, rfl, hf, H⟩
  try dsimp only at hF
  refine CW.at hf ?_
  refine C_cond rfl (fun hb => ?_) (fun hb => ?_)
  ·replace hF := itT hb hF
   refine C_seq <| R_nd <| nq (Q_assign rfl) rfl rfl <| nq (Q_assign rfl) rfl rfl <| WL_nil <| x_then <| C_ret <| x_then_ret ?_
   replace H := H.drop 0 rfl
   dsimp only [List.eraseIdx] at H
   obtain rfl := Option.some.inj hF
   exact fn_ret (l := [.tmp 10, .tmp 11]) (vs := [.int .i64 0, .int .i64 (-1)]) rfl rfl rfl ⟨0, (-1), rfl, rfl, H⟩
  ·replace hF := itF hb hF
   refine C_skip <| x_then <| C_seq <| C_seq <| R_dr (.take 0 (.take 1 (.take 2 (.take 3 (.take 4 (.take 7 (.one 5 (.one 6 .done)))))))) (fun w' => Ok w' ρ [Box b645 [v1, v4, v7]]) (by kernel_rfl) (by kernel_rfl) (by kernel_rfl) (H.drew.okS (by simp)) ?_
   replace H := H.drew
   refine dq (v := .agg #[v1, v4, v7]) rfl (fun _ hw => Q_ldB (k := 0) (cs := [v1, v4, v7]) hw rfl ty81 rfl rfl rfl (fun h => nomatch h) rfl) rfl rfl <| dq rfl (fun _ _ => Q_move rfl) rfl rfl <| dq rfl (fun _ _ => Q_move rfl) rfl rfl <| dq rfl (fun _ _ => Q_move rfl) rfl rfl ?_
   obtain ⟨x650, hx650, hF⟩ := bnd hF
   obtain ⟨hs651a, hs651b, hs651c, hs651d⟩ := slc_some hx650
   obtain ⟨v652, r653, hq654⟩ := sliceR r13 hs651a hs651b hs651c
   rw [← hs651d] at r653
   refine dq (v := v652) rfl (fun _ _ => hq654 _ _ _ _ _ _ _ _ _ _ _ _ _ _ _ Tryz.underlying42 ty5 rfl ⟨_, rfl⟩ rfl) rfl rfl <| dq rfl (fun _ _ => Q_move rfl) rfl rfl ?_
   obtain ⟨q655, hq655, hF⟩ := bnd hF
   refine d1 (de rfl (E_call fn61 rfl (c_61 H gle  r3 r6 r9 r653 hq655)) rfl rfl ?_)
   rintro _ wd661 ⟨v657, c658, x659, rfl, rfl, r660, H⟩
   try dsimp only at hF
   refine ⟨H.okS (by simp), ?_⟩
   refine d1 (de rfl (Eff.quiet (v := .int .i64 (x659.length : Int)) (Q_lenA (k := 0) H.ok rfl r660 (by decide) Tryz.underlying23 rfl)) rfl rfl ?_)
   rintro _ _ ⟨rfl, rfl⟩
   refine ⟨H.okS (by simp), ?_⟩
   refine DL_nil <| x_then ?_
   obtain ⟨o967, ho967, hF⟩ := bnd hF
   refine C_cutQ (fun a w' => ∃ (x965 : Int) (x966 : Int), (x965, x966) = o967 ∧ Fr 60 a [(12, .int .i64 x965), (13, .int .i64 x966)] ∧ Hp C w' ρ (hs)) ?_ ?_
   ·refine C_block ?_
    replace H := H.f1
    replace H := H.f1
    refine C_iter (f := fun s => F_dofferref17_Longest_l0 N x5 x15 x659 s.1 s.2.1 s.2.2) ho967 (fun s a w' => ∃ (x1085 : Int) (x1086 : Int) (x1087 : Int), (x1085, x1086, x1087) = s ∧ Fr 60 a [(4, .int .i64 x15), (5, .pointer (some ⟨b645, 0, none⟩)), (12, .int .i64 x1085), (13, .int .i64 x1086), (29, v657), (30, .int .i64 (x659.length : Int)), (31, .int .i64 x1087)] ∧ Hp C w' ρ (Arr v657 1 c658 :: Box b645 [v1, v4, v7] :: hs)) ?_ ?_
    ·exact fun a hf => ⟨0, (-1), 0, rfl, hf.sub ⟨rfl, rfl, rfl, rfl, rfl, rfl, rfl, trivial⟩, H⟩
    ·rintro s o1179 a wd1182 ⟨x1085, x1086, x1087, rfl, hf, H⟩ hB1180 hO1181
     replace hB1180 : F_dofferref17_Longest_l0 N x5 x15 x659 x1085 x1086 x1087 = some o1179 := hB1180
     unfold F_dofferref17_Longest_l0 at hB1180
     refine CW.at hf <| C_seq <| R_nd <| nq (Q_lss rfl rfl) rfl rfl <| WL_nil <| x_then <| C_seq ?_
     refine C_cond rfl (fun hb => ?_) (fun hb => ?_)
     ·replace hB1180 := itT hb hB1180
      refine C_skip <| x_then ?_
      obtain ⟨o1227, ho1227, hB1180⟩ := bnd hB1180
      refine C_cut (fun a w' => ∃ (x1225 : Int) (x1226 : Int), (x1225, x1226) = o1227 ∧ Fr 60 a [(4, .int .i64 x15), (5, .pointer (some ⟨b645, 0, none⟩)), (12, .int .i64 x1225), (13, .int .i64 x1226), (29, v657), (30, .int .i64 (x659.length : Int)), (31, .int .i64 x1087)] ∧ Hp C w' ρ (Arr v657 1 c658 :: Box b645 [v1, v4, v7] :: hs)) ?_ ?_
      ·refine C_block <| C_seq <| R_nd <| nq (Q_move rfl) rfl rfl ?_
       obtain ⟨x1228, hx1228, ho1227⟩ := bnd ho1227
       obtain ⟨b1229, o1230, hi1234, hc1232, ha1233⟩ := arr_at (hs := [Arr v657 1 c658]) (k := 0) (by decide) (H.okS (by simp)) rfl r660 hx1228
       refine nq (Q_idx hi1234 Tryz.underlying23 ty3 rfl rfl) rfl rfl <| nq (v := .int .i64 x1228) (Q_ld (show cellsAt _ _ _ [.int .i64 x1228] from (show _ = [_] from hc1232) ▸ (ha1233 _ (Ok.subS (by simp) H.ok))) ty3 rfl (fun _ => rfl) rfl rfl) rfl rfl <| nq (Q_assign rfl) rfl rfl <| nq (Q_assign rfl) rfl rfl <| WL_nil <| x_then ?_
       obtain ⟨o1243, ho1243, ho1227⟩ := bnd ho1227
       refine C_cut (fun a w' => ∃ (x1242 : Bool), x1242 = o1243 ∧ Fr 60 a [(4, .int .i64 x15), (5, .pointer (some ⟨b645, 0, none⟩)), (12, .int .i64 x1085), (13, .int .i64 x1086), (14, .int .i64 x1087), (15, .int .i64 x1228), (29, v657), (30, .int .i64 (x659.length : Int)), (31, .int .i64 x1087), (50, .bool x1242)] ∧ Hp C w' ρ (Arr v657 1 c658 :: Box b645 [v1, v4, v7] :: hs)) ?_ ?_
       ·refine R_nd <| nq (Q_move rfl) rfl rfl <| nq (Q_gtr rfl rfl) rfl rfl <| nq (Q_move rfl) rfl rfl ?_
        rcases Bool.eq_false_or_eq_true (decide (x1087 > 0)) with hb | hb
        ·rw [hb]
         replace ho1243 := itT hb ho1243
         refine gq (Q_move rfl) rfl rfl rfl <| gq (Q_move rfl) rfl rfl rfl <| gq (Q_leq rfl rfl) rfl rfl rfl <| nq (Q_pickT rfl rfl) rfl rfl <| nq (Q_move rfl) rfl rfl ?_
         rcases Bool.eq_false_or_eq_true (decide (x1087 ≤ x15)) with hb | hb
         ·rw [hb]
          replace ho1243 := itT hb ho1243
          refine gq (v := .pointer (some ⟨b645, 1, none⟩)) (Q_fld Tryz.underlying81 rfl ty23 (by decide) rfl rfl) rfl rfl rfl <| gq (v := v4) (Q_ldB (k := 1) (cs := [v4]) H.ok rfl ty23 rfl rfl rfl (fun _ => rfl) rfl) rfl rfl rfl <| gq (Q_move rfl) rfl rfl rfl ?_
          obtain ⟨x1244, hx1244, ho1243⟩ := bnd ho1243
          obtain ⟨b1245, o1246, c1247, hc1248, ha1249, hi1250⟩ := idxR r6 hx1244
          refine gq (Q_idx hi1250 Tryz.underlying23 ty3 rfl rfl) rfl rfl rfl <| gq (v := .int .i64 x1244) (Q_ld (show cellsAt _ _ _ [.int .i64 x1244] from (show _ = [_] from hc1248) ▸ (ha1249.up H.ok.view)) ty3 rfl (fun _ => rfl) rfl rfl) rfl rfl rfl <| gq (Q_geq rfl rfl) rfl rfl rfl <| nq (Q_pickT rfl rfl) rfl rfl <| WL_nil ?_
          replace H := H.f1
          replace H := H.f1
          obtain rfl := Option.some.inj ho1243
          refine x_A fun a hf => ⟨decide (x1244 ≥ 0), rfl, hf.sub ⟨rfl, rfl, rfl, rfl, rfl, rfl, rfl, rfl, rfl, rfl, trivial⟩, H⟩
         ·rw [hb]
          replace ho1243 := itF hb ho1243
          refine gs rfl rfl rfl rfl <| gs rfl rfl rfl rfl <| gs rfl rfl rfl rfl <| gs rfl rfl rfl rfl <| gs rfl rfl rfl rfl <| gs rfl rfl rfl rfl <| nq (Q_pickF rfl rfl) rfl rfl <| WL_nil ?_
          replace H := H.f1
          replace H := H.f1
          obtain rfl := Option.some.inj ho1243
          refine x_A fun a hf => ⟨false, rfl, hf.sub ⟨rfl, rfl, rfl, rfl, rfl, rfl, rfl, rfl, rfl, rfl, trivial⟩, H⟩
        ·rw [hb]
         replace ho1243 := itF hb ho1243
         refine gs rfl rfl rfl rfl <| gs rfl rfl rfl rfl <| gs rfl rfl rfl rfl <| nq (Q_pickF rfl rfl) rfl rfl <| nq (Q_move rfl) rfl rfl <| gs rfl rfl rfl rfl <| gs rfl rfl rfl rfl <| gs rfl rfl rfl rfl <| gs rfl rfl rfl rfl <| gs rfl rfl rfl rfl <| gs rfl rfl rfl rfl <| nq (Q_pickF rfl rfl) rfl rfl <| WL_nil ?_
         replace H := H.f1
         replace H := H.f1
         obtain rfl := Option.some.inj ho1243
         refine x_A fun a hf => ⟨false, rfl, hf.sub ⟨rfl, rfl, rfl, rfl, rfl, rfl, rfl, rfl, rfl, rfl, trivial⟩, H⟩
       ·rintro a wd1251 ⟨x1242, rfl, hf, H⟩
        try dsimp only at ho1227
        refine CW.at hf ?_
        obtain ⟨o1261, ho1261, ho1227⟩ := bnd ho1227
        refine C_cutQ (fun a w' => ∃ (x1259 : Int) (x1260 : Int), (x1259, x1260) = o1261 ∧ Fr 60 a [(4, .int .i64 x15), (5, .pointer (some ⟨b645, 0, none⟩)), (12, .int .i64 x1259), (13, .int .i64 x1260), (29, v657), (30, .int .i64 (x659.length : Int)), (31, .int .i64 x1087)] ∧ Hp C w' ρ (Arr v657 1 c658 :: Box b645 [v1, v4, v7] :: hs)) ?_ ?_
        ·refine C_cond rfl (fun hb => ?_) (fun hb => ?_)
         ·replace ho1261 := itT hb ho1261
          refine R_dr (.take 0 (.take 1 (.take 2 (.take 3 (.take 4 (.take 5 (.take 6 (.take 7 .done)))))))) (fun w' => Ok w' ρ [Arr v657 1 c658, Box b645 [v1, v4, v7]]) (by kernel_rfl) (by kernel_rfl) (by kernel_rfl) (H.drew.okS (by simp)) ?_
          replace H := H.drew
          refine dq rfl (fun _ _ => Q_move rfl) rfl rfl <| dq (v := .pointer (some ⟨b645, 1, none⟩)) rfl (fun _ _ => Q_fld Tryz.underlying81 rfl ty23 (by decide) rfl rfl) rfl rfl <| dq (v := v4) rfl (fun _ hw => Q_ldB (k := 1) (cs := [v4]) hw rfl ty23 rfl rfl rfl (fun _ => rfl) rfl) rfl rfl <| dq rfl (fun _ _ => Q_move rfl) rfl rfl ?_
          obtain ⟨x1262, hx1262, ho1261⟩ := bnd ho1261
          obtain ⟨b1263, o1264, c1265, hc1266, ha1267, hi1268⟩ := idxR r6 hx1262
          refine dq rfl (fun _ _ => Q_idx hi1268 Tryz.underlying23 ty3 rfl rfl) rfl rfl <| dq (v := .int .i64 x1262) rfl (fun _ hw => Q_ld (show cellsAt _ _ _ [.int .i64 x1262] from (show _ = [_] from hc1266) ▸ (ha1267.up hw.view)) ty3 rfl (fun _ => rfl) rfl rfl) rfl rfl <| dq rfl (fun _ _ => Q_assign rfl) rfl rfl <| dq rfl (fun _ _ => Q_assign rfl) rfl rfl <| DL_nil ?_
          replace H := H.f1
          replace H := H.f1
          obtain rfl := Option.some.inj ho1261
          refine x_A fun a hf => ⟨x1087, x1262, rfl, hf.sub ⟨rfl, rfl, rfl, rfl, rfl, rfl, rfl, trivial⟩, H⟩
         ·replace ho1261 := itF hb ho1261
          refine C_skip ?_
          replace H := H.f1
          replace H := H.f1
          obtain rfl := Option.some.inj ho1261
          refine x_A fun a hf => ⟨x1085, x1086, rfl, hf.sub ⟨rfl, rfl, rfl, rfl, rfl, rfl, rfl, trivial⟩, H⟩
        ·rintro a wd1269 ⟨x1259, x1260, rfl, hf, H⟩
         try dsimp only at ho1227
         refine XX.at hf <| x_block ?_
         replace H := H.f1
         replace H := H.f1
         obtain rfl := Option.some.inj ho1227
         refine x_A fun a hf => ⟨x1259, x1260, rfl, hf.sub ⟨rfl, rfl, rfl, rfl, rfl, rfl, rfl, trivial⟩, H⟩
      ·rintro a wd1270 ⟨x1225, x1226, rfl, hf, H⟩
       try dsimp only at hB1180
       refine CW.at hf <| R_nd <| nq (Q_add rfl rfl) rfl rfl <| nq (Q_move rfl) rfl rfl <| WL_nil ?_
       replace H := H.f1
       replace H := H.f1
       obtain rfl := Option.some.inj hB1180
       refine x_A fun a hf => ⟨_, rfl, x1225, x1226, w64 (x1087 + 1), rfl, hf.sub ⟨rfl, rfl, rfl, rfl, rfl, rfl, rfl, trivial⟩, H⟩
     ·replace hB1180 := itF hb hB1180
      refine C_exit <| x_then_exit <| x_then_exit <| x_block_exit ?_
      replace H := H.drop 0 rfl
      dsimp only [List.eraseIdx] at H
      replace H := H.drop 0 rfl
      dsimp only [List.eraseIdx] at H
      obtain rfl := Option.some.inj hB1180
      obtain rfl := hO1181 _ rfl
      refine x_A fun a hf => ⟨x1085, x1086, rfl, hf.sub ⟨rfl, rfl, trivial⟩, H⟩
   ·rintro a wd1271 ⟨x965, x966, rfl, hf, H⟩
    try dsimp only at hF
    refine XX.at hf <| x_then <| C_seq <| R_nd <| nq (Q_move rfl) rfl rfl <| nq (Q_move rfl) rfl rfl <| nq (Q_assign rfl) rfl rfl <| nq (Q_assign rfl) rfl rfl <| WL_nil <| x_then <| C_ret ?_
    obtain rfl := Option.some.inj hF
    exact fn_ret (l := [.tmp 10, .tmp 11]) (vs := [.int .i64 x965, .int .i64 x966]) rfl rfl rfl ⟨x965, x966, rfl, rfl, H⟩
theorem c_10 {N : Nat} {C : Cx} {w : World} {ρ : View} {hs : List Hl} {gV : Nat → Value} {v1 : Value} {v4 : Value} {v7 : Value} {v10 : Value} {x2 : (List (List Int))} {x5 : (List Int)} {x8 : (List Int)} {x11 : (List Int)} {x13 : Int} {x14 : Int} {x15 : Int} (H : Hp C w ρ (hs)) (gle : GErrs ρ 394 errIds gV) (gl18 : GTab ρ 18 .u8 tab_math_bits_deBruijn64tab) (r3 : RdSl ρ (eA 256 (eI .i64)) v1 x2) (r6 : RdSl ρ (eI .i64) v4 x5) (r9 : RdSl ρ (eI .i64) v7 x8) (r12 : RdSl ρ (eI .u8) v10 x11) {r : Bool} (hF : F_dofferlaw17_SubsetRuns N x2 x5 x8 x11 x13 x14 x15 = some r) :
  Calls Tryz.prog 10 [.agg #[v1, v4, v7], v10, .agg #[.int .i64 x13, .int .i64 x14, .int .i64 x15]].toArray w (Rets (fun v w' => (∃ (x221 : Bool), x221 = r ∧ .bool x221 = v ∧ Hp C w' ρ (hs)))) := by
 unfold F_dofferlaw17_SubsetRuns at hF
 have h0 : Tryz.f10.body = some _ := rfl
 refine fn_calls' Tryz.func10 h0 (n := 163) rfl (by simp) <| C_seq <| R_nd <| ne (E_box H (vs := [v1, v4, v7]) rfl rfl) rfl rfl ?_
 rintro _ wd223 ⟨b222, rfl, H⟩
 refine ne (E_box H (vs := [.int .i64 x13, .int .i64 x14, .int .i64 x15]) rfl rfl) rfl rfl ?_
 rintro _ wd225 ⟨b224, rfl, H⟩
 refine nq (Q_assign rfl) rfl rfl <| WL_nil <| x_then <| C_seq <| C_seq <| R_nd <| ne (E_call fn45 rfl (Cr.c_run runC45 (fun hl => GTab.up hl gl18) H)) rfl rfl ?_
 rintro _ wd226 ⟨rfl, H⟩
 refine nq (Q_not rfl) rfl rfl <| WL_nil <| x_then ?_
 refine C_cond rfl (fun h => nomatch h) (fun _ => ?_)
 refine C_skip <| x_then <| C_seq <| R_nd <| nq (v := .agg #[v1, v4, v7]) (Q_ldB (k := 1) (cs := [v1, v4, v7]) H.ok rfl ty78 rfl rfl rfl (fun h => nomatch h) rfl) rfl rfl ?_
 obtain ⟨q227, hq227, hF⟩ := bnd hF
 refine ne (E_call fn46 rfl (c_46 H gle  r3 r6 r9 hq227)) rfl rfl ?_
 rintro _ wd234 ⟨v229, c230, x231, x232, rfl, rfl, r233, H⟩
 try dsimp only at hF
 refine nq (Q_move rfl) rfl rfl <| nq (Q_extract rfl rfl) rfl rfl <| nq (Q_extract rfl rfl) rfl rfl <| ne (E_alloc H ty81 (zs := [.slice none 0 0, .slice none 0 0, .slice none 0 0]) rfl) rfl rfl ?_
 rintro _ wd236 ⟨b235, rfl, H⟩
 refine ne (E_stB (k := 0) (cs := [v229, v4, v7]) (vs' := [v229, v4, v7]) H rfl ty81 rfl rfl rfl rfl (one_cons (arr_cells (H.ok.get (k := 1) rfl)).2 (one_cons (RdSl.one r6) (one_cons (RdSl.one r9) one_nil))) (by simp) rfl) rfl rfl ?_
 rintro _ wd237 H
 dsimp only [List.set] at H
 refine nq (Q_assign rfl) rfl rfl <| WL_nil <| x_then <| C_seq ?_
 obtain ⟨o239, ho239, hF⟩ := bnd hF
 refine C_cut (fun a w' => ∃ (x238 : Bool), x238 = o239 ∧ Fr 163 a [(1, v10), (3, .pointer (some ⟨b222, 0, none⟩)), (5, .pointer (some ⟨b224, 0, none⟩)), (7, .pointer (some ⟨b235, 0, none⟩)), (31, .bool x238)] ∧ Hp C w' ρ (Box b222 [v1, v4, v7] :: Box b224 [.int .i64 x13, .int .i64 x14, .int .i64 x15] :: Box b235 [v229, v4, v7] :: Arr v229 256 c230 :: hs)) ?_ ?_
 ·refine R_nd <| nq (Q_move rfl) rfl rfl <| nq (Q_not rfl) rfl rfl <| nq (Q_move rfl) rfl rfl ?_
  rcases Bool.eq_false_or_eq_true (!x232) with hb | hb
  ·rw [hb]
   replace ho239 := itT hb ho239
   refine gs rfl rfl rfl rfl <| gs rfl rfl rfl rfl <| gs rfl rfl rfl rfl <| nq (Q_pickT rfl rfl) rfl rfl <| WL_nil ?_
   replace H := H.f1
   replace H := H.f1
   replace H := H.f2
   replace H := H.f3
   obtain rfl := Option.some.inj ho239
   refine x_A fun a hf => ⟨true, rfl, hf.sub ⟨rfl, rfl, rfl, rfl, rfl, trivial⟩, H⟩
  ·rw [hb]
   replace ho239 := itF hb ho239
   refine gq (Q_move rfl) rfl rfl rfl <| gq (Q_len Tryz.underlying42 rfl r12) rfl rfl rfl <| gq (Q_gtr rfl rfl) rfl rfl rfl <| nq (Q_pickF rfl rfl) rfl rfl <| WL_nil ?_
   replace H := H.f1
   replace H := H.f1
   replace H := H.f2
   replace H := H.f3
   obtain rfl := Option.some.inj ho239
   refine x_A fun a hf => ⟨decide ((x11.length : Int) > 50), rfl, hf.sub ⟨rfl, rfl, rfl, rfl, rfl, trivial⟩, H⟩
 ·rintro a wd240 ⟨x238, rfl, hf, H⟩
  try dsimp only at hF
  refine CW.at hf ?_
  refine C_cond rfl (fun hb => ?_) (fun hb => ?_)
  ·replace hF := itT hb hF
   refine C_seq <| R_nd <| nq (Q_assign rfl) rfl rfl <| WL_nil <| x_then <| C_ret <| x_then_ret ?_
   replace H := H.drop 0 rfl
   dsimp only [List.eraseIdx] at H
   replace H := H.drop 0 rfl
   dsimp only [List.eraseIdx] at H
   replace H := H.drop 0 rfl
   dsimp only [List.eraseIdx] at H
   replace H := H.drop 0 rfl
   dsimp only [List.eraseIdx] at H
   obtain rfl := Option.some.inj hF
   exact fn_ret (l := [.tmp 6]) (vs := [.bool true]) rfl rfl rfl ⟨true, rfl, rfl, H⟩
  ·replace hF := itF hb hF
   refine C_skip <| x_then <| C_seq <| R_dr (.take 0 (.take 1 (.take 2 (.take 3 (.take 4 (.take 5 (.take 6 (.take 7 (.take 8 .done))))))))) (fun w' => Ok w' ρ [Box b222 [v1, v4, v7], Box b224 [.int .i64 x13, .int .i64 x14, .int .i64 x15], Box b235 [v229, v4, v7], Arr v229 256 c230]) (by kernel_rfl) (by kernel_rfl) (by kernel_rfl) (H.drew.okS (by simp)) ?_
   replace H := H.drew
   refine dq (v := .pointer (some ⟨b224, 0, none⟩)) rfl (fun _ _ => Q_idxA (m := 0) (N := 3) (by decide) (by decide) Tryz.underlying43 ty3 rfl rfl) rfl rfl <| dq (v := .int .i64 x13) rfl (fun _ hw => Q_ldB (k := 1) (cs := [.int .i64 x13]) hw rfl ty3 rfl rfl rfl (fun _ => rfl) rfl) rfl rfl <| dq (v := .pointer (some ⟨b224, 1, none⟩)) rfl (fun _ _ => Q_idxA (m := 1) (N := 3) (by decide) (by decide) Tryz.underlying43 ty3 rfl rfl) rfl rfl <| dq (v := .int .i64 x14) rfl (fun _ hw => Q_ldB (k := 1) (cs := [.int .i64 x14]) hw rfl ty3 rfl rfl rfl (fun _ => rfl) rfl) rfl rfl <| dq (v := .pointer (some ⟨b224, 2, none⟩)) rfl (fun _ _ => Q_idxA (m := 2) (N := 3) (by decide) (by decide) Tryz.underlying43 ty3 rfl rfl) rfl rfl <| dq (v := .int .i64 x15) rfl (fun _ hw => Q_ldB (k := 1) (cs := [.int .i64 x15]) hw rfl ty3 rfl rfl rfl (fun _ => rfl) rfl) rfl rfl <| dq rfl (fun _ _ => Q_assign rfl) rfl rfl <| dq rfl (fun _ _ => Q_assign rfl) rfl rfl <| dq rfl (fun _ _ => Q_assign rfl) rfl rfl <| DL_nil <| x_then <| C_seq <| R_nd <| nq (v := .agg #[v1, v4, v7]) (Q_ldB (k := 0) (cs := [v1, v4, v7]) H.ok rfl ty78 rfl rfl rfl (fun h => nomatch h) rfl) rfl rfl ?_
   refine nq (Q_move rfl) rfl rfl <| nq (Q_move rfl) rfl rfl <| nq (Q_move rfl) rfl rfl <| nq (Q_move rfl) rfl rfl ?_
   obtain ⟨q241, hq241, hF⟩ := bnd hF
   refine ne (E_call fn56 rfl (c_56 H gle  r3 r6 r9 r12 hq241)) rfl rfl ?_
   rintro _ wd245 ⟨x243, x244, rfl, rfl, H⟩
   try dsimp only at hF
   refine nq (Q_move rfl) rfl rfl <| nq (Q_extract rfl rfl) rfl rfl <| nq (Q_extract rfl rfl) rfl rfl <| nq (Q_assign rfl) rfl rfl <| nq (Q_assign rfl) rfl rfl <| WL_nil <| x_then <| C_seq <| C_seq <| R_dr (.take 0 (.take 2 (.one 1 (.one 3 (.take 4 .done))))) (fun w' => Ok w' ρ [Box b222 [v1, v4, v7], Box b224 [.int .i64 x13, .int .i64 x14, .int .i64 x15], Box b235 [v229, v4, v7], Arr v229 256 c230]) (by kernel_rfl) (by kernel_rfl) (by kernel_rfl) (H.drew.okS (by simp)) ?_
   replace H := H.drew
   refine dq (v := .agg #[v1, v4, v7]) rfl (fun _ hw => Q_ldB (k := 0) (cs := [v1, v4, v7]) hw rfl ty78 rfl rfl rfl (fun h => nomatch h) rfl) rfl rfl <| dq (v := .agg #[v229, v4, v7]) rfl (fun _ hw => Q_ldB (k := 2) (cs := [v229, v4, v7]) hw rfl ty81 rfl rfl rfl (fun h => nomatch h) rfl) rfl rfl ?_
   obtain ⟨q246, hq246, hF⟩ := bnd hF
   refine d1 (de rfl (E_call fn57 rfl (c_57 H gle  r3 r6 r9 hq246)) rfl rfl ?_)
   rintro _ wd249 ⟨x248, rfl, rfl, H⟩
   try dsimp only at hF
   refine ⟨H.okS (by simp), ?_⟩
   replace H := H.f3
   obtain ⟨q250, hq250, hF⟩ := bnd hF
   obtain ⟨C', ρ', hl251, HA, hL, hback⟩ := Hp.lend (A := []) (L := [Arr v229 256 c230]) (F := Box b222 [v1, v4, v7] :: Box b224 [.int .i64 x13, .int .i64 x14, .int .i64 x15] :: Box b235 [v229, v4, v7] :: hs) H
   refine d1 (de rfl (E_call fn52 rfl (c_52 HA (gle.up hl251)  (arr_rd (by decide) hl251 (hL (Arr v229 256 c230) (by simp)) r233) (r6.up hl251) (r9.up hl251) hq250)) rfl rfl ?_)
   rintro _ wd253 ⟨x252, rfl, rfl, H⟩
   try dsimp only at hF
   replace H := hback H
   dsimp only [List.cons_append, List.nil_append] at H
   refine ⟨H.okS (by simp), ?_⟩
   refine dq (v := .bool (x248 != x252)) rfl (fun _ _ => Q_neqB Tryz.underlying4 rfl rfl) rfl rfl <| DL_nil <| x_then ?_
   refine C_cond rfl (fun hb => ?_) (fun hb => ?_)
   ·replace hF := itT hb hF
    refine C_seq <| R_nd <| nq (Q_assign rfl) rfl rfl <| WL_nil <| x_then <| C_ret <| x_then_ret ?_
    replace H := H.drop 0 rfl
    dsimp only [List.eraseIdx] at H
    replace H := H.drop 0 rfl
    dsimp only [List.eraseIdx] at H
    replace H := H.drop 0 rfl
    dsimp only [List.eraseIdx] at H
    replace H := H.drop 0 rfl
    dsimp only [List.eraseIdx] at H
    obtain rfl := Option.some.inj hF
    exact fn_ret (l := [.tmp 6]) (vs := [.bool false]) rfl rfl rfl ⟨false, rfl, rfl, H⟩
   ·replace hF := itF hb hF
    refine C_skip <| x_then <| C_seq <| C_seq <| R_nd <| nq (v := .agg #[v229, v4, v7]) (Q_ldB (k := 3) (cs := [v229, v4, v7]) H.ok rfl ty81 rfl rfl rfl (fun h => nomatch h) rfl) rfl rfl ?_
    obtain ⟨q254, hq254, hF⟩ := bnd hF
    obtain ⟨C', ρ', hl255, HA, hL, hback⟩ := Hp.lend (A := []) (L := [Arr v229 256 c230]) (F := Box b222 [v1, v4, v7] :: Box b224 [.int .i64 x13, .int .i64 x14, .int .i64 x15] :: Box b235 [v229, v4, v7] :: hs) H
    refine ne (E_call fn52 rfl (c_52 HA (gle.up hl255)  (arr_rd (by decide) hl255 (hL (Arr v229 256 c230) (by simp)) r233) (r6.up hl255) (r9.up hl255) hq254)) rfl rfl ?_
    rintro _ wd257 ⟨x256, rfl, rfl, H⟩
    try dsimp only at hF
    replace H := hback H
    dsimp only [List.cons_append, List.nil_append] at H
    refine nq (Q_not rfl) rfl rfl <| WL_nil <| x_then ?_
    refine C_cond rfl (fun hb => ?_) (fun hb => ?_)
    ·replace hF := itT hb hF
     obtain ⟨o271, ho271, hF⟩ := bnd hF
     refine C_cut (fun a w' => ∃ (x270 : Bool), x270 = o271 ∧ Fr 163 a [(6, .bool x270)] ∧ Hp C w' ρ (hs)) ?_ ?_
     ·refine R_nd <| nq (v := .agg #[v1, v4, v7]) (Q_ldB (k := 1) (cs := [v1, v4, v7]) H.ok rfl ty78 rfl rfl rfl (fun h => nomatch h) rfl) rfl rfl <| nq (Q_move rfl) rfl rfl <| nq (Q_move rfl) rfl rfl ?_
      obtain ⟨q272, hq272, ho271⟩ := bnd ho271
      refine ne (E_call fn58 rfl (c_58 H gle  r3 r6 r9 r12 hq272)) rfl rfl ?_
      rintro _ wd275 ⟨x274, rfl, rfl, H⟩
      try dsimp only at ho271
      refine nq (Q_eql rfl rfl) rfl rfl <| nq (Q_move rfl) rfl rfl ?_
      rcases Bool.eq_false_or_eq_true (x274 == (-1)) with hb | hb
      ·rw [hb]
       replace ho271 := itT hb ho271
       refine gq (Q_move rfl) rfl rfl rfl <| gq (Q_eql rfl rfl) rfl rfl rfl <| nq (Q_pickT rfl rfl) rfl rfl <| nq (Q_move rfl) rfl rfl ?_
       rcases Bool.eq_false_or_eq_true (x243 == 0) with hb | hb
       ·rw [hb]
        replace ho271 := itT hb ho271
        refine gq (Q_move rfl) rfl rfl rfl <| gq (Q_eql rfl rfl) rfl rfl rfl <| nq (Q_pickT rfl rfl) rfl rfl <| nq (Q_move rfl) rfl rfl ?_
        rcases Bool.eq_false_or_eq_true (x244 == (-1)) with hb | hb
        ·rw [hb]
         replace ho271 := itT hb ho271
         refine gq (v := .agg #[v1, v4, v7]) (Q_ldB (k := 1) (cs := [v1, v4, v7]) H.ok rfl ty78 rfl rfl rfl (fun h => nomatch h) rfl) rfl rfl rfl <| gq (Q_move rfl) rfl rfl rfl ?_
         obtain ⟨q276, hq276, ho271⟩ := bnd ho271
         refine ge (E_call fn59 rfl (c_59 H gle  r3 r6 r9 hq276)) rfl rfl rfl ?_
         rintro _ wd279 ⟨x278, rfl, rfl, H⟩
         try dsimp only at ho271
         refine gq (Q_eql rfl rfl) rfl rfl rfl <| nq (Q_pickT rfl rfl) rfl rfl <| nq (Q_move rfl) rfl rfl ?_
         rcases Bool.eq_false_or_eq_true (x278 == 0) with hb | hb
         ·rw [hb]
          replace ho271 := itT hb ho271
          refine gq (v := .agg #[v1, v4, v7]) (Q_ldB (k := 1) (cs := [v1, v4, v7]) H.ok rfl ty78 rfl rfl rfl (fun h => nomatch h) rfl) rfl rfl rfl <| gq (Q_move rfl) rfl rfl rfl ?_
          obtain ⟨q280, hq280, ho271⟩ := bnd ho271
          refine ge (E_call fn60 rfl (c_60 H gle  r3 r6 r9 hq280)) rfl rfl rfl ?_
          rintro _ wd283 ⟨x282, rfl, rfl, H⟩
          try dsimp only at ho271
          refine gq (Q_eql rfl rfl) rfl rfl rfl <| nq (Q_pickT rfl rfl) rfl rfl <| nq (Q_assign rfl) rfl rfl <| WL_nil ?_
          replace H := H.drop 0 rfl
          dsimp only [List.eraseIdx] at H
          replace H := H.drop 0 rfl
          dsimp only [List.eraseIdx] at H
          replace H := H.drop 0 rfl
          dsimp only [List.eraseIdx] at H
          replace H := H.drop 0 rfl
          dsimp only [List.eraseIdx] at H
          obtain rfl := Option.some.inj ho271
          refine x_A fun a hf => ⟨x282 == 0, rfl, hf.sub ⟨rfl, trivial⟩, H⟩
         ·rw [hb]
          replace ho271 := itF hb ho271
          refine gs rfl rfl rfl rfl <| gs rfl rfl rfl rfl <| gs rfl rfl rfl rfl <| gs rfl rfl rfl rfl <| nq (Q_pickF rfl rfl) rfl rfl <| nq (Q_assign rfl) rfl rfl <| WL_nil ?_
          replace H := H.drop 0 rfl
          dsimp only [List.eraseIdx] at H
          replace H := H.drop 0 rfl
          dsimp only [List.eraseIdx] at H
          replace H := H.drop 0 rfl
          dsimp only [List.eraseIdx] at H
          replace H := H.drop 0 rfl
          dsimp only [List.eraseIdx] at H
          obtain rfl := Option.some.inj ho271
          refine x_A fun a hf => ⟨false, rfl, hf.sub ⟨rfl, trivial⟩, H⟩
        ·rw [hb]
         replace ho271 := itF hb ho271
         refine gs rfl rfl rfl rfl <| gs rfl rfl rfl rfl <| gs rfl rfl rfl rfl <| gs rfl rfl rfl rfl <| nq (Q_pickF rfl rfl) rfl rfl <| nq (Q_move rfl) rfl rfl <| gs rfl rfl rfl rfl <| gs rfl rfl rfl rfl <| gs rfl rfl rfl rfl <| gs rfl rfl rfl rfl <| nq (Q_pickF rfl rfl) rfl rfl <| nq (Q_assign rfl) rfl rfl <| WL_nil ?_
         replace H := H.drop 0 rfl
         dsimp only [List.eraseIdx] at H
         replace H := H.drop 0 rfl
         dsimp only [List.eraseIdx] at H
         replace H := H.drop 0 rfl
         dsimp only [List.eraseIdx] at H
         replace H := H.drop 0 rfl
         dsimp only [List.eraseIdx] at H
         obtain rfl := Option.some.inj ho271
         refine x_A fun a hf => ⟨false, rfl, hf.sub ⟨rfl, trivial⟩, H⟩
       ·rw [hb]
        replace ho271 := itF hb ho271
        refine gs rfl rfl rfl rfl <| gs rfl rfl rfl rfl <| nq (Q_pickF rfl rfl) rfl rfl <| nq (Q_move rfl) rfl rfl <| gs rfl rfl rfl rfl <| gs rfl rfl rfl rfl <| gs rfl rfl rfl rfl <| gs rfl rfl rfl rfl <| nq (Q_pickF rfl rfl) rfl rfl <| nq (Q_move rfl) rfl rfl <| gs rfl rfl rfl rfl <| gs rfl rfl rfl rfl <| gs rfl rfl rfl rfl <| gs rfl rfl rfl rfl ?_
        refine nq (Q_pickF rfl rfl) rfl rfl <| nq (Q_assign rfl) rfl rfl <| WL_nil ?_
        replace H := H.drop 0 rfl
        dsimp only [List.eraseIdx] at H
        replace H := H.drop 0 rfl
        dsimp only [List.eraseIdx] at H
        replace H := H.drop 0 rfl
        dsimp only [List.eraseIdx] at H
        replace H := H.drop 0 rfl
        dsimp only [List.eraseIdx] at H
        obtain rfl := Option.some.inj ho271
        refine x_A fun a hf => ⟨false, rfl, hf.sub ⟨rfl, trivial⟩, H⟩
      ·rw [hb]
       replace ho271 := itF hb ho271
       refine gs rfl rfl rfl rfl <| gs rfl rfl rfl rfl <| nq (Q_pickF rfl rfl) rfl rfl <| nq (Q_move rfl) rfl rfl <| gs rfl rfl rfl rfl <| gs rfl rfl rfl rfl <| nq (Q_pickF rfl rfl) rfl rfl <| nq (Q_move rfl) rfl rfl <| gs rfl rfl rfl rfl <| gs rfl rfl rfl rfl <| gs rfl rfl rfl rfl <| gs rfl rfl rfl rfl <| nq (Q_pickF rfl rfl) rfl rfl <| nq (Q_move rfl) rfl rfl ?_
       refine gs rfl rfl rfl rfl <| gs rfl rfl rfl rfl <| gs rfl rfl rfl rfl <| gs rfl rfl rfl rfl <| nq (Q_pickF rfl rfl) rfl rfl <| nq (Q_assign rfl) rfl rfl <| WL_nil ?_
       replace H := H.drop 0 rfl
       dsimp only [List.eraseIdx] at H
       replace H := H.drop 0 rfl
       dsimp only [List.eraseIdx] at H
       replace H := H.drop 0 rfl
       dsimp only [List.eraseIdx] at H
       replace H := H.drop 0 rfl
       dsimp only [List.eraseIdx] at H
       obtain rfl := Option.some.inj ho271
       refine x_A fun a hf => ⟨false, rfl, hf.sub ⟨rfl, trivial⟩, H⟩
     ·rintro a wd284 ⟨x270, rfl, hf, H⟩
      try dsimp only at hF
      refine CW.at hf <| C_ret <| x_then_ret ?_
      obtain rfl := Option.some.inj hF
      exact fn_ret (l := [.tmp 6]) (vs := [.bool x270]) rfl rfl rfl ⟨x270, rfl, rfl, H⟩
    ·replace hF := itF hb hF
     refine C_skip <| x_then <| C_seq <| R_nd <| nq (v := .agg #[v229, v4, v7]) (Q_ldB (k := 3) (cs := [v229, v4, v7]) H.ok rfl ty81 rfl rfl rfl (fun h => nomatch h) rfl) rfl rfl <| nq (Q_move rfl) rfl rfl <| nq (Q_move rfl) rfl rfl ?_
     obtain ⟨q285, hq285, hF⟩ := bnd hF
     obtain ⟨C', ρ', hl286, HA, hL, hback⟩ := Hp.lend (A := []) (L := [Arr v229 256 c230]) (F := Box b222 [v1, v4, v7] :: Box b224 [.int .i64 x13, .int .i64 x14, .int .i64 x15] :: Box b235 [v229, v4, v7] :: hs) H
     refine ne (E_call fn61 rfl (c_61 HA (gle.up hl286)  (arr_rd (by decide) hl286 (hL (Arr v229 256 c230) (by simp)) r233) (r6.up hl286) (r9.up hl286) (r12.up hl286) hq285)) rfl rfl ?_
     rintro _ wd291 ⟨v287, c288, x289, rfl, rfl, r290, H⟩
     try dsimp only at hF
     replace H := hback H
     replace r290 := rdL.flat (ρ := ρ') (ρ' := ρ) (flat_I _) r290
     dsimp only [List.cons_append, List.nil_append] at H
     refine nq (Q_assign rfl) rfl rfl <| WL_nil <| x_then <| C_seq <| R_nd <| nq (v := .agg #[v229, v4, v7]) (Q_ldB (k := 4) (cs := [v229, v4, v7]) H.ok rfl ty81 rfl rfl rfl (fun h => nomatch h) rfl) rfl rfl <| nq (Q_move rfl) rfl rfl <| nq (Q_move rfl) rfl rfl <| nq (Q_move rfl) rfl rfl <| nq (Q_move rfl) rfl rfl ?_
     replace H := H.f1
     obtain ⟨q292, hq292, hF⟩ := bnd hF
     obtain ⟨C', ρ', hl293, HA, hL, hback⟩ := Hp.lend (A := []) (L := [Arr v229 256 c230]) (F := Arr v287 1 c288 :: Box b222 [v1, v4, v7] :: Box b224 [.int .i64 x13, .int .i64 x14, .int .i64 x15] :: Box b235 [v229, v4, v7] :: hs) H
     refine ne (E_call fn62 rfl (c_62 HA (gle.up hl293)  (arr_rd (by decide) hl293 (hL (Arr v229 256 c230) (by simp)) r233) (r6.up hl293) (r9.up hl293) (r12.up hl293) hq292)) rfl rfl ?_
     rintro _ wd296 ⟨x294, x295, rfl, rfl, H⟩
     try dsimp only at hF
     replace H := hback H
     dsimp only [List.cons_append, List.nil_append] at H
     refine nq (Q_move rfl) rfl rfl <| nq (Q_extract rfl rfl) rfl rfl <| nq (Q_extract rfl rfl) rfl rfl <| nq (Q_assign rfl) rfl rfl <| nq (Q_assign rfl) rfl rfl <| WL_nil <| x_then <| C_seq <| R_nd <| nq (Q_assign rfl) rfl rfl <| WL_nil <| x_then <| C_seq ?_
     obtain ⟨o298, ho298, hF⟩ := bnd hF
     refine C_cut (fun a w' => ∃ (x297 : Bool), x297 = o298 ∧ Fr 163 a [(1, v10), (3, .pointer (some ⟨b222, 0, none⟩)), (7, .pointer (some ⟨b235, 0, none⟩)), (9, .int .i64 x13), (10, .int .i64 x14), (12, .int .i64 x243), (13, .int .i64 x244), (14, v287), (15, .int .i64 x294), (16, .int .i64 x295), (17, .int .i64 0), (106, .bool x297)] ∧ Hp C w' ρ (Arr v287 1 c288 :: Box b222 [v1, v4, v7] :: Box b235 [v229, v4, v7] :: Arr v229 256 c230 :: hs)) ?_ ?_
     ·refine R_nd <| nq (Q_move rfl) rfl rfl <| nq (Q_geq rfl rfl) rfl rfl <| nq (Q_move rfl) rfl rfl ?_
      rcases Bool.eq_false_or_eq_true (decide (x14 ≥ 0)) with hb | hb
      ·rw [hb]
       replace ho298 := itT hb ho298
       refine gq (Q_move rfl) rfl rfl rfl <| gq (v := .pointer (some ⟨b235, 0, none⟩)) (Q_fld Tryz.underlying81 rfl ty79 (by decide) rfl rfl) rfl rfl rfl <| gq (v := v229) (Q_ldB (k := 4) (cs := [v229]) H.ok rfl ty79 rfl rfl rfl (fun _ => rfl) rfl) rfl rfl rfl <| gq (Q_lenA (k := 0) H.ok rfl r233 (by decide) Tryz.underlying79 rfl) rfl rfl rfl <| gq (Q_lss rfl rfl) rfl rfl rfl <| nq (Q_pickT rfl rfl) rfl rfl <| nq (Q_move rfl) rfl rfl ?_
       rcases Bool.eq_false_or_eq_true (decide (x14 < (x231.length : Int))) with hb | hb
       ·rw [hb]
        replace ho298 := itT hb ho298
        refine gq (Q_move rfl) rfl rfl rfl <| gq (Q_len Tryz.underlying42 rfl r12) rfl rfl rfl <| gq (Q_gtr rfl rfl) rfl rfl rfl <| nq (Q_pickT rfl rfl) rfl rfl <| WL_nil ?_
        replace H := H.f4
        replace H := H.f3
        replace H := H.f3
        replace H := H.drop 4 rfl
        dsimp only [List.eraseIdx] at H
        obtain rfl := Option.some.inj ho298
        refine x_A fun a hf => ⟨decide ((x11.length : Int) > 0), rfl, hf.sub ⟨rfl, rfl, rfl, rfl, rfl, rfl, rfl, rfl, rfl, rfl, rfl, rfl, trivial⟩, H⟩
       ·rw [hb]
        replace ho298 := itF hb ho298
        refine gs rfl rfl rfl rfl <| gs rfl rfl rfl rfl <| gs rfl rfl rfl rfl <| nq (Q_pickF rfl rfl) rfl rfl <| WL_nil ?_
        replace H := H.f4
        replace H := H.f3
        replace H := H.f3
        replace H := H.drop 4 rfl
        dsimp only [List.eraseIdx] at H
        obtain rfl := Option.some.inj ho298
        refine x_A fun a hf => ⟨false, rfl, hf.sub ⟨rfl, rfl, rfl, rfl, rfl, rfl, rfl, rfl, rfl, rfl, rfl, rfl, trivial⟩, H⟩
      ·rw [hb]
       replace ho298 := itF hb ho298
       refine gs rfl rfl rfl rfl <| gs rfl rfl rfl rfl <| gs rfl rfl rfl rfl <| gs rfl rfl rfl rfl <| gs rfl rfl rfl rfl <| nq (Q_pickF rfl rfl) rfl rfl <| nq (Q_move rfl) rfl rfl <| gs rfl rfl rfl rfl <| gs rfl rfl rfl rfl <| gs rfl rfl rfl rfl <| nq (Q_pickF rfl rfl) rfl rfl <| WL_nil ?_
       replace H := H.f4
       replace H := H.f3
       replace H := H.f3
       replace H := H.drop 4 rfl
       dsimp only [List.eraseIdx] at H
       obtain rfl := Option.some.inj ho298
       refine x_A fun a hf => ⟨false, rfl, hf.sub ⟨rfl, rfl, rfl, rfl, rfl, rfl, rfl, rfl, rfl, rfl, rfl, rfl, trivial⟩, H⟩
     ·rintro a wd299 ⟨x297, rfl, hf, H⟩
      try dsimp only at hF
      refine CW.at hf ?_
      obtain ⟨o320, ho320, hF⟩ := bnd hF
      refine C_cutQ (fun a w' => ∃ (x319 : Int), x319 = o320 ∧ Fr 163 a [(1, v10), (3, .pointer (some ⟨b222, 0, none⟩)), (7, .pointer (some ⟨b235, 0, none⟩)), (9, .int .i64 x13), (10, .int .i64 x14), (12, .int .i64 x243), (13, .int .i64 x244), (14, v287), (15, .int .i64 x294), (16, .int .i64 x295), (17, .int .i64 x319)] ∧ Hp C w' ρ (Arr v287 1 c288 :: Box b222 [v1, v4, v7] :: Box b235 [v229, v4, v7] :: Arr v229 256 c230 :: hs)) ?_ ?_
      ·refine C_cond rfl (fun hb => ?_) (fun hb => ?_)
       ·replace ho320 := itT hb ho320
        refine R_dr (.take 0 (.take 1 (.take 2 (.take 3 (.take 4 (.take 5 (.take 6 (.take 7 (.take 8 (.take 9 .done)))))))))) (fun w' => Ok w' ρ [Arr v287 1 c288, Box b222 [v1, v4, v7], Box b235 [v229, v4, v7], Arr v229 256 c230]) (by kernel_rfl) (by kernel_rfl) (by kernel_rfl) (H.drew.okS (by simp)) ?_
        replace H := H.drew
        refine dq (v := .pointer (some ⟨b235, 0, none⟩)) rfl (fun _ _ => Q_fld Tryz.underlying81 rfl ty79 (by decide) rfl rfl) rfl rfl <| dq (v := v229) rfl (fun _ hw => Q_ldB (k := 2) (cs := [v229]) hw rfl ty79 rfl rfl rfl (fun _ => rfl) rfl) rfl rfl <| dq rfl (fun _ _ => Q_move rfl) rfl rfl <| dq rfl (fun _ _ => Q_move rfl) rfl rfl ?_
        obtain ⟨x321, hx321, ho320⟩ := bnd ho320
        obtain ⟨b322, o323, c324, hc325, ha326, hi327⟩ := idxR r12 hx321
        refine dq rfl (fun _ _ => Q_idx hi327 Tryz.underlying42 ty5 rfl rfl) rfl rfl <| dq (v := .int .u8 x321) rfl (fun _ hw => Q_ld (show cellsAt _ _ _ [.int .u8 x321] from (show _ = [_] from hc325) ▸ (ha326.up hw.view)) ty5 rfl (fun _ => rfl) rfl rfl) rfl rfl ?_
        obtain ⟨x328, hx328, ho320⟩ := bnd ho320
        obtain ⟨b329, o330, hi334, hc332, ha333⟩ := arr_at (hs := [Arr v229 256 c230]) (k := 0) (by decide) (H.okS (by simp)) rfl r233 hx328
        refine dq rfl (fun _ _ => Q_idx hi334 Tryz.underlying79 ty87 rfl rfl) rfl rfl ?_
        obtain ⟨x335, hx335, ho320⟩ := bnd ho320
        have hn336 := idx_lt hc332.1 hx335
        refine dq rfl (fun _ _ => Q_idxA hn336.1 hn336.2 Tryz.underlying87 ty3 rfl rfl) rfl rfl ?_
        obtain ⟨c337, hc338, ha339, _⟩ := arrO hc332 ha333 hx335
        refine dq (v := .int .i64 x335) rfl (fun _ hw => Q_ld (show cellsAt _ _ _ [.int .i64 x335] from (show _ = [_] from hc338) ▸ (ha339 _ (Ok.subS (by simp) hw))) ty3 rfl (fun _ => rfl) rfl rfl) rfl rfl <| dq rfl (fun _ _ => Q_assign rfl) rfl rfl <| DL_nil ?_
        replace H := H.f3
        replace H := H.f3
        replace H := H.f3
        replace H := H.f3
        obtain rfl := Option.some.inj ho320
        refine x_A fun a hf => ⟨x335, rfl, hf.sub ⟨rfl, rfl, rfl, rfl, rfl, rfl, rfl, rfl, rfl, rfl, rfl, trivial⟩, H⟩
       ·replace ho320 := itF hb ho320
        refine C_skip ?_
        replace H := H.f3
        replace H := H.f3
        replace H := H.f3
        replace H := H.f3
        obtain rfl := Option.some.inj ho320
        refine x_A fun a hf => ⟨0, rfl, hf.sub ⟨rfl, rfl, rfl, rfl, rfl, rfl, rfl, rfl, rfl, rfl, rfl, trivial⟩, H⟩
      ·rintro a wd340 ⟨x319, rfl, hf, H⟩
       try dsimp only at hF
       refine XX.at hf <| x_then <| C_seq ?_
       obtain ⟨o353, ho353, hF⟩ := bnd hF
       refine C_cut (fun a w' => ∃ (x352 : Bool), x352 = o353 ∧ Fr 163 a [(1, v10), (3, .pointer (some ⟨b222, 0, none⟩)), (7, .pointer (some ⟨b235, 0, none⟩)), (9, .int .i64 x13), (12, .int .i64 x243), (13, .int .i64 x244), (14, v287), (15, .int .i64 x294), (16, .int .i64 x295), (128, .bool x352)] ∧ Hp C w' ρ (Arr v287 1 c288 :: Box b222 [v1, v4, v7] :: Box b235 [v229, v4, v7] :: Arr v229 256 c230 :: hs)) ?_ ?_
       ·refine R_dr (.take 0 (.take 1 (.take 2 (.take 3 (.take 4 (.take 5 (.take 6 (.take 7 (.take 8 (.take 10 (.one 9 (.take 11 (.take 12 .done))))))))))))) (fun w' => Ok w' ρ [Arr v287 1 c288, Box b222 [v1, v4, v7], Box b235 [v229, v4, v7], Arr v229 256 c230]) (by kernel_rfl) (by kernel_rfl) (by kernel_rfl) (H.drew.okS (by simp)) ?_
        replace H := H.drew
        refine dq rfl (fun _ _ => Q_move rfl) rfl rfl <| dq rfl (fun _ _ => Q_len Tryz.underlying42 rfl r12) rfl rfl <| dq rfl (fun _ _ => Q_gtr rfl rfl) rfl rfl <| dq rfl (fun _ _ => Q_move rfl) rfl rfl ?_
        rcases Bool.eq_false_or_eq_true (decide ((x11.length : Int) > 0)) with hb | hb
        ·rw [hb]
         replace ho353 := itT hb ho353
         refine dgq (v := .agg #[v1, v4, v7]) rfl (fun _ hw => Q_ldB (k := 1) (cs := [v1, v4, v7]) hw rfl ty78 rfl rfl rfl (fun h => nomatch h) rfl) rfl rfl rfl <| dgq rfl (fun _ _ => Q_move rfl) rfl rfl rfl <| dgq rfl (fun _ _ => Q_move rfl) rfl rfl rfl ?_
         obtain ⟨x354, hx354, ho353⟩ := bnd ho353
         obtain ⟨b355, o356, c357, hc358, ha359, hi360⟩ := idxR r12 hx354
         refine dgq rfl (fun _ _ => Q_idx hi360 Tryz.underlying42 ty5 rfl rfl) rfl rfl rfl <| dgq (v := .int .u8 x354) rfl (fun _ hw => Q_ld (show cellsAt _ _ _ [.int .u8 x354] from (show _ = [_] from hc358) ▸ (ha359.up hw.view)) ty5 rfl (fun _ => rfl) rfl rfl) rfl rfl rfl <| dgq rfl (fun _ _ => Q_move rfl) rfl rfl rfl ?_
         obtain ⟨q361, hq361, ho353⟩ := bnd ho353
         refine d1 (dge rfl (E_call fn59 rfl (c_59 H gle  r3 r6 r9 hq361)) rfl rfl rfl ?_)
         rintro _ wd364 ⟨x363, rfl, rfl, H⟩
         try dsimp only at ho353
         refine ⟨H.okS (by simp), ?_⟩
         refine dgq rfl (fun _ _ => Q_neq rfl rfl) rfl rfl rfl <| dq rfl (fun _ _ => Q_pickT rfl rfl) rfl rfl <| DL_nil ?_
         replace H := H.f3
         replace H := H.f3
         replace H := H.f3
         replace H := H.f3
         obtain rfl := Option.some.inj ho353
         refine x_A fun a hf => ⟨x363 != x319, rfl, hf.sub ⟨rfl, rfl, rfl, rfl, rfl, rfl, rfl, rfl, rfl, rfl, trivial⟩, H⟩
        ·rw [hb]
         replace ho353 := itF hb ho353
         refine dgs rfl rfl rfl rfl rfl <| dgs rfl rfl rfl rfl rfl <| dgs rfl rfl rfl rfl rfl <| dgs rfl rfl rfl rfl rfl <| dgs rfl rfl rfl rfl rfl <| dgs rfl rfl rfl rfl rfl ?_
         refine d1 (dges rfl rfl rfl rfl rfl ?_)
         refine dgs rfl rfl rfl rfl rfl <| dq rfl (fun _ _ => Q_pickF rfl rfl) rfl rfl <| DL_nil ?_
         replace H := H.f3
         replace H := H.f3
         replace H := H.f3
         replace H := H.f3
         obtain rfl := Option.some.inj ho353
         refine x_A fun a hf => ⟨false, rfl, hf.sub ⟨rfl, rfl, rfl, rfl, rfl, rfl, rfl, rfl, rfl, rfl, trivial⟩, H⟩
       ·rintro a wd365 ⟨x352, rfl, hf, H⟩
        try dsimp only at hF
        refine CW.at hf ?_
        refine C_cond rfl (fun hb => ?_) (fun hb => ?_)
        ·replace hF := itT hb hF
         refine C_seq <| R_nd <| nq (Q_assign rfl) rfl rfl <| WL_nil <| x_then <| C_ret <| x_then_ret ?_
         replace H := H.drop 0 rfl
         dsimp only [List.eraseIdx] at H
         replace H := H.drop 0 rfl
         dsimp only [List.eraseIdx] at H
         replace H := H.drop 0 rfl
         dsimp only [List.eraseIdx] at H
         replace H := H.drop 0 rfl
         dsimp only [List.eraseIdx] at H
         obtain rfl := Option.some.inj hF
         exact fn_ret (l := [.tmp 6]) (vs := [.bool false]) rfl rfl rfl ⟨false, rfl, rfl, H⟩
        ·replace hF := itF hb hF
         refine C_skip <| x_then ?_
         obtain ⟨o396, ho396, hF⟩ := bnd hF
         refine C_cut (fun a w' => ∃ (x395 : Bool), x395 = o396 ∧ Fr 163 a [(6, .bool x395)] ∧ Hp C w' ρ (hs)) ?_ ?_
         ·refine R_dr (.take 0 (.take 1 (.take 3 (.take 4 (.take 5 (.one 2 (.take 6 (.take 7 (.take 8 (.take 9 (.take 10 (.take 12 (.take 13 (.take 14 (.take 15 (.take 16 (.take 17 (.take 18 (.take 19 (.take 20 (.take 21 (.one 11 (.take 22 (.take 23 (.take 24 (.take 25 (.take 26 (.take 27 (.take 28 (.take 29 (.take 30 (.take 31 (.take 32 (.take 33 (.take 34 .done))))))))))))))))))))))))))))))))))) (fun w' => Ok w' ρ [Arr v287 1 c288, Box b222 [v1, v4, v7], Box b235 [v229, v4, v7], Arr v229 256 c230]) (by kernel_rfl) (by kernel_rfl) (by kernel_rfl) (H.drew.okS (by simp)) ?_
          replace H := H.drew
          refine dq (v := .agg #[v1, v4, v7]) rfl (fun _ hw => Q_ldB (k := 1) (cs := [v1, v4, v7]) hw rfl ty78 rfl rfl rfl (fun h => nomatch h) rfl) rfl rfl <| dq rfl (fun _ _ => Q_move rfl) rfl rfl <| dq rfl (fun _ _ => Q_move rfl) rfl rfl ?_
          obtain ⟨x397, hx397, ho396⟩ := bnd ho396
          obtain ⟨b398, o399, hi403, hc401, ha402⟩ := arr_at (hs := [Arr v287 1 c288]) (k := 0) (by decide) (H.okS (by simp)) rfl r290 hx397
          refine dq rfl (fun _ _ => Q_idx hi403 Tryz.underlying23 ty3 rfl rfl) rfl rfl <| dq (v := .int .i64 x397) rfl (fun _ hw => Q_ld (show cellsAt _ _ _ [.int .i64 x397] from (show _ = [_] from hc401) ▸ (ha402 _ (Ok.subS (by simp) hw))) ty3 rfl (fun _ => rfl) rfl rfl) rfl rfl ?_
          obtain ⟨q404, hq404, ho396⟩ := bnd ho396
          refine d1 (de rfl (E_call fn60 rfl (c_60 H gle  r3 r6 r9 hq404)) rfl rfl ?_)
          rintro _ wd407 ⟨x406, rfl, rfl, H⟩
          try dsimp only at ho396
          refine ⟨H.okS (by simp), ?_⟩
          refine dq rfl (fun _ _ => Q_eql rfl rfl) rfl rfl <| dq rfl (fun _ _ => Q_move rfl) rfl rfl ?_
          rcases Bool.eq_false_or_eq_true (x406 == x397) with hb | hb
          ·rw [hb]
           replace ho396 := itT hb ho396
           refine dgq (v := .agg #[v1, v4, v7]) rfl (fun _ hw => Q_ldB (k := 1) (cs := [v1, v4, v7]) hw rfl ty78 rfl rfl rfl (fun h => nomatch h) rfl) rfl rfl rfl <| dgq rfl (fun _ _ => Q_move rfl) rfl rfl rfl <| dgq rfl (fun _ _ => Q_move rfl) rfl rfl rfl <| dgq (v := .pointer (some ⟨b235, 1, none⟩)) rfl (fun _ _ => Q_fld Tryz.underlying81 rfl ty23 (by decide) rfl rfl) rfl rfl rfl <| dgq (v := v4) rfl (fun _ hw => Q_ldB (k := 2) (cs := [v4]) hw rfl ty23 rfl rfl rfl (fun _ => rfl) rfl) rfl rfl rfl <| dgq rfl (fun _ _ => Q_move rfl) rfl rfl rfl <| dgq rfl (fun _ _ => Q_move rfl) rfl rfl rfl <| dgq rfl (fun _ hw => Q_lenA (k := 0) hw rfl r290 (by decide) Tryz.underlying23 rfl) rfl rfl rfl <| dgq rfl (fun _ _ => Q_sub rfl rfl) rfl rfl rfl ?_
           obtain ⟨x408, hx408, ho396⟩ := bnd ho396
           obtain ⟨b409, o410, hi414, hc412, ha413⟩ := arr_at (hs := [Arr v287 1 c288]) (k := 0) (by decide) (H.okS (by simp)) rfl r290 hx408
           refine dgq rfl (fun _ _ => Q_idx hi414 Tryz.underlying23 ty3 rfl rfl) rfl rfl rfl <| dgq (v := .int .i64 x408) rfl (fun _ hw => Q_ld (show cellsAt _ _ _ [.int .i64 x408] from (show _ = [_] from hc412) ▸ (ha413 _ (Ok.subS (by simp) hw))) ty3 rfl (fun _ => rfl) rfl rfl) rfl rfl rfl ?_
           obtain ⟨x415, hx415, ho396⟩ := bnd ho396
           obtain ⟨b416, o417, c418, hc419, ha420, hi421⟩ := idxR r6 hx415
           refine dgq rfl (fun _ _ => Q_idx hi421 Tryz.underlying23 ty3 rfl rfl) rfl rfl rfl <| dgq (v := .int .i64 x415) rfl (fun _ hw => Q_ld (show cellsAt _ _ _ [.int .i64 x415] from (show _ = [_] from hc419) ▸ (ha420.up hw.view)) ty3 rfl (fun _ => rfl) rfl rfl) rfl rfl rfl ?_
           obtain ⟨q422, hq422, ho396⟩ := bnd ho396
           refine d1 (dge rfl (E_call fn58 rfl (c_58 H gle  r3 r6 r9 r12 hq422)) rfl rfl rfl ?_)
           rintro _ wd425 ⟨x424, rfl, rfl, H⟩
           try dsimp only at ho396
           refine ⟨H.okS (by simp), ?_⟩
           refine dgq rfl (fun _ _ => Q_eql rfl rfl) rfl rfl rfl <| dq rfl (fun _ _ => Q_pickT rfl rfl) rfl rfl <| dq rfl (fun _ _ => Q_move rfl) rfl rfl ?_
           rcases Bool.eq_false_or_eq_true (x424 == x415) with hb | hb
           ·rw [hb]
            replace ho396 := itT hb ho396
            refine dgq rfl (fun _ _ => Q_move rfl) rfl rfl rfl <| dgq rfl (fun _ _ => Q_move rfl) rfl rfl rfl <| dgq rfl (fun _ _ => Q_eql rfl rfl) rfl rfl rfl <| dq rfl (fun _ _ => Q_pickT rfl rfl) rfl rfl <| dq rfl (fun _ _ => Q_move rfl) rfl rfl ?_
            rcases Bool.eq_false_or_eq_true (x243 == x294) with hb | hb
            ·rw [hb]
             replace ho396 := itT hb ho396
             refine dgq rfl (fun _ _ => Q_move rfl) rfl rfl rfl <| dgq rfl (fun _ _ => Q_move rfl) rfl rfl rfl <| dgq rfl (fun _ _ => Q_eql rfl rfl) rfl rfl rfl <| dq rfl (fun _ _ => Q_pickT rfl rfl) rfl rfl <| dq rfl (fun _ _ => Q_assign rfl) rfl rfl <| DL_nil ?_
             replace H := H.drop 0 rfl
             dsimp only [List.eraseIdx] at H
             replace H := H.drop 0 rfl
             dsimp only [List.eraseIdx] at H
             replace H := H.drop 0 rfl
             dsimp only [List.eraseIdx] at H
             replace H := H.drop 0 rfl
             dsimp only [List.eraseIdx] at H
             obtain rfl := Option.some.inj ho396
             refine x_A fun a hf => ⟨x244 == x295, rfl, hf.sub ⟨rfl, trivial⟩, H⟩
            ·rw [hb]
             replace ho396 := itF hb ho396
             refine dgs rfl rfl rfl rfl rfl <| dgs rfl rfl rfl rfl rfl <| dgs rfl rfl rfl rfl rfl <| dq rfl (fun _ _ => Q_pickF rfl rfl) rfl rfl <| dq rfl (fun _ _ => Q_assign rfl) rfl rfl <| DL_nil ?_
             replace H := H.drop 0 rfl
             dsimp only [List.eraseIdx] at H
             replace H := H.drop 0 rfl
             dsimp only [List.eraseIdx] at H
             replace H := H.drop 0 rfl
             dsimp only [List.eraseIdx] at H
             replace H := H.drop 0 rfl
             dsimp only [List.eraseIdx] at H
             obtain rfl := Option.some.inj ho396
             refine x_A fun a hf => ⟨false, rfl, hf.sub ⟨rfl, trivial⟩, H⟩
           ·rw [hb]
            replace ho396 := itF hb ho396
            refine dgs rfl rfl rfl rfl rfl <| dgs rfl rfl rfl rfl rfl <| dgs rfl rfl rfl rfl rfl <| dq rfl (fun _ _ => Q_pickF rfl rfl) rfl rfl <| dq rfl (fun _ _ => Q_move rfl) rfl rfl <| dgs rfl rfl rfl rfl rfl <| dgs rfl rfl rfl rfl rfl <| dgs rfl rfl rfl rfl rfl <| dq rfl (fun _ _ => Q_pickF rfl rfl) rfl rfl <| dq rfl (fun _ _ => Q_assign rfl) rfl rfl <| DL_nil ?_
            replace H := H.drop 0 rfl
            dsimp only [List.eraseIdx] at H
            replace H := H.drop 0 rfl
            dsimp only [List.eraseIdx] at H
            replace H := H.drop 0 rfl
            dsimp only [List.eraseIdx] at H
            replace H := H.drop 0 rfl
            dsimp only [List.eraseIdx] at H
            obtain rfl := Option.some.inj ho396
            refine x_A fun a hf => ⟨false, rfl, hf.sub ⟨rfl, trivial⟩, H⟩
          ·rw [hb]
           replace ho396 := itF hb ho396
           refine dgs rfl rfl rfl rfl rfl <| dgs rfl rfl rfl rfl rfl <| dgs rfl rfl rfl rfl rfl <| dgs rfl rfl rfl rfl rfl <| dgs rfl rfl rfl rfl rfl <| dgs rfl rfl rfl rfl rfl <| dgs rfl rfl rfl rfl rfl <| dgs rfl rfl rfl rfl rfl <| dgs rfl rfl rfl rfl rfl <| dgs rfl rfl rfl rfl rfl <| dgs rfl rfl rfl rfl rfl <| dgs rfl rfl rfl rfl rfl <| dgs rfl rfl rfl rfl rfl ?_
           refine d1 (dges rfl rfl rfl rfl rfl ?_)
           refine dgs rfl rfl rfl rfl rfl <| dq rfl (fun _ _ => Q_pickF rfl rfl) rfl rfl <| dq rfl (fun _ _ => Q_move rfl) rfl rfl <| dgs rfl rfl rfl rfl rfl <| dgs rfl rfl rfl rfl rfl <| dgs rfl rfl rfl rfl rfl <| dq rfl (fun _ _ => Q_pickF rfl rfl) rfl rfl <| dq rfl (fun _ _ => Q_move rfl) rfl rfl <| dgs rfl rfl rfl rfl rfl <| dgs rfl rfl rfl rfl rfl <| dgs rfl rfl rfl rfl rfl <| dq rfl (fun _ _ => Q_pickF rfl rfl) rfl rfl <| dq rfl (fun _ _ => Q_assign rfl) rfl rfl <| DL_nil ?_
           replace H := H.drop 0 rfl
           dsimp only [List.eraseIdx] at H
           replace H := H.drop 0 rfl
           dsimp only [List.eraseIdx] at H
           replace H := H.drop 0 rfl
           dsimp only [List.eraseIdx] at H
           replace H := H.drop 0 rfl
           dsimp only [List.eraseIdx] at H
           obtain rfl := Option.some.inj ho396
           refine x_A fun a hf => ⟨false, rfl, hf.sub ⟨rfl, trivial⟩, H⟩
         ·rintro a wd426 ⟨x395, rfl, hf, H⟩
          try dsimp only at hF
          refine CW.at hf <| C_ret ?_
          obtain rfl := Option.some.inj hF
          exact fn_ret (l := [.tmp 6]) (vs := [.bool x395]) rfl rfl rfl ⟨x395, rfl, rfl, H⟩
end Go.Proofs.YtealkahefalaeaaGreatDoor
