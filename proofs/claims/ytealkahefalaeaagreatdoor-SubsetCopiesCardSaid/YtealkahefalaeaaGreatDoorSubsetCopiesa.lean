/-
  The walks of the law SubsetCopies, printed by my program, part 1: each function of the code computes its pure function.
-/
import Derived.Test.YtealkahefalaeaaGreatDoorSubsetCopiesD1
import Derived.Test.YtealkahefalaeaaGreatDoorProg
import Derived.Test.YtealkahefalaeaaGreatDoorSubsetCopiesP1
namespace Go.Proofs.YtealkahefalaeaaGreatDoor
open Go Go.Eng
set_option maxRecDepth 100000
theorem ty3 : Ty Tryz.prog 3 1 8 (.int .i64 0) false := ⟨by kernel_rfl, by kernel_rfl⟩
theorem ty23 : Ty Tryz.prog 23 1 24 (.slice none 0 0) false := ⟨by kernel_rfl, by kernel_rfl⟩
theorem ty76 : Ty Tryz.prog 76 1 24 (.slice none 0 0) false := ⟨by kernel_rfl, by kernel_rfl⟩
theorem ty78 : Ty Tryz.prog 78 3 72 (.agg ([.slice none 0 0, .slice none 0 0, .slice none 0 0]).toArray) true := ⟨by kernel_rfl, by kernel_rfl⟩
theorem ty79 : Ty Tryz.prog 79 1 24 (.slice none 0 0) false := ⟨by kernel_rfl, by kernel_rfl⟩
theorem ty81 : Ty Tryz.prog 81 3 72 (.agg ([.slice none 0 0, .slice none 0 0, .slice none 0 0]).toArray) true := ⟨by kernel_rfl, by kernel_rfl⟩
theorem ty87 : Ty Tryz.prog 87 256 2048 (.agg (repC 256 [.int .i64 0]).toArray) true := ⟨by kernel_rfl, by kernel_rfl⟩
theorem ty88 : Ty Tryz.prog 88 256 2048 (.agg (repC 256 [.int .i64 0]).toArray) true := ⟨by kernel_rfl, by kernel_rfl⟩
theorem st78 : ∃ fs, St Tryz.prog 78 fs [(0, 1), (1, 1), (2, 1)] [.slice none 0 0, .slice none 0 0, .slice none 0 0] := ⟨_, Tryz.underlying78, by kernel_rfl, _, _, _, _, ty78, rfl⟩
theorem st81 : ∃ fs, St Tryz.prog 81 fs [(0, 1), (1, 1), (2, 1)] [.slice none 0 0, .slice none 0 0, .slice none 0 0] := ⟨_, Tryz.underlying81, by kernel_rfl, _, _, _, _, ty81, rfl⟩
theorem fn25 : HasFn Tryz.prog 25 := ⟨_, _, Tryz.func25, by kernel_rfl, rfl⟩
theorem fn45 : HasFn Tryz.prog 45 := ⟨_, _, Tryz.func45, by kernel_rfl, rfl⟩
theorem fn46 : HasFn Tryz.prog 46 := ⟨_, _, Tryz.func46, by kernel_rfl, rfl⟩
theorem fn47 : HasFn Tryz.prog 47 := ⟨_, _, Tryz.func47, by kernel_rfl, rfl⟩
theorem fn48 : HasFn Tryz.prog 48 := ⟨_, _, Tryz.func48, by kernel_rfl, rfl⟩
theorem fn49 : HasFn Tryz.prog 49 := ⟨_, _, Tryz.func49, by kernel_rfl, rfl⟩
theorem fn73 : HasFn Tryz.prog 73 := ⟨_, _, Tryz.func73, by kernel_rfl, rfl⟩
theorem fn77 : HasFn Tryz.prog 77 := ⟨_, _, Tryz.func77, by kernel_rfl, rfl⟩
theorem fn97 : HasFn Tryz.prog 97 := ⟨_, _, Tryz.func97, by kernel_rfl, rfl⟩
theorem fn98 : HasFn Tryz.prog 98 := ⟨_, _, Tryz.func98, by kernel_rfl, rfl⟩
theorem c_46 {N : Nat} {C : Cx} {w : World} {ρ : View} {hs : List Hl} {gV : Nat → Value} {v1 : Value} {v4 : Value} {v7 : Value} {x2 : (List (List Int))} {x5 : (List Int)} {x8 : (List Int)} {x10 : Int} (H : Hp C w ρ (hs)) (_gle : GErrs ρ 394 errIds gV) (r3 : RdSl ρ (eA 256 (eI .i64)) v1 x2) (r6 : RdSl ρ (eI .i64) v4 x5) (r9 : RdSl ρ (eI .i64) v7 x8) {r : ((List (List Int)) × Bool)} (hF : F_dofferlaw17_Of N x2 x5 x8 x10 = some r) :
  Calls Tryz.prog 46 [.agg #[v1, v4, v7], .int .i64 x10].toArray w (Rets (fun v w' => (∃ (v181 : Value) (c182 : (List Value)) (x183 : (List (List Int))) (x185 : Bool), (x183, x185) = r ∧ .tuple [.agg #[v181, v4, v7], .bool x185].toArray = v ∧ rdL (eA 256 (eI .i64)) ρ x183 c182 ∧ Hp C w' ρ (Arr v181 256 c182 :: hs)))) := by
 unfold F_dofferlaw17_Of at hF
 have h0 : Tryz.f46.body = some _ := rfl
 refine fn_calls' Tryz.func46 h0 (n := 48) rfl (by simp) <| C_seq <| R_nd <| ne (E_box H (vs := [v1, v4, v7]) rfl rfl) rfl rfl ?_
 rintro _ wd187 ⟨b186, rfl, H⟩
 refine ne (E_alloc H ty81 (zs := [.slice none 0 0, .slice none 0 0, .slice none 0 0]) rfl) rfl rfl ?_
 rintro _ wd189 ⟨b188, rfl, H⟩
 refine nq (Q_assign rfl) rfl rfl <| WL_nil <| x_then <| C_seq <| R_nd <| nq (v := .pointer (some ⟨b186, 1, none⟩)) (Q_fld Tryz.underlying78 rfl ty23 (by decide) rfl rfl) rfl rfl <| nq (v := v4) (Q_ldB (k := 1) (cs := [v4]) H.ok rfl ty23 rfl rfl rfl (fun _ => rfl) rfl) rfl rfl <| nq (v := .pointer (some ⟨b186, 2, none⟩)) (Q_fld Tryz.underlying78 rfl ty23 (by decide) rfl rfl) rfl rfl <| nq (v := v7) (Q_ldB (k := 1) (cs := [v7]) H.ok rfl ty23 rfl rfl rfl (fun _ => rfl) rfl) rfl rfl <| nq (v := .agg #[.slice none 0 0, v4, v7]) (Q_buildS st81.choose_spec (ps := [(1, [v4]), (2, [v7])]) rfl ⟨rfl, (RdSl.cells r6), by simp, ⟨rfl, (RdSl.cells r9), by simp, trivial⟩⟩ rfl) rfl rfl <| ne (E_alloc H ty81 (zs := [.slice none 0 0, .slice none 0 0, .slice none 0 0]) rfl) rfl rfl ?_
 rintro _ wd191 ⟨b190, rfl, H⟩
 refine ne (E_stB (k := 0) (cs := [.slice none 0 0, v4, v7]) (vs' := [.slice none 0 0, v4, v7]) H rfl ty81 rfl rfl rfl rfl (one_cons rfl (one_cons (RdSl.one r6) (one_cons (RdSl.one r9) one_nil))) (by simp) rfl) rfl rfl ?_
 rintro _ wd192 H
 dsimp only [List.set] at H
 refine WL_nil <| x_then <| C_seq ?_
 obtain ⟨o194, ho194, hF⟩ := bnd hF
 refine C_cut (fun a w' => ∃ (x193 : Bool), x193 = o194 ∧ Fr 48 a [(2, .pointer (some ⟨b186, 0, none⟩)), (4, .pointer (some ⟨b188, 0, none⟩)), (6, .pointer (some ⟨b190, 0, none⟩)), (31, .bool x193)] ∧ Hp C w' ρ (Box b186 [v1, v4, v7] :: Box b188 [.slice none 0 0, .slice none 0 0, .slice none 0 0] :: Box b190 [.slice none 0 0, v4, v7] :: hs)) ?_ ?_
 ·refine R_nd <| nq (v := .pointer (some ⟨b186, 0, none⟩)) (Q_fld Tryz.underlying78 rfl ty76 (by decide) rfl rfl) rfl rfl <| nq (v := v1) (Q_ldB (k := 2) (cs := [v1]) H.ok rfl ty76 rfl rfl rfl (fun _ => rfl) rfl) rfl rfl <| nq (Q_len Tryz.underlying76 rfl r3) rfl rfl <| nq (Q_move rfl) rfl rfl <| nq (Q_gtr rfl rfl) rfl rfl <| nq (Q_move rfl) rfl rfl ?_
  rcases Bool.eq_false_or_eq_true (decide ((x2.length : Int) > x10)) with hb | hb
  ·rw [hb]
   replace ho194 := itT hb ho194
   refine gs rfl rfl rfl rfl <| gs rfl rfl rfl rfl <| gs rfl rfl rfl rfl <| gs rfl rfl rfl rfl <| gs rfl rfl rfl rfl <| nq (Q_pickT rfl rfl) rfl rfl <| nq (Q_move rfl) rfl rfl <| gs rfl rfl rfl rfl <| gs rfl rfl rfl rfl <| gs rfl rfl rfl rfl <| gs rfl rfl rfl rfl <| nq (Q_pickT rfl rfl) rfl rfl <| WL_nil ?_
   replace H := H.f1
   replace H := H.f2
   obtain rfl := Option.some.inj ho194
   refine x_A fun a hf => ⟨true, rfl, hf.sub ⟨rfl, rfl, rfl, rfl, trivial⟩, H⟩
  ·rw [hb]
   replace ho194 := itF hb ho194
   refine gq (v := .pointer (some ⟨b186, 1, none⟩)) (Q_fld Tryz.underlying78 rfl ty23 (by decide) rfl rfl) rfl rfl rfl <| gq (v := v4) (Q_ldB (k := 2) (cs := [v4]) H.ok rfl ty23 rfl rfl rfl (fun _ => rfl) rfl) rfl rfl rfl <| gq (Q_len Tryz.underlying23 rfl r6) rfl rfl rfl <| gq (Q_move rfl) rfl rfl rfl <| gq (Q_gtr rfl rfl) rfl rfl rfl <| nq (Q_pickF rfl rfl) rfl rfl <| nq (Q_move rfl) rfl rfl ?_
   rcases Bool.eq_false_or_eq_true (decide ((x5.length : Int) > x10)) with hb | hb
   ·rw [hb]
    replace ho194 := itT hb ho194
    refine gs rfl rfl rfl rfl <| gs rfl rfl rfl rfl <| gs rfl rfl rfl rfl <| gs rfl rfl rfl rfl <| nq (Q_pickT rfl rfl) rfl rfl <| WL_nil ?_
    replace H := H.f1
    replace H := H.f2
    obtain rfl := Option.some.inj ho194
    refine x_A fun a hf => ⟨true, rfl, hf.sub ⟨rfl, rfl, rfl, rfl, trivial⟩, H⟩
   ·rw [hb]
    replace ho194 := itF hb ho194
    refine gq (v := .pointer (some ⟨b186, 2, none⟩)) (Q_fld Tryz.underlying78 rfl ty23 (by decide) rfl rfl) rfl rfl rfl <| gq (v := v7) (Q_ldB (k := 2) (cs := [v7]) H.ok rfl ty23 rfl rfl rfl (fun _ => rfl) rfl) rfl rfl rfl <| gq (Q_len Tryz.underlying23 rfl r9) rfl rfl rfl <| gq (Q_gtr rfl rfl) rfl rfl rfl <| nq (Q_pickF rfl rfl) rfl rfl <| WL_nil ?_
    replace H := H.f1
    replace H := H.f2
    obtain rfl := Option.some.inj ho194
    refine x_A fun a hf => ⟨decide ((x8.length : Int) > 20), rfl, hf.sub ⟨rfl, rfl, rfl, rfl, trivial⟩, H⟩
 ·rintro a wd195 ⟨x193, rfl, hf, H⟩
  try dsimp only at hF
  refine CW.at hf ?_
  refine C_cond rfl (fun hb => ?_) (fun hb => ?_)
  ·replace hF := itT hb hF
   refine C_seq <| R_nd <| nq (v := .agg #[.slice none 0 0, v4, v7]) (Q_ldB (k := 2) (cs := [.slice none 0 0, v4, v7]) H.ok rfl ty81 rfl rfl rfl (fun h => nomatch h) rfl) rfl rfl <| ne (E_stB (k := 1) (cs := [.slice none 0 0, v4, v7]) (vs' := [.slice none 0 0, v4, v7]) H rfl ty81 rfl rfl rfl rfl (one_cons rfl (one_cons (RdSl.one r6) (one_cons (RdSl.one r9) one_nil))) (by simp) rfl) rfl rfl ?_
   rintro _ wd196 H
   dsimp only [List.set] at H
   refine nq (Q_assign rfl) rfl rfl <| WL_nil <| x_then <| C_ret <| x_then_ret ?_
   have H := H.nilArr 256
   have hRV : RV Tryz.prog wd196 [(4, .pointer (some ⟨b188, 0, none⟩)), (5, .bool false)] [.cell 4 81, .tmp 5] [.agg #[(.slice none 0 0), v4, v7], .bool false] := ⟨⟨_, rfl, run_ldv ty81 rfl (fun h => nomatch h) (box_at (H.ok.get (k := 2) rfl) 0 3)⟩, rfl, trivial⟩
   replace H := H.drop 1 rfl
   dsimp only [List.eraseIdx] at H
   replace H := H.drop 1 rfl
   dsimp only [List.eraseIdx] at H
   replace H := H.drop 1 rfl
   dsimp only [List.eraseIdx] at H
   obtain rfl := Option.some.inj hF
   exact fn_retV (rs := [.cell 4 81, .tmp 5]) (vs := [.agg #[(.slice none 0 0), v4, v7], .bool false]) rfl hRV ⟨(.slice none 0 0), [], [], false, rfl, rfl, rdL.nil, H⟩
  ·replace hF := itF hb hF
   refine C_skip <| x_then <| C_seq <| C_seq <| R_nd <| nq (v := .pointer (some ⟨b186, 0, none⟩)) (Q_fld Tryz.underlying78 rfl ty76 (by decide) rfl rfl) rfl rfl <| nq (v := v1) (Q_ldB (k := 0) (cs := [v1]) H.ok rfl ty76 rfl rfl rfl (fun _ => rfl) rfl) rfl rfl <| nq (Q_len Tryz.underlying76 rfl r3) rfl rfl <| nq (Q_move rfl) rfl rfl <| WL_nil <| x_then ?_
   obtain ⟨o277, ho277, hF⟩ := bnd hF
   refine C_cutQ (fun a w' => ∃ (v273 : Value) (c274 : (List Value)) (x275 : (List (List Int))), x275 = o277 ∧ rdL (eA 256 (eI .i64)) ρ x275 c274 ∧ Fr 48 a [(4, .pointer (some ⟨b188, 0, none⟩)), (6, .pointer (some ⟨b190, 0, none⟩))] ∧ Hp C w' ρ (Box b188 [.slice none 0 0, .slice none 0 0, .slice none 0 0] :: Box b190 [v273, v4, v7] :: Arr v273 256 c274 :: hs)) ?_ ?_
   ·refine C_block ?_
    have H := H.nilArr 256
    replace H := H.f3
    replace H := H.f3
    replace H := H.drop 3 rfl
    dsimp only [List.eraseIdx] at H
    refine C_iter (f := fun s => F_dofferlaw17_Of_l0 N x2 s.1 s.2) ho277 (fun s a w' => ∃ (v303 : Value) (c304 : (List Value)) (x302 : Int) (x305 : (List (List Int))), (x302, x305) = s ∧ rdL (eA 256 (eI .i64)) ρ x305 c304 ∧ Fr 48 a [(4, .pointer (some ⟨b188, 0, none⟩)), (6, .pointer (some ⟨b190, 0, none⟩)), (34, v1), (35, .int .i64 (x2.length : Int)), (36, .int .i64 x302)] ∧ Hp C w' ρ (Box b188 [.slice none 0 0, .slice none 0 0, .slice none 0 0] :: Box b190 [v303, v4, v7] :: Arr v303 256 c304 :: hs)) ?_ ?_
    ·exact fun a hf => ⟨(.slice none 0 0), [], 0, [], rfl, rdL.nil, hf.sub ⟨rfl, rfl, rfl, rfl, rfl, trivial⟩, H⟩
    ·rintro s o331 a wd334 ⟨v303, c304, x302, x305, rfl, r306, hf, H⟩ hB332 hO333
     replace hB332 : F_dofferlaw17_Of_l0 N x2 x302 x305 = some o331 := hB332
     unfold F_dofferlaw17_Of_l0 at hB332
     refine CW.at hf <| C_seq <| R_nd <| nq (Q_lss rfl rfl) rfl rfl <| WL_nil <| x_then <| C_seq ?_
     refine C_cond rfl (fun hb => ?_) (fun hb => ?_)
     ·replace hB332 := itT hb hB332
      refine C_skip <| x_then <| C_seq <| C_block <| C_seq <| R_nd ?_
      obtain ⟨x335, hx335, hB332⟩ := bnd hB332
      obtain ⟨b336, o337, c338, hc339, ha340, hi341⟩ := idxR r3 hx335
      refine nq (Q_idx hi341 Tryz.underlying76 ty88 rfl rfl) rfl rfl <| nq (v := .agg c338.toArray) (Q_ld (ha340.up H.ok.view) ty88 ((eA 256 (eI .i64)).len hc339) (fun h => nomatch h) rfl rfl) rfl rfl <| ne (E_allocA (N := 256) (n := 1) (zs := (repC 256 [.int .i64 0])) H ty88 rfl (by simp [repC_length])) rfl rfl ?_
      rintro _ wd343 ⟨b342, rfl, H⟩
      refine ne (E_stW (k := 0) H rfl ty88 rfl rfl (rdL.one hc339.2) (arr_clen (rdL_rep (e:=(eI .i64)) (ρ:=ρ) (rfl) 256) List.length_replicate) (arr_clen hc339.2 hc339.1)) rfl rfl ?_
      rintro _ wd344 H
      dsimp only [List.set] at H
      refine WL_nil <| x_then <| R_nd <| nq (v := .pointer (some ⟨b190, 0, none⟩)) (Q_fld Tryz.underlying81 rfl ty79 (by decide) rfl rfl) rfl rfl <| nq (v := v303) (Q_ldB (k := 2) (cs := [v303]) H.ok rfl ty79 rfl rfl rfl (fun _ => rfl) rfl) rfl rfl <| nq (Q_ldW (k := 0) H.ok rfl ty88 rfl (arr_clen hc339.2 hc339.1)) rfl rfl <| ne (E_bslice (xs := [.tmp 42]) (vs := [.agg c338.toArray]) H Tryz.underlying79 ty87 (by decide) (cs := c338) rfl (sz_cons (arr_clen hc339.2 hc339.1) sz_nil) (by simp [Value.cells]) (by simp) (by simp) rfl rfl) rfl rfl ?_
      rintro _ wd346 ⟨b345, rfl, H⟩
      obtain ⟨x347, hx347, hB332⟩ := bnd hB332
      obtain ⟨ha348a, ha348b⟩ := app_some hx347
      have r350 : rdL (eA 256 (eI .i64)) ρ x347 (c304 ++ c338) := ha348b ▸ rdL.app r306 (show rdL (eA 256 (eI .i64)) ρ ([x335]) c338 from rdL.single ⟨hc339.1, hc339.2⟩)
      refine ne (E_append (k := 4) H rfl Tryz.underlying79 ty87 rfl (by decide) (by decide) rfl rfl (Src.ofArr (k := 0) H.ok rfl) (rdL.one (show rdL (eA 256 (eI .i64)) ρ ([x335]) c338 from rdL.single ⟨hc339.1, hc339.2⟩)) (app_fit r306 (show rdL (eA 256 (eI .i64)) ρ ([x335]) c338 from rdL.single ⟨hc339.1, hc339.2⟩) ha348a)) rfl rfl ?_
      rintro v349 wd352 ⟨H, hc351⟩
      dsimp only [List.set] at H
      refine nq (v := .pointer (some ⟨b190, 0, none⟩)) (Q_fld Tryz.underlying81 rfl ty79 (by decide) rfl rfl) rfl rfl <| ne (E_stB (k := 3) (cs := [v349]) (vs' := [v349, v4, v7]) H rfl ty79 rfl rfl (arr_cells (H.ok.get (k := 4) rfl)).1 rfl (one_cons (arr_cells (H.ok.get (k := 4) rfl)).2 one_nil) (by simp) rfl) rfl rfl ?_
      rintro _ wd353 H
      dsimp only [List.set] at H
      refine WL_nil <| x_block <| x_then <| R_nd <| nq (Q_add rfl rfl) rfl rfl <| nq (Q_move rfl) rfl rfl <| WL_nil ?_
      replace H := H.f4
      replace H := H.f4
      replace H := H.f4
      replace H := H.drop 3 rfl
      dsimp only [List.eraseIdx] at H
      replace H := H.drop 3 rfl
      dsimp only [List.eraseIdx] at H
      obtain rfl := Option.some.inj hB332
      refine x_A fun a hf => ⟨_, rfl, v349, (c304 ++ c338), w64 (x302 + 1), x347, rfl, r350, hf.sub ⟨rfl, rfl, rfl, rfl, rfl, trivial⟩, H⟩
     ·replace hB332 := itF hb hB332
      refine C_exit <| x_then_exit <| x_then_exit <| x_block_exit ?_
      replace H := H.f2
      replace H := H.f2
      replace H := H.f2
      obtain rfl := Option.some.inj hB332
      obtain rfl := hO333 _ rfl
      refine x_A fun a hf => ⟨v303, c304, x305, rfl, r306, hf.sub ⟨rfl, rfl, trivial⟩, H⟩
   ·rintro a wd354 ⟨v273, c274, x275, rfl, r276, hf, H⟩
    try dsimp only at hF
    refine XX.at hf <| x_then <| C_seq <| R_nd <| nq (v := .agg #[v273, v4, v7]) (Q_ldB (k := 1) (cs := [v273, v4, v7]) H.ok rfl ty81 rfl rfl rfl (fun h => nomatch h) rfl) rfl rfl <| ne (E_stB (k := 0) (cs := [v273, v4, v7]) (vs' := [v273, v4, v7]) H rfl ty81 rfl rfl rfl rfl (one_cons (arr_cells (H.ok.get (k := 2) rfl)).2 (one_cons (RdSl.one r6) (one_cons (RdSl.one r9) one_nil))) (by simp) rfl) rfl rfl ?_
    rintro _ wd355 H
    dsimp only [List.set] at H
    refine nq (Q_assign rfl) rfl rfl <| WL_nil <| x_then <| C_ret ?_
    have hRV : RV Tryz.prog wd355 [(4, .pointer (some ⟨b188, 0, none⟩)), (5, .bool true)] [.cell 4 81, .tmp 5] [.agg #[v273, v4, v7], .bool true] := ⟨⟨_, rfl, run_ldv ty81 rfl (fun h => nomatch h) (box_at (H.ok.get (k := 0) rfl) 0 3)⟩, rfl, trivial⟩
    replace H := H.f2
    replace H := H.drop 1 rfl
    dsimp only [List.eraseIdx] at H
    replace H := H.drop 1 rfl
    dsimp only [List.eraseIdx] at H
    obtain rfl := Option.some.inj hF
    exact fn_retV (rs := [.cell 4 81, .tmp 5]) (vs := [.agg #[v273, v4, v7], .bool true]) rfl hRV ⟨v273, c274, x275, true, rfl, rfl, r276, H⟩
theorem c_97 {N : Nat} {C : Cx} {w : World} {ρ : View} {hs : List Hl} {v : Value} {x : (List (List Int))} (H : Hp C w ρ (hs)) (r3 : RdSl ρ (eA 256 (eI .i64)) v x) {r : (List (List Int))} (hF : F_clone_97 N x = some r) :
  Calls Tryz.prog 97 [v].toArray w (Rets (fun v w' => (∃ (v1 : Value) (c1 : List Value) (x1 : (List (List Int))), x1 = r ∧ v1 = v ∧ rdL (eA 256 (eI .i64)) ρ x1 c1 ∧ Hp C w' ρ (Arr v1 256 c1 :: hs)))) := by
 unfold F_clone_97 at hF
 refine fn_calls' (args := [v]) Tryz.func97 rfl (n := 8) rfl (by simp) ?_
 refine C_seq ?_
 refine R_nd ?_
 refine nq (v := .slice none 0 0) (Q_assign rfl) rfl rfl ?_
 refine WL_nil ?_
 refine x_then ?_
 refine C_seq ?_
 refine C_seq ?_
 refine R_nd ?_
 refine nq (v := v) (Q_move rfl) rfl rfl ?_
 obtain ⟨o, c, news, rfl, hn, hs3⟩ : ∃ o c news, v = .slice o x.length c ∧ rdL (eA 256 (eI .i64)) ρ x news ∧ (o = none → x = []) ∧ ∀ h', View.le ρ h' → Eng.Src h' v 256 news := by
  rcases r3 with ⟨ad, cap, rfl, rfl⟩ | ⟨b, o, cap, cs, rfl, _, h2, h3⟩
  ·exact ⟨ad, cap, [], rfl, rdL.nil, fun _ => rfl, fun _ _ => .inl ⟨ad, cap, rfl, rfl⟩⟩
  ·exact ⟨_, cap, cs, rfl, h2, fun h => (nomatch h), fun _ hl => .inr ⟨b, o, _, cap, rfl, h2.len, h3.up hl⟩⟩
 obtain ⟨hs3, hs4⟩ := hs3
 cases o with
 | none =>
  obtain rfl := hs3 rfl
  refine nq (v := .bool true) (Q_eqlS (o := none) Tryz.underlying76 rfl) rfl rfl ?_
  refine WL_nil ?_
  refine x_then ?_
  refine C_cond rfl (fun _ => ?_) (fun h => nomatch h)
  refine C_seq ?_
  refine R_nd ?_
  refine nq (v := .slice none 0 0) (Q_assign rfl) rfl rfl ?_
  refine WL_nil ?_
  refine x_then ?_
  refine C_ret ?_
  refine x_then_ret ?_
  obtain ⟨_, rfl⟩ := app_some hF
  exact fn_ret (l := [.tmp 2]) (vs := [.slice none 0 0]) rfl rfl rfl ⟨_, [], _, rfl, rfl, rdL.nil, H.nilArr 256⟩
 | some a =>
  refine nq (v := .bool false) (Q_eqlS (o := some a) Tryz.underlying76 rfl) rfl rfl ?_
  refine WL_nil ?_
  refine x_then ?_
  refine C_cond rfl (fun h => nomatch h) (fun _ => ?_)
  refine C_skip ?_
  refine x_then ?_
  obtain ⟨ha, rfl⟩ := app_some hF
  refine C_seq ?_
  refine R_nd ?_
  refine ne (E_bslice0 H Tryz.underlying76 ty88) rfl rfl ?_
  rintro _ w1 ⟨b1, rfl, H1⟩
  refine nq (Q_move rfl) rfl rfl ?_
  have hs5 := hs4 _ H1.view
  refine ne (E_append (k := 0) (cs := []) (news := news) H1 rfl Tryz.underlying76 ty88 rfl (by decide) (by decide) rfl rfl hs5 (rdL.one hn) (app_fit rdL.nil hn ha)) rfl rfl ?_
  rintro v2 w2 ⟨H2, _⟩
  refine nq (v := v2) (Q_assign rfl) rfl rfl ?_
  refine WL_nil ?_
  refine x_then ?_
  refine C_ret ?_
  exact fn_ret (l := [.tmp 2]) (vs := [v2]) rfl rfl rfl ⟨v2, _, _, rfl, rfl, rdL.app rdL.nil hn, H2⟩
theorem c_73 {N : Nat} {C : Cx} {w : World} {ρ : View} {hs : List Hl} {v : Value} {x : (List Int)} (H : Hp C w ρ (hs)) (r3 : RdSl ρ (eI .i64) v x) {r : (List Int)} (hF : F_clone_73 N x = some r) :
  Calls Tryz.prog 73 [v].toArray w (Rets (fun v w' => (∃ (v1 : Value) (c1 : List Value) (x1 : (List Int)), x1 = r ∧ v1 = v ∧ rdL (eI .i64) ρ x1 c1 ∧ Hp C w' ρ (Arr v1 1 c1 :: hs)))) := by
 unfold F_clone_73 at hF
 refine fn_calls' (args := [v]) Tryz.func73 rfl (n := 8) rfl (by simp) ?_
 refine C_seq ?_
 refine R_nd ?_
 refine nq (v := .slice none 0 0) (Q_assign rfl) rfl rfl ?_
 refine WL_nil ?_
 refine x_then ?_
 refine C_seq ?_
 refine C_seq ?_
 refine R_nd ?_
 refine nq (v := v) (Q_move rfl) rfl rfl ?_
 obtain ⟨o, c, news, rfl, hn, hs3⟩ : ∃ o c news, v = .slice o x.length c ∧ rdL (eI .i64) ρ x news ∧ (o = none → x = []) ∧ ∀ h', View.le ρ h' → Eng.Src h' v 1 news := by
  rcases r3 with ⟨ad, cap, rfl, rfl⟩ | ⟨b, o, cap, cs, rfl, _, h2, h3⟩
  ·exact ⟨ad, cap, [], rfl, rdL.nil, fun _ => rfl, fun _ _ => .inl ⟨ad, cap, rfl, rfl⟩⟩
  ·exact ⟨_, cap, cs, rfl, h2, fun h => (nomatch h), fun _ hl => .inr ⟨b, o, _, cap, rfl, h2.len, h3.up hl⟩⟩
 obtain ⟨hs3, hs4⟩ := hs3
 cases o with
 | none =>
  obtain rfl := hs3 rfl
  refine nq (v := .bool true) (Q_eqlS (o := none) Tryz.underlying23 rfl) rfl rfl ?_
  refine WL_nil ?_
  refine x_then ?_
  refine C_cond rfl (fun _ => ?_) (fun h => nomatch h)
  refine C_seq ?_
  refine R_nd ?_
  refine nq (v := .slice none 0 0) (Q_assign rfl) rfl rfl ?_
  refine WL_nil ?_
  refine x_then ?_
  refine C_ret ?_
  refine x_then_ret ?_
  obtain ⟨_, rfl⟩ := app_some hF
  exact fn_ret (l := [.tmp 2]) (vs := [.slice none 0 0]) rfl rfl rfl ⟨_, [], _, rfl, rfl, rdL.nil, H.nilArr 1⟩
 | some a =>
  refine nq (v := .bool false) (Q_eqlS (o := some a) Tryz.underlying23 rfl) rfl rfl ?_
  refine WL_nil ?_
  refine x_then ?_
  refine C_cond rfl (fun h => nomatch h) (fun _ => ?_)
  refine C_skip ?_
  refine x_then ?_
  obtain ⟨ha, rfl⟩ := app_some hF
  refine C_seq ?_
  refine R_nd ?_
  refine ne (E_bslice0 H Tryz.underlying23 ty3) rfl rfl ?_
  rintro _ w1 ⟨b1, rfl, H1⟩
  refine nq (Q_move rfl) rfl rfl ?_
  have hs5 := hs4 _ H1.view
  refine ne (E_append (k := 0) (cs := []) (news := news) H1 rfl Tryz.underlying23 ty3 rfl (by decide) (by decide) rfl rfl hs5 (rdL.one hn) (app_fit rdL.nil hn ha)) rfl rfl ?_
  rintro v2 w2 ⟨H2, _⟩
  refine nq (v := v2) (Q_assign rfl) rfl rfl ?_
  refine WL_nil ?_
  refine x_then ?_
  refine C_ret ?_
  exact fn_ret (l := [.tmp 2]) (vs := [v2]) rfl rfl rfl ⟨v2, _, _, rfl, rfl, rdL.app rdL.nil hn, H2⟩
theorem c_47 {N : Nat} {C : Cx} {w : World} {ρ : View} {hs : List Hl} {gV : Nat → Value} {v1 : Value} {v4 : Value} {v7 : Value} {x2 : (List (List Int))} {x5 : (List Int)} {x8 : (List Int)} (H : Hp C w ρ (hs)) (_gle : GErrs ρ 394 errIds gV) (r3 : RdSl ρ (eA 256 (eI .i64)) v1 x2) (r6 : RdSl ρ (eI .i64) v4 x5) (r9 : RdSl ρ (eI .i64) v7 x8) {r : ((List (List Int)) × (List Int) × (List Int))} (hF : F_subset_Copy N x2 x5 x8 = some r) :
  Calls Tryz.prog 47 [.agg #[v1, v4, v7]].toArray w (Rets (fun v w' => (∃ (v72 : Value) (c73 : (List Value)) (v76 : Value) (c77 : (List Value)) (v80 : Value) (c81 : (List Value)) (x74 : (List (List Int))) (x78 : (List Int)) (x82 : (List Int)), (x74, x78, x82) = r ∧ .agg #[v72, v76, v80] = v ∧ rdL (eA 256 (eI .i64)) ρ x74 c73 ∧ rdL (eI .i64) ρ x78 c77 ∧ rdL (eI .i64) ρ x82 c81 ∧ Hp C w' ρ (Arr v72 256 c73 :: Arr v76 1 c77 :: Arr v80 1 c81 :: hs)))) := by
 unfold F_subset_Copy at hF
 have h0 : Tryz.f47.body = some _ := rfl
 refine fn_calls' Tryz.func47 h0 (n := 13) rfl (by simp) <| C_seq <| R_nd <| ne (E_box H (vs := [v1, v4, v7]) rfl rfl) rfl rfl ?_
 rintro _ wd85 ⟨b84, rfl, H⟩
 refine ne (E_alloc H ty78 (zs := [.slice none 0 0, .slice none 0 0, .slice none 0 0]) rfl) rfl rfl ?_
 rintro _ wd87 ⟨b86, rfl, H⟩
 refine WL_nil <| x_then ?_
 obtain ⟨o122, ho122, hF⟩ := bnd hF
 refine C_cut (fun a w' => ∃ (v110 : Value) (c111 : (List Value)) (v114 : Value) (c115 : (List Value)) (v118 : Value) (c119 : (List Value)) (x112 : (List (List Int))) (x116 : (List Int)) (x120 : (List Int)), (x112, x116, x120) = o122 ∧ rdL (eA 256 (eI .i64)) ρ x112 c111 ∧ rdL (eI .i64) ρ x116 c115 ∧ rdL (eI .i64) ρ x120 c119 ∧ Fr 13 a [(2, .pointer (some ⟨b86, 0, none⟩))] ∧ Hp C w' ρ (Box b86 [v110, v114, v118] :: Arr v110 256 c111 :: Arr v114 1 c115 :: Arr v118 1 c119 :: hs)) ?_ ?_
 ·refine R_dr (.take 0 (.take 1 (.take 3 (.take 4 (.take 6 (.take 7 (.one 2 (.one 5 (.one 8 (.take 9 (.one 10 .done))))))))))) (fun w' => Ok w' ρ [Box b84 [v1, v4, v7]]) (by kernel_rfl) (by kernel_rfl) (by kernel_rfl) (H.drew.okS (by simp)) ?_
  replace H := H.drew
  refine dq (v := .pointer (some ⟨b84, 0, none⟩)) rfl (fun _ _ => Q_fld Tryz.underlying78 rfl ty76 (by decide) rfl rfl) rfl rfl <| dq (v := v1) rfl (fun _ hw => Q_ldB (k := 0) (cs := [v1]) hw rfl ty76 rfl rfl rfl (fun _ => rfl) rfl) rfl rfl <| dq (v := .pointer (some ⟨b84, 1, none⟩)) rfl (fun _ _ => Q_fld Tryz.underlying78 rfl ty23 (by decide) rfl rfl) rfl rfl <| dq (v := v4) rfl (fun _ hw => Q_ldB (k := 0) (cs := [v4]) hw rfl ty23 rfl rfl rfl (fun _ => rfl) rfl) rfl rfl <| dq (v := .pointer (some ⟨b84, 2, none⟩)) rfl (fun _ _ => Q_fld Tryz.underlying78 rfl ty23 (by decide) rfl rfl) rfl rfl <| dq (v := v7) rfl (fun _ hw => Q_ldB (k := 0) (cs := [v7]) hw rfl ty23 rfl rfl rfl (fun _ => rfl) rfl) rfl rfl ?_
  obtain ⟨q123, hq123, ho122⟩ := bnd ho122
  refine d1 (de rfl (E_call fn97 rfl (c_97 H  r3 hq123)) rfl rfl ?_)
  rintro _ wd129 ⟨v125, c126, x127, rfl, rfl, r128, H⟩
  try dsimp only at ho122
  refine ⟨H.okS (by simp), ?_⟩
  obtain ⟨q130, hq130, ho122⟩ := bnd ho122
  refine d1 (de rfl (E_call fn73 rfl (c_73 H  r6 hq130)) rfl rfl ?_)
  rintro _ wd136 ⟨v132, c133, x134, rfl, rfl, r135, H⟩
  try dsimp only at ho122
  refine ⟨H.okS (by simp), ?_⟩
  obtain ⟨q137, hq137, ho122⟩ := bnd ho122
  refine d1 (de rfl (E_call fn73 rfl (c_73 H  r9 hq137)) rfl rfl ?_)
  rintro _ wd143 ⟨v139, c140, x141, rfl, rfl, r142, H⟩
  try dsimp only at ho122
  refine ⟨H.okS (by simp), ?_⟩
  refine dq (v := .agg #[v125, v132, v139]) rfl (fun _ _ => Q_buildS st78.choose_spec (ps := [(0, [v125]), (1, [v132]), (2, [v139])]) rfl ⟨rfl, (arr_cells (H.ok.get (k := 2) rfl)).1, by simp, ⟨rfl, (arr_cells (H.ok.get (k := 1) rfl)).1, by simp, ⟨rfl, (arr_cells (H.ok.get (k := 0) rfl)).1, by simp, trivial⟩⟩⟩ rfl) rfl rfl ?_
  refine d1 (de rfl (E_stB (k := 3) (cs := [v125, v132, v139]) (vs' := [v125, v132, v139]) H rfl ty78 rfl rfl rfl rfl (one_cons (arr_cells (H.ok.get (k := 2) rfl)).2 (one_cons (arr_cells (H.ok.get (k := 1) rfl)).2 (one_cons (arr_cells (H.ok.get (k := 0) rfl)).2 one_nil))) (by simp) rfl) rfl rfl ?_)
  rintro _ wd144 H
  dsimp only [List.set] at H
  refine ⟨H.okS (by simp), ?_⟩
  refine DL_nil ?_
  replace H := H.f1
  replace H := H.f2
  replace H := H.f3
  replace H := H.drop 4 rfl
  dsimp only [List.eraseIdx] at H
  obtain rfl := Option.some.inj ho122
  refine x_A fun a hf => ⟨v125, c126, v132, c133, v139, c140, x127, x134, x141, rfl, r128, r135, r142, hf.sub ⟨rfl, trivial⟩, H⟩
 ·rintro a wd145 ⟨v110, c111, v114, c115, v118, c119, x112, x116, x120, rfl, r113, r117, r121, hf, H⟩
  try dsimp only at hF
  refine CW.at hf <| C_ret ?_
  have hRV : RV Tryz.prog wd145 [(2, .pointer (some ⟨b86, 0, none⟩))] [.cell 2 78] [.agg #[v110, v114, v118]] := ⟨⟨_, rfl, run_ldv ty78 rfl (fun h => nomatch h) (box_at (H.ok.get (k := 0) rfl) 0 3)⟩, trivial⟩
  replace H := H.f3
  replace H := H.f3
  replace H := H.f3
  replace H := H.drop 3 rfl
  dsimp only [List.eraseIdx] at H
  obtain rfl := Option.some.inj hF
  exact fn_retV (rs := [.cell 2 78]) (vs := [.agg #[v110, v114, v118]]) rfl hRV ⟨v110, c111, v114, c115, v118, c119, x112, x116, x120, rfl, rfl, r113, r117, r121, H⟩
theorem c_98 {N : Nat} {C : Cx} {w : World} {ρ : View} {hs : List Hl} {gV : Nat → Value} {v1 : Value} {v4 : Value} {x2 : (List (List Int))} {x5 : (List (List Int))} (H : Hp C w ρ (hs)) (_gle : GErrs ρ 394 errIds gV) (r3 : RdSl ρ (eA 256 (eI .i64)) v1 x2) (r6 : RdSl ρ (eA 256 (eI .i64)) v4 x5) {r : Bool} (hF : F_slices_Equal_subset_Row_subset_Row N x2 x5 = some r) :
  Calls Tryz.prog 98 [v1, v4].toArray w (Rets (fun v w' => (∃ (x107 : Bool), x107 = r ∧ .bool x107 = v ∧ Hp C w' ρ (hs)))) := by
 unfold F_slices_Equal_subset_Row_subset_Row at hF
 have h0 : Tryz.f98.body = some _ := rfl
 refine fn_calls' Tryz.func98 h0 (n := 26) rfl (by simp) <| C_seq <| R_nd <| nq (Q_assign rfl) rfl rfl <| WL_nil <| x_then <| C_seq <| C_seq <| R_nd <| nq (Q_move rfl) rfl rfl <| nq (Q_len Tryz.underlying76 rfl r3) rfl rfl <| nq (Q_move rfl) rfl rfl <| nq (Q_len Tryz.underlying76 rfl r6) rfl rfl <| nq (Q_neq rfl rfl) rfl rfl ?_
 refine WL_nil <| x_then ?_
 refine C_cond rfl (fun hb => ?_) (fun hb => ?_)
 ·replace hF := itT hb hF
  refine C_seq <| R_nd <| nq (Q_assign rfl) rfl rfl <| WL_nil <| x_then <| C_ret <| x_then_ret ?_
  obtain rfl := Option.some.inj hF
  exact fn_ret (l := [.tmp 4]) (vs := [.bool false]) rfl rfl rfl ⟨false, rfl, rfl, H⟩
 ·replace hF := itF hb hF
  refine C_skip <| x_then <| C_seq <| C_seq <| R_nd <| nq (Q_move rfl) rfl rfl <| nq (Q_len Tryz.underlying76 rfl r3) rfl rfl <| nq (Q_move rfl) rfl rfl <| WL_nil <| x_then ?_
  obtain ⟨o157, ho157, hF⟩ := bnd hF
  refine C_cutQ (fun a w' => .inl () = o157 ∧ Fr 26 a [] ∧ Hp C w' ρ (hs)) ?_ ?_
  ·refine C_block ?_
   refine C_iter (f := fun s => F_slices_Equal_subset_Row_subset_Row_l0 N x2 x5 s) ho157 (fun s a w' => ∃ (x173 : Int), x173 = s ∧ Fr 26 a [(0, v1), (1, v4), (12, .int .i64 (x2.length : Int)), (13, .int .i64 x173)] ∧ Hp C w' ρ (hs)) ?_ ?_
   ·exact fun a hf => ⟨0, rfl, hf.sub ⟨rfl, rfl, rfl, rfl, trivial⟩, H⟩
   ·rintro s o189 a wd192 ⟨x173, rfl, hf, H⟩ hB190 hO191
    replace hB190 : F_slices_Equal_subset_Row_subset_Row_l0 N x2 x5 x173 = some o189 := hB190
    unfold F_slices_Equal_subset_Row_subset_Row_l0 at hB190
    refine CW.at hf <| C_seq <| R_nd <| nq (Q_lss rfl rfl) rfl rfl <| WL_nil <| x_then <| C_seq ?_
    refine C_cond rfl (fun hb => ?_) (fun hb => ?_)
    ·replace hB190 := itT hb hB190
     refine C_skip <| x_then <| C_seq <| C_block <| C_seq <| R_nd <| nq (Q_move rfl) rfl rfl <| nq (Q_assign rfl) rfl rfl <| WL_nil <| x_then <| C_seq <| R_dr (.take 0 (.take 1 (.take 2 (.take 3 (.take 4 (.take 5 (.take 6 (.take 7 (.take 8 .done))))))))) (fun w' => Ok w' ρ []) (by kernel_rfl) (by kernel_rfl) (by kernel_rfl) (H.drew.okS (by simp)) ?_
     replace H := H.drew
     refine dq rfl (fun _ _ => Q_move rfl) rfl rfl <| dq rfl (fun _ _ => Q_move rfl) rfl rfl ?_
     obtain ⟨x193, hx193, hB190⟩ := bnd hB190
     obtain ⟨b194, o195, c196, hc197, ha198, hi199⟩ := idxR r3 hx193
     refine dq rfl (fun _ _ => Q_idx hi199 Tryz.underlying76 ty88 rfl rfl) rfl rfl <| dq (v := .agg c196.toArray) rfl (fun _ hw => Q_ld (ha198.up hw.view) ty88 ((eA 256 (eI .i64)).len hc197) (fun h => nomatch h) rfl rfl) rfl rfl <| dq rfl (fun _ _ => Q_move rfl) rfl rfl <| dq rfl (fun _ _ => Q_move rfl) rfl rfl ?_
     obtain ⟨x200, hx200, hB190⟩ := bnd hB190
     obtain ⟨b201, o202, c203, hc204, ha205, hi206⟩ := idxR r6 hx200
     refine dq rfl (fun _ _ => Q_idx hi206 Tryz.underlying76 ty88 rfl rfl) rfl rfl <| dq (v := .agg c203.toArray) rfl (fun _ hw => Q_ld (ha205.up hw.view) ty88 ((eA 256 (eI .i64)).len hc204) (fun h => nomatch h) rfl rfl) rfl rfl <| dq (v := .bool (x193 != x200)) rfl (fun _ _ => Q_neqA Tryz.underlying88 ty3 (by kernel_rfl) Tryz.underlying3 hc197.2 hc197.1 hc204.2 hc204.1 rfl rfl) rfl rfl <| DL_nil <| x_then ?_
     refine C_cond rfl (fun hb => ?_) (fun hb => ?_)
     ·replace hB190 := itT hb hB190
      refine C_seq <| R_nd <| nq (Q_assign rfl) rfl rfl <| WL_nil <| x_then <| C_ret <| x_block_ret <| x_then_ret <| x_then_ret <| x_block_ret <| x_then_ret <| x_then_ret ?_
      obtain rfl := Option.some.inj hB190
      obtain rfl := hO191 _ rfl
      obtain rfl := Option.some.inj (show some _ = some _ from hF)
      exact fn_ret (l := [.tmp 4]) (vs := [.bool false]) rfl rfl rfl ⟨false, rfl, rfl, H⟩
     ·replace hB190 := itF hb hB190
      refine C_skip <| x_block <| x_then <| R_nd <| nq (Q_add rfl rfl) rfl rfl <| nq (Q_move rfl) rfl rfl <| WL_nil ?_
      obtain rfl := Option.some.inj hB190
      refine x_A fun a hf => ⟨_, rfl, w64 (x173 + 1), rfl, hf.sub ⟨rfl, rfl, rfl, rfl, trivial⟩, H⟩
    ·replace hB190 := itF hb hB190
     refine C_exit <| x_then_exit <| x_then_exit <| x_block_exit ?_
     obtain rfl := Option.some.inj hB190
     obtain rfl := hO191 _ rfl
     refine x_A fun a hf => ⟨rfl, hf.sub trivial, H⟩
  ·rintro a wd207 ⟨rfl, hf, H⟩
   try dsimp only at hF
   refine XX.at hf <| x_then <| C_seq <| R_nd <| nq (Q_assign rfl) rfl rfl <| WL_nil <| x_then <| C_ret ?_
   obtain rfl := Option.some.inj hF
   exact fn_ret (l := [.tmp 4]) (vs := [.bool true]) rfl rfl rfl ⟨true, rfl, rfl, H⟩
theorem c_77 {N : Nat} {C : Cx} {w : World} {ρ : View} {hs : List Hl} {gV : Nat → Value} {v1 : Value} {v4 : Value} {x2 : (List Int)} {x5 : (List Int)} (H : Hp C w ρ (hs)) (_gle : GErrs ρ 394 errIds gV) (r3 : RdSl ρ (eI .i64) v1 x2) (r6 : RdSl ρ (eI .i64) v4 x5) {r : Bool} (hF : F_slices_Equal_int_int N x2 x5 = some r) :
  Calls Tryz.prog 77 [v1, v4].toArray w (Rets (fun v w' => (∃ (x107 : Bool), x107 = r ∧ .bool x107 = v ∧ Hp C w' ρ (hs)))) := by
 unfold F_slices_Equal_int_int at hF
 have h0 : Tryz.f77.body = some _ := rfl
 refine fn_calls' Tryz.func77 h0 (n := 26) rfl (by simp) <| C_seq <| R_nd <| nq (Q_assign rfl) rfl rfl <| WL_nil <| x_then <| C_seq <| C_seq <| R_nd <| nq (Q_move rfl) rfl rfl <| nq (Q_len Tryz.underlying23 rfl r3) rfl rfl <| nq (Q_move rfl) rfl rfl <| nq (Q_len Tryz.underlying23 rfl r6) rfl rfl <| nq (Q_neq rfl rfl) rfl rfl ?_
 refine WL_nil <| x_then ?_
 refine C_cond rfl (fun hb => ?_) (fun hb => ?_)
 ·replace hF := itT hb hF
  refine C_seq <| R_nd <| nq (Q_assign rfl) rfl rfl <| WL_nil <| x_then <| C_ret <| x_then_ret ?_
  obtain rfl := Option.some.inj hF
  exact fn_ret (l := [.tmp 4]) (vs := [.bool false]) rfl rfl rfl ⟨false, rfl, rfl, H⟩
 ·replace hF := itF hb hF
  refine C_skip <| x_then <| C_seq <| C_seq <| R_nd <| nq (Q_move rfl) rfl rfl <| nq (Q_len Tryz.underlying23 rfl r3) rfl rfl <| nq (Q_move rfl) rfl rfl <| WL_nil <| x_then ?_
  obtain ⟨o157, ho157, hF⟩ := bnd hF
  refine C_cutQ (fun a w' => .inl () = o157 ∧ Fr 26 a [] ∧ Hp C w' ρ (hs)) ?_ ?_
  ·refine C_block ?_
   refine C_iter (f := fun s => F_slices_Equal_int_int_l0 N x2 x5 s) ho157 (fun s a w' => ∃ (x173 : Int), x173 = s ∧ Fr 26 a [(0, v1), (1, v4), (12, .int .i64 (x2.length : Int)), (13, .int .i64 x173)] ∧ Hp C w' ρ (hs)) ?_ ?_
   ·exact fun a hf => ⟨0, rfl, hf.sub ⟨rfl, rfl, rfl, rfl, trivial⟩, H⟩
   ·rintro s o189 a wd192 ⟨x173, rfl, hf, H⟩ hB190 hO191
    replace hB190 : F_slices_Equal_int_int_l0 N x2 x5 x173 = some o189 := hB190
    unfold F_slices_Equal_int_int_l0 at hB190
    refine CW.at hf <| C_seq <| R_nd <| nq (Q_lss rfl rfl) rfl rfl <| WL_nil <| x_then <| C_seq ?_
    refine C_cond rfl (fun hb => ?_) (fun hb => ?_)
    ·replace hB190 := itT hb hB190
     refine C_skip <| x_then <| C_seq <| C_block <| C_seq <| R_nd <| nq (Q_move rfl) rfl rfl <| nq (Q_assign rfl) rfl rfl <| WL_nil <| x_then <| C_seq <| R_dr (.take 0 (.take 1 (.take 2 (.take 3 (.take 4 (.take 5 (.take 6 (.take 7 (.take 8 .done))))))))) (fun w' => Ok w' ρ []) (by kernel_rfl) (by kernel_rfl) (by kernel_rfl) (H.drew.okS (by simp)) ?_
     replace H := H.drew
     refine dq rfl (fun _ _ => Q_move rfl) rfl rfl <| dq rfl (fun _ _ => Q_move rfl) rfl rfl ?_
     obtain ⟨x193, hx193, hB190⟩ := bnd hB190
     obtain ⟨b194, o195, c196, hc197, ha198, hi199⟩ := idxR r3 hx193
     refine dq rfl (fun _ _ => Q_idx hi199 Tryz.underlying23 ty3 rfl rfl) rfl rfl <| dq (v := .int .i64 x193) rfl (fun _ hw => Q_ld (show cellsAt _ _ _ [.int .i64 x193] from (show _ = [_] from hc197) ▸ (ha198.up hw.view)) ty3 rfl (fun _ => rfl) rfl rfl) rfl rfl <| dq rfl (fun _ _ => Q_move rfl) rfl rfl <| dq rfl (fun _ _ => Q_move rfl) rfl rfl ?_
     obtain ⟨x200, hx200, hB190⟩ := bnd hB190
     obtain ⟨b201, o202, c203, hc204, ha205, hi206⟩ := idxR r6 hx200
     refine dq rfl (fun _ _ => Q_idx hi206 Tryz.underlying23 ty3 rfl rfl) rfl rfl <| dq (v := .int .i64 x200) rfl (fun _ hw => Q_ld (show cellsAt _ _ _ [.int .i64 x200] from (show _ = [_] from hc204) ▸ (ha205.up hw.view)) ty3 rfl (fun _ => rfl) rfl rfl) rfl rfl <| dq rfl (fun _ _ => Q_neq rfl rfl) rfl rfl <| DL_nil <| x_then ?_
     refine C_cond rfl (fun hb => ?_) (fun hb => ?_)
     ·replace hB190 := itT hb hB190
      refine C_seq <| R_nd <| nq (Q_assign rfl) rfl rfl <| WL_nil <| x_then <| C_ret <| x_block_ret <| x_then_ret <| x_then_ret <| x_block_ret <| x_then_ret <| x_then_ret ?_
      obtain rfl := Option.some.inj hB190
      obtain rfl := hO191 _ rfl
      obtain rfl := Option.some.inj (show some _ = some _ from hF)
      exact fn_ret (l := [.tmp 4]) (vs := [.bool false]) rfl rfl rfl ⟨false, rfl, rfl, H⟩
     ·replace hB190 := itF hb hB190
      refine C_skip <| x_block <| x_then <| R_nd <| nq (Q_add rfl rfl) rfl rfl <| nq (Q_move rfl) rfl rfl <| WL_nil ?_
      obtain rfl := Option.some.inj hB190
      refine x_A fun a hf => ⟨_, rfl, w64 (x173 + 1), rfl, hf.sub ⟨rfl, rfl, rfl, rfl, trivial⟩, H⟩
    ·replace hB190 := itF hb hB190
     refine C_exit <| x_then_exit <| x_then_exit <| x_block_exit ?_
     obtain rfl := Option.some.inj hB190
     obtain rfl := hO191 _ rfl
     refine x_A fun a hf => ⟨rfl, hf.sub trivial, H⟩
  ·rintro a wd207 ⟨rfl, hf, H⟩
   try dsimp only at hF
   refine XX.at hf <| x_then <| C_seq <| R_nd <| nq (Q_assign rfl) rfl rfl <| WL_nil <| x_then <| C_ret ?_
   obtain rfl := Option.some.inj hF
   exact fn_ret (l := [.tmp 4]) (vs := [.bool true]) rfl rfl rfl ⟨true, rfl, rfl, H⟩
theorem c_48 {N : Nat} {C : Cx} {w : World} {ρ : View} {hs : List Hl} {gV : Nat → Value} {v1 : Value} {v4 : Value} {v7 : Value} {v10 : Value} {v13 : Value} {v16 : Value} {x2 : (List (List Int))} {x5 : (List Int)} {x8 : (List Int)} {x11 : (List (List Int))} {x14 : (List Int)} {x17 : (List Int)} (H : Hp C w ρ (hs)) (gle : GErrs ρ 394 errIds gV) (r3 : RdSl ρ (eA 256 (eI .i64)) v1 x2) (r6 : RdSl ρ (eI .i64) v4 x5) (r9 : RdSl ρ (eI .i64) v7 x8) (r12 : RdSl ρ (eA 256 (eI .i64)) v10 x11) (r15 : RdSl ρ (eI .i64) v13 x14) (r18 : RdSl ρ (eI .i64) v16 x17) {r : Bool} (hF : F_subset_Same N x2 x5 x8 x11 x14 x17 = some r) :
  Calls Tryz.prog 48 [.agg #[v1, v4, v7], .agg #[v10, v13, v16]].toArray w (Rets (fun v w' => (∃ (x50 : Bool), x50 = r ∧ .bool x50 = v ∧ Hp C w' ρ (hs)))) := by
 unfold F_subset_Same at hF
 have h0 : Tryz.f48.body = some _ := rfl
 refine fn_calls' Tryz.func48 h0 (n := 24) rfl (by simp) <| C_seq <| R_nd <| ne (E_box H (vs := [v1, v4, v7]) rfl rfl) rfl rfl ?_
 rintro _ wd52 ⟨b51, rfl, H⟩
 refine ne (E_box H (vs := [v10, v13, v16]) rfl rfl) rfl rfl ?_
 rintro _ wd54 ⟨b53, rfl, H⟩
 refine nq (Q_assign rfl) rfl rfl <| WL_nil <| x_then ?_
 obtain ⟨o68, ho68, hF⟩ := bnd hF
 refine C_cut (fun a w' => ∃ (x67 : Bool), x67 = o68 ∧ Fr 24 a [(4, .bool x67)] ∧ Hp C w' ρ (hs)) ?_ ?_
 ·refine R_nd <| nq (v := .pointer (some ⟨b51, 0, none⟩)) (Q_fld Tryz.underlying78 rfl ty76 (by decide) rfl rfl) rfl rfl <| nq (v := v1) (Q_ldB (k := 1) (cs := [v1]) H.ok rfl ty76 rfl rfl rfl (fun _ => rfl) rfl) rfl rfl <| nq (v := .pointer (some ⟨b53, 0, none⟩)) (Q_fld Tryz.underlying78 rfl ty76 (by decide) rfl rfl) rfl rfl <| nq (v := v10) (Q_ldB (k := 0) (cs := [v10]) H.ok rfl ty76 rfl rfl rfl (fun _ => rfl) rfl) rfl rfl ?_
  obtain ⟨q69, hq69, ho68⟩ := bnd ho68
  refine ne (E_call fn98 rfl (c_98 H gle  r3 r12 hq69)) rfl rfl ?_
  rintro _ wd72 ⟨x71, rfl, rfl, H⟩
  try dsimp only at ho68
  refine nq (Q_move rfl) rfl rfl ?_
  rcases Bool.eq_false_or_eq_true x71 with hb | hb
  ·rw [hb]
   replace ho68 := itT hb ho68
   refine gq (v := .pointer (some ⟨b51, 1, none⟩)) (Q_fld Tryz.underlying78 rfl ty23 (by decide) rfl rfl) rfl rfl rfl <| gq (v := v4) (Q_ldB (k := 1) (cs := [v4]) H.ok rfl ty23 rfl rfl rfl (fun _ => rfl) rfl) rfl rfl rfl <| gq (v := .pointer (some ⟨b53, 1, none⟩)) (Q_fld Tryz.underlying78 rfl ty23 (by decide) rfl rfl) rfl rfl rfl <| gq (v := v13) (Q_ldB (k := 0) (cs := [v13]) H.ok rfl ty23 rfl rfl rfl (fun _ => rfl) rfl) rfl rfl rfl ?_
   obtain ⟨q73, hq73, ho68⟩ := bnd ho68
   refine ge (E_call fn77 rfl (c_77 H gle  r6 r15 hq73)) rfl rfl rfl ?_
   rintro _ wd76 ⟨x75, rfl, rfl, H⟩
   try dsimp only at ho68
   refine nq (Q_pickT rfl rfl) rfl rfl <| nq (Q_move rfl) rfl rfl ?_
   rcases Bool.eq_false_or_eq_true x75 with hb | hb
   ·rw [hb]
    replace ho68 := itT hb ho68
    refine gq (v := .pointer (some ⟨b51, 2, none⟩)) (Q_fld Tryz.underlying78 rfl ty23 (by decide) rfl rfl) rfl rfl rfl <| gq (v := v7) (Q_ldB (k := 1) (cs := [v7]) H.ok rfl ty23 rfl rfl rfl (fun _ => rfl) rfl) rfl rfl rfl <| gq (v := .pointer (some ⟨b53, 2, none⟩)) (Q_fld Tryz.underlying78 rfl ty23 (by decide) rfl rfl) rfl rfl rfl <| gq (v := v16) (Q_ldB (k := 0) (cs := [v16]) H.ok rfl ty23 rfl rfl rfl (fun _ => rfl) rfl) rfl rfl rfl ?_
    obtain ⟨q77, hq77, ho68⟩ := bnd ho68
    refine ge (E_call fn77 rfl (c_77 H gle  r9 r18 hq77)) rfl rfl rfl ?_
    rintro _ wd80 ⟨x79, rfl, rfl, H⟩
    try dsimp only at ho68
    refine nq (Q_pickT rfl rfl) rfl rfl <| nq (Q_assign rfl) rfl rfl <| WL_nil ?_
    replace H := H.drop 0 rfl
    dsimp only [List.eraseIdx] at H
    replace H := H.drop 0 rfl
    dsimp only [List.eraseIdx] at H
    obtain rfl := Option.some.inj ho68
    refine x_A fun a hf => ⟨x79, rfl, hf.sub ⟨rfl, trivial⟩, H⟩
   ·rw [hb]
    replace ho68 := itF hb ho68
    refine gs rfl rfl rfl rfl <| gs rfl rfl rfl rfl <| gs rfl rfl rfl rfl <| gs rfl rfl rfl rfl <| gs rfl rfl rfl rfl <| nq (Q_pickF rfl rfl) rfl rfl <| nq (Q_assign rfl) rfl rfl <| WL_nil ?_
    replace H := H.drop 0 rfl
    dsimp only [List.eraseIdx] at H
    replace H := H.drop 0 rfl
    dsimp only [List.eraseIdx] at H
    obtain rfl := Option.some.inj ho68
    refine x_A fun a hf => ⟨false, rfl, hf.sub ⟨rfl, trivial⟩, H⟩
  ·rw [hb]
   replace ho68 := itF hb ho68
   refine gs rfl rfl rfl rfl <| gs rfl rfl rfl rfl <| gs rfl rfl rfl rfl <| gs rfl rfl rfl rfl <| gs rfl rfl rfl rfl <| nq (Q_pickF rfl rfl) rfl rfl <| nq (Q_move rfl) rfl rfl <| gs rfl rfl rfl rfl <| gs rfl rfl rfl rfl <| gs rfl rfl rfl rfl <| gs rfl rfl rfl rfl <| gs rfl rfl rfl rfl <| nq (Q_pickF rfl rfl) rfl rfl <| nq (Q_assign rfl) rfl rfl ?_
   refine WL_nil ?_
   replace H := H.drop 0 rfl
   dsimp only [List.eraseIdx] at H
   replace H := H.drop 0 rfl
   dsimp only [List.eraseIdx] at H
   obtain rfl := Option.some.inj ho68
   refine x_A fun a hf => ⟨false, rfl, hf.sub ⟨rfl, trivial⟩, H⟩
 ·rintro a wd81 ⟨x67, rfl, hf, H⟩
  try dsimp only at hF
  refine CW.at hf <| C_ret ?_
  obtain rfl := Option.some.inj hF
  exact fn_ret (l := [.tmp 4]) (vs := [.bool x67]) rfl rfl rfl ⟨x67, rfl, rfl, H⟩
theorem c_25 {N : Nat} {C : Cx} {w : World} {ρ : View} {hs : List Hl} {gV : Nat → Value} {v1 : Value} {v4 : Value} {x2 : (List Int)} {x5 : (List Int)} (H : Hp C w ρ (hs)) (_gle : GErrs ρ 394 errIds gV) (r3 : RdSl ρ (eI .i64) v1 x2) (r6 : RdSl ρ (eI .i64) v4 x5) {r : Bool} (hF : F_doffernum_SameInts N x2 x5 = some r) :
  Calls Tryz.prog 25 [v1, v4].toArray w (Rets (fun v w' => (∃ (x107 : Bool), x107 = r ∧ .bool x107 = v ∧ Hp C w' ρ (hs)))) := by
 unfold F_doffernum_SameInts at hF
 have h0 : Tryz.f25.body = some _ := rfl
 refine fn_calls' Tryz.func25 h0 (n := 26) rfl (by simp) <| C_seq <| R_nd <| nq (Q_assign rfl) rfl rfl <| WL_nil <| x_then <| C_seq <| C_seq <| R_nd <| nq (Q_move rfl) rfl rfl <| nq (Q_len Tryz.underlying23 rfl r3) rfl rfl <| nq (Q_move rfl) rfl rfl <| nq (Q_len Tryz.underlying23 rfl r6) rfl rfl <| nq (Q_neq rfl rfl) rfl rfl ?_
 refine WL_nil <| x_then ?_
 refine C_cond rfl (fun hb => ?_) (fun hb => ?_)
 ·replace hF := itT hb hF
  refine C_seq <| R_nd <| nq (Q_assign rfl) rfl rfl <| WL_nil <| x_then <| C_ret <| x_then_ret ?_
  obtain rfl := Option.some.inj hF
  exact fn_ret (l := [.tmp 4]) (vs := [.bool false]) rfl rfl rfl ⟨false, rfl, rfl, H⟩
 ·replace hF := itF hb hF
  refine C_skip <| x_then <| C_seq <| C_seq <| R_nd <| nq (Q_move rfl) rfl rfl <| nq (Q_len Tryz.underlying23 rfl r3) rfl rfl <| nq (Q_move rfl) rfl rfl <| WL_nil <| x_then ?_
  obtain ⟨o157, ho157, hF⟩ := bnd hF
  refine C_cutQ (fun a w' => .inl () = o157 ∧ Fr 26 a [] ∧ Hp C w' ρ (hs)) ?_ ?_
  ·refine C_block ?_
   refine C_iter (f := fun s => F_doffernum_SameInts_l0 N x2 x5 s) ho157 (fun s a w' => ∃ (x173 : Int), x173 = s ∧ Fr 26 a [(0, v1), (1, v4), (12, .int .i64 (x2.length : Int)), (13, .int .i64 x173)] ∧ Hp C w' ρ (hs)) ?_ ?_
   ·exact fun a hf => ⟨0, rfl, hf.sub ⟨rfl, rfl, rfl, rfl, trivial⟩, H⟩
   ·rintro s o189 a wd192 ⟨x173, rfl, hf, H⟩ hB190 hO191
    replace hB190 : F_doffernum_SameInts_l0 N x2 x5 x173 = some o189 := hB190
    unfold F_doffernum_SameInts_l0 at hB190
    refine CW.at hf <| C_seq <| R_nd <| nq (Q_lss rfl rfl) rfl rfl <| WL_nil <| x_then <| C_seq ?_
    refine C_cond rfl (fun hb => ?_) (fun hb => ?_)
    ·replace hB190 := itT hb hB190
     refine C_skip <| x_then <| C_seq <| C_block <| C_seq <| R_nd <| nq (Q_move rfl) rfl rfl <| nq (Q_assign rfl) rfl rfl <| WL_nil <| x_then <| C_seq <| R_dr (.take 0 (.take 1 (.take 2 (.take 3 (.take 4 (.take 5 (.take 6 (.take 7 (.take 8 .done))))))))) (fun w' => Ok w' ρ []) (by kernel_rfl) (by kernel_rfl) (by kernel_rfl) (H.drew.okS (by simp)) ?_
     replace H := H.drew
     refine dq rfl (fun _ _ => Q_move rfl) rfl rfl <| dq rfl (fun _ _ => Q_move rfl) rfl rfl ?_
     obtain ⟨x193, hx193, hB190⟩ := bnd hB190
     obtain ⟨b194, o195, c196, hc197, ha198, hi199⟩ := idxR r3 hx193
     refine dq rfl (fun _ _ => Q_idx hi199 Tryz.underlying23 ty3 rfl rfl) rfl rfl <| dq (v := .int .i64 x193) rfl (fun _ hw => Q_ld (show cellsAt _ _ _ [.int .i64 x193] from (show _ = [_] from hc197) ▸ (ha198.up hw.view)) ty3 rfl (fun _ => rfl) rfl rfl) rfl rfl <| dq rfl (fun _ _ => Q_move rfl) rfl rfl <| dq rfl (fun _ _ => Q_move rfl) rfl rfl ?_
     obtain ⟨x200, hx200, hB190⟩ := bnd hB190
     obtain ⟨b201, o202, c203, hc204, ha205, hi206⟩ := idxR r6 hx200
     refine dq rfl (fun _ _ => Q_idx hi206 Tryz.underlying23 ty3 rfl rfl) rfl rfl <| dq (v := .int .i64 x200) rfl (fun _ hw => Q_ld (show cellsAt _ _ _ [.int .i64 x200] from (show _ = [_] from hc204) ▸ (ha205.up hw.view)) ty3 rfl (fun _ => rfl) rfl rfl) rfl rfl <| dq rfl (fun _ _ => Q_neq rfl rfl) rfl rfl <| DL_nil <| x_then ?_
     refine C_cond rfl (fun hb => ?_) (fun hb => ?_)
     ·replace hB190 := itT hb hB190
      refine C_seq <| R_nd <| nq (Q_assign rfl) rfl rfl <| WL_nil <| x_then <| C_ret <| x_block_ret <| x_then_ret <| x_then_ret <| x_block_ret <| x_then_ret <| x_then_ret ?_
      obtain rfl := Option.some.inj hB190
      obtain rfl := hO191 _ rfl
      obtain rfl := Option.some.inj (show some _ = some _ from hF)
      exact fn_ret (l := [.tmp 4]) (vs := [.bool false]) rfl rfl rfl ⟨false, rfl, rfl, H⟩
     ·replace hB190 := itF hb hB190
      refine C_skip <| x_block <| x_then <| R_nd <| nq (Q_add rfl rfl) rfl rfl <| nq (Q_move rfl) rfl rfl <| WL_nil ?_
      obtain rfl := Option.some.inj hB190
      refine x_A fun a hf => ⟨_, rfl, w64 (x173 + 1), rfl, hf.sub ⟨rfl, rfl, rfl, rfl, trivial⟩, H⟩
    ·replace hB190 := itF hb hB190
     refine C_exit <| x_then_exit <| x_then_exit <| x_block_exit ?_
     obtain rfl := Option.some.inj hB190
     obtain rfl := hO191 _ rfl
     refine x_A fun a hf => ⟨rfl, hf.sub trivial, H⟩
  ·rintro a wd207 ⟨rfl, hf, H⟩
   try dsimp only at hF
   refine XX.at hf <| x_then <| C_seq <| R_nd <| nq (Q_assign rfl) rfl rfl <| WL_nil <| x_then <| C_ret ?_
   obtain rfl := Option.some.inj hF
   exact fn_ret (l := [.tmp 4]) (vs := [.bool true]) rfl rfl rfl ⟨true, rfl, rfl, H⟩
theorem c_49 {N : Nat} {C : Cx} {w : World} {ρ : View} {hs : List Hl} {gV : Nat → Value} {v1 : Value} {v4 : Value} {v7 : Value} {v10 : Value} {v13 : Value} {v16 : Value} {x2 : (List (List Int))} {x5 : (List Int)} {x8 : (List Int)} {x11 : (List (List Int))} {x14 : (List Int)} {x17 : (List Int)} (H : Hp C w ρ (hs)) (gle : GErrs ρ 394 errIds gV) (r3 : RdSl ρ (eA 256 (eI .i64)) v1 x2) (r6 : RdSl ρ (eI .i64) v4 x5) (r9 : RdSl ρ (eI .i64) v7 x8) (r12 : RdSl ρ (eA 256 (eI .i64)) v10 x11) (r15 : RdSl ρ (eI .i64) v13 x14) (r18 : RdSl ρ (eI .i64) v16 x17) {r : Bool} (hF : F_dofferref17_Same N x2 x5 x8 x11 x14 x17 = some r) :
  Calls Tryz.prog 49 [.agg #[v1, v4, v7], .agg #[v10, v13, v16]].toArray w (Rets (fun v w' => (∃ (x142 : Bool), x142 = r ∧ .bool x142 = v ∧ Hp C w' ρ (hs)))) := by
 unfold F_dofferref17_Same at hF
 have h0 : Tryz.f49.body = some _ := rfl
 refine fn_calls' Tryz.func49 h0 (n := 47) rfl (by simp) <| C_seq <| R_nd <| ne (E_box H (vs := [v1, v4, v7]) rfl rfl) rfl rfl ?_
 rintro _ wd144 ⟨b143, rfl, H⟩
 refine ne (E_box H (vs := [v10, v13, v16]) rfl rfl) rfl rfl ?_
 rintro _ wd146 ⟨b145, rfl, H⟩
 refine nq (Q_assign rfl) rfl rfl <| WL_nil <| x_then <| C_seq ?_
 obtain ⟨o156, ho156, hF⟩ := bnd hF
 refine C_cut (fun a w' => ∃ (x155 : Bool), x155 = o156 ∧ Fr 47 a [(2, .pointer (some ⟨b143, 0, none⟩)), (3, .pointer (some ⟨b145, 0, none⟩)), (28, .bool x155)] ∧ Hp C w' ρ (Box b143 [v1, v4, v7] :: Box b145 [v10, v13, v16] :: hs)) ?_ ?_
 ·refine R_nd <| nq (v := .pointer (some ⟨b143, 0, none⟩)) (Q_fld Tryz.underlying81 rfl ty79 (by decide) rfl rfl) rfl rfl <| nq (v := v1) (Q_ldB (k := 1) (cs := [v1]) H.ok rfl ty79 rfl rfl rfl (fun _ => rfl) rfl) rfl rfl <| nq (Q_len Tryz.underlying79 rfl r3) rfl rfl <| nq (v := .pointer (some ⟨b145, 0, none⟩)) (Q_fld Tryz.underlying81 rfl ty79 (by decide) rfl rfl) rfl rfl <| nq (v := v10) (Q_ldB (k := 0) (cs := [v10]) H.ok rfl ty79 rfl rfl rfl (fun _ => rfl) rfl) rfl rfl <| nq (Q_len Tryz.underlying79 rfl r12) rfl rfl <| nq (Q_neq rfl rfl) rfl rfl <| nq (Q_move rfl) rfl rfl ?_
  rcases Bool.eq_false_or_eq_true ((x2.length : Int) != (x11.length : Int)) with hb | hb
  ·rw [hb]
   replace ho156 := itT hb ho156
   refine gs rfl rfl rfl rfl <| gs rfl rfl rfl rfl <| gs rfl rfl rfl rfl <| gs rfl rfl rfl rfl <| gs rfl rfl rfl rfl <| gs rfl rfl rfl rfl <| nq (Q_pickT rfl rfl) rfl rfl <| nq (Q_move rfl) rfl rfl <| gs rfl rfl rfl rfl <| gs rfl rfl rfl rfl <| gs rfl rfl rfl rfl <| gs rfl rfl rfl rfl <| gs rfl rfl rfl rfl <| gs rfl rfl rfl rfl ?_
   refine nq (Q_pickT rfl rfl) rfl rfl <| WL_nil ?_
   replace H := H.f1
   obtain rfl := Option.some.inj ho156
   refine x_A fun a hf => ⟨true, rfl, hf.sub ⟨rfl, rfl, rfl, trivial⟩, H⟩
  ·rw [hb]
   replace ho156 := itF hb ho156
   refine gq (v := .pointer (some ⟨b143, 1, none⟩)) (Q_fld Tryz.underlying81 rfl ty23 (by decide) rfl rfl) rfl rfl rfl <| gq (v := v4) (Q_ldB (k := 1) (cs := [v4]) H.ok rfl ty23 rfl rfl rfl (fun _ => rfl) rfl) rfl rfl rfl <| gq (v := .pointer (some ⟨b145, 1, none⟩)) (Q_fld Tryz.underlying81 rfl ty23 (by decide) rfl rfl) rfl rfl rfl <| gq (v := v13) (Q_ldB (k := 0) (cs := [v13]) H.ok rfl ty23 rfl rfl rfl (fun _ => rfl) rfl) rfl rfl rfl ?_
   obtain ⟨q157, hq157, ho156⟩ := bnd ho156
   refine ge (E_call fn25 rfl (c_25 H gle  r6 r15 hq157)) rfl rfl rfl ?_
   rintro _ wd160 ⟨x159, rfl, rfl, H⟩
   try dsimp only at ho156
   refine gq (Q_not rfl) rfl rfl rfl <| nq (Q_pickF rfl rfl) rfl rfl <| nq (Q_move rfl) rfl rfl ?_
   rcases Bool.eq_false_or_eq_true (!x159) with hb | hb
   ·rw [hb]
    replace ho156 := itT hb ho156
    refine gs rfl rfl rfl rfl <| gs rfl rfl rfl rfl <| gs rfl rfl rfl rfl <| gs rfl rfl rfl rfl <| gs rfl rfl rfl rfl <| gs rfl rfl rfl rfl <| nq (Q_pickT rfl rfl) rfl rfl <| WL_nil ?_
    replace H := H.f1
    obtain rfl := Option.some.inj ho156
    refine x_A fun a hf => ⟨true, rfl, hf.sub ⟨rfl, rfl, rfl, trivial⟩, H⟩
   ·rw [hb]
    replace ho156 := itF hb ho156
    refine gq (v := .pointer (some ⟨b143, 2, none⟩)) (Q_fld Tryz.underlying81 rfl ty23 (by decide) rfl rfl) rfl rfl rfl <| gq (v := v7) (Q_ldB (k := 1) (cs := [v7]) H.ok rfl ty23 rfl rfl rfl (fun _ => rfl) rfl) rfl rfl rfl <| gq (v := .pointer (some ⟨b145, 2, none⟩)) (Q_fld Tryz.underlying81 rfl ty23 (by decide) rfl rfl) rfl rfl rfl <| gq (v := v16) (Q_ldB (k := 0) (cs := [v16]) H.ok rfl ty23 rfl rfl rfl (fun _ => rfl) rfl) rfl rfl rfl ?_
    obtain ⟨q161, hq161, ho156⟩ := bnd ho156
    refine ge (E_call fn25 rfl (c_25 H gle  r9 r18 hq161)) rfl rfl rfl ?_
    rintro _ wd164 ⟨x163, rfl, rfl, H⟩
    try dsimp only at ho156
    refine gq (Q_not rfl) rfl rfl rfl <| nq (Q_pickF rfl rfl) rfl rfl <| WL_nil ?_
    replace H := H.f1
    obtain rfl := Option.some.inj ho156
    refine x_A fun a hf => ⟨!x163, rfl, hf.sub ⟨rfl, rfl, rfl, trivial⟩, H⟩
 ·rintro a wd165 ⟨x155, rfl, hf, H⟩
  try dsimp only at hF
  refine CW.at hf ?_
  refine C_cond rfl (fun hb => ?_) (fun hb => ?_)
  ·replace hF := itT hb hF
   refine C_seq <| R_nd <| nq (Q_assign rfl) rfl rfl <| WL_nil <| x_then <| C_ret <| x_then_ret ?_
   replace H := H.drop 0 rfl
   dsimp only [List.eraseIdx] at H
   replace H := H.drop 0 rfl
   dsimp only [List.eraseIdx] at H
   obtain rfl := Option.some.inj hF
   exact fn_ret (l := [.tmp 4]) (vs := [.bool false]) rfl rfl rfl ⟨false, rfl, rfl, H⟩
  ·replace hF := itF hb hF
   refine C_skip <| x_then <| C_seq <| C_seq <| R_nd <| nq (v := .pointer (some ⟨b143, 0, none⟩)) (Q_fld Tryz.underlying81 rfl ty79 (by decide) rfl rfl) rfl rfl <| nq (v := v1) (Q_ldB (k := 0) (cs := [v1]) H.ok rfl ty79 rfl rfl rfl (fun _ => rfl) rfl) rfl rfl <| nq (Q_len Tryz.underlying79 rfl r3) rfl rfl <| nq (Q_move rfl) rfl rfl <| WL_nil <| x_then ?_
   obtain ⟨o215, ho215, hF⟩ := bnd hF
   refine C_cutQ (fun a w' => .inl () = o215 ∧ Fr 47 a [] ∧ Hp C w' ρ (hs)) ?_ ?_
   ·refine C_block ?_
    replace H := H.f1
    replace H := H.f1
    refine C_iter (f := fun s => F_dofferref17_Same_l0 N x2 x11 s) ho215 (fun s a w' => ∃ (x231 : Int), x231 = s ∧ Fr 47 a [(2, .pointer (some ⟨b143, 0, none⟩)), (3, .pointer (some ⟨b145, 0, none⟩)), (31, .int .i64 (x2.length : Int)), (32, .int .i64 x231)] ∧ Hp C w' ρ (Box b143 [v1, v4, v7] :: Box b145 [v10, v13, v16] :: hs)) ?_ ?_
    ·exact fun a hf => ⟨0, rfl, hf.sub ⟨rfl, rfl, rfl, rfl, trivial⟩, H⟩
    ·rintro s o247 a wd250 ⟨x231, rfl, hf, H⟩ hB248 hO249
     replace hB248 : F_dofferref17_Same_l0 N x2 x11 x231 = some o247 := hB248
     unfold F_dofferref17_Same_l0 at hB248
     refine CW.at hf <| C_seq <| R_nd <| nq (Q_lss rfl rfl) rfl rfl <| WL_nil <| x_then <| C_seq ?_
     refine C_cond rfl (fun hb => ?_) (fun hb => ?_)
     ·replace hB248 := itT hb hB248
      refine C_skip <| x_then <| C_seq <| C_block <| C_seq <| R_nd <| nq (Q_move rfl) rfl rfl <| nq (Q_assign rfl) rfl rfl <| WL_nil <| x_then <| C_seq <| R_dr (.take 0 (.take 1 (.take 2 (.take 3 (.take 4 (.take 5 (.take 6 (.take 7 (.take 8 (.take 9 (.take 10 .done))))))))))) (fun w' => Ok w' ρ [Box b143 [v1, v4, v7], Box b145 [v10, v13, v16]]) (by kernel_rfl) (by kernel_rfl) (by kernel_rfl) (H.drew.okS (by simp)) ?_
      replace H := H.drew
      refine dq (v := .pointer (some ⟨b143, 0, none⟩)) rfl (fun _ _ => Q_fld Tryz.underlying81 rfl ty79 (by decide) rfl rfl) rfl rfl <| dq (v := v1) rfl (fun _ hw => Q_ldB (k := 0) (cs := [v1]) hw rfl ty79 rfl rfl rfl (fun _ => rfl) rfl) rfl rfl <| dq rfl (fun _ _ => Q_move rfl) rfl rfl ?_
      obtain ⟨x251, hx251, hB248⟩ := bnd hB248
      obtain ⟨b252, o253, c254, hc255, ha256, hi257⟩ := idxR r3 hx251
      refine dq rfl (fun _ _ => Q_idx hi257 Tryz.underlying79 ty87 rfl rfl) rfl rfl <| dq (v := .agg c254.toArray) rfl (fun _ hw => Q_ld (ha256.up hw.view) ty87 ((eA 256 (eI .i64)).len hc255) (fun h => nomatch h) rfl rfl) rfl rfl <| dq (v := .pointer (some ⟨b145, 0, none⟩)) rfl (fun _ _ => Q_fld Tryz.underlying81 rfl ty79 (by decide) rfl rfl) rfl rfl <| dq (v := v10) rfl (fun _ hw => Q_ldB (k := 1) (cs := [v10]) hw rfl ty79 rfl rfl rfl (fun _ => rfl) rfl) rfl rfl <| dq rfl (fun _ _ => Q_move rfl) rfl rfl ?_
      obtain ⟨x258, hx258, hB248⟩ := bnd hB248
      obtain ⟨b259, o260, c261, hc262, ha263, hi264⟩ := idxR r12 hx258
      refine dq rfl (fun _ _ => Q_idx hi264 Tryz.underlying79 ty87 rfl rfl) rfl rfl <| dq (v := .agg c261.toArray) rfl (fun _ hw => Q_ld (ha263.up hw.view) ty87 ((eA 256 (eI .i64)).len hc262) (fun h => nomatch h) rfl rfl) rfl rfl <| dq (v := .bool (x251 != x258)) rfl (fun _ _ => Q_neqA Tryz.underlying87 ty3 (by kernel_rfl) Tryz.underlying3 hc255.2 hc255.1 hc262.2 hc262.1 rfl rfl) rfl rfl <| DL_nil <| x_then ?_
      refine C_cond rfl (fun hb => ?_) (fun hb => ?_)
      ·replace hB248 := itT hb hB248
       refine C_seq <| R_nd <| nq (Q_assign rfl) rfl rfl <| WL_nil <| x_then <| C_ret <| x_block_ret <| x_then_ret <| x_then_ret <| x_block_ret <| x_then_ret <| x_then_ret ?_
       replace H := H.drop 0 rfl
       dsimp only [List.eraseIdx] at H
       replace H := H.drop 0 rfl
       dsimp only [List.eraseIdx] at H
       obtain rfl := Option.some.inj hB248
       obtain rfl := hO249 _ rfl
       obtain rfl := Option.some.inj (show some _ = some _ from hF)
       exact fn_ret (l := [.tmp 4]) (vs := [.bool false]) rfl rfl rfl ⟨false, rfl, rfl, H⟩
      ·replace hB248 := itF hb hB248
       refine C_skip <| x_block <| x_then <| R_nd <| nq (Q_add rfl rfl) rfl rfl <| nq (Q_move rfl) rfl rfl <| WL_nil ?_
       replace H := H.f1
       replace H := H.f1
       obtain rfl := Option.some.inj hB248
       refine x_A fun a hf => ⟨_, rfl, w64 (x231 + 1), rfl, hf.sub ⟨rfl, rfl, rfl, rfl, trivial⟩, H⟩
     ·replace hB248 := itF hb hB248
      refine C_exit <| x_then_exit <| x_then_exit <| x_block_exit ?_
      replace H := H.drop 0 rfl
      dsimp only [List.eraseIdx] at H
      replace H := H.drop 0 rfl
      dsimp only [List.eraseIdx] at H
      obtain rfl := Option.some.inj hB248
      obtain rfl := hO249 _ rfl
      refine x_A fun a hf => ⟨rfl, hf.sub trivial, H⟩
   ·rintro a wd265 ⟨rfl, hf, H⟩
    try dsimp only at hF
    refine XX.at hf <| x_then <| C_seq <| R_nd <| nq (Q_assign rfl) rfl rfl <| WL_nil <| x_then <| C_ret ?_
    obtain rfl := Option.some.inj hF
    exact fn_ret (l := [.tmp 4]) (vs := [.bool true]) rfl rfl rfl ⟨true, rfl, rfl, H⟩
theorem c_8 {N : Nat} {C : Cx} {w : World} {ρ : View} {hs : List Hl} {gV : Nat → Value} {v1 : Value} {v4 : Value} {v7 : Value} {v10 : Value} {v13 : Value} {v16 : Value} {x2 : (List (List Int))} {x5 : (List Int)} {x8 : (List Int)} {x11 : (List (List Int))} {x14 : (List Int)} {x17 : (List Int)} (H : Hp C w ρ (hs)) (gle : GErrs ρ 394 errIds gV) (gl18 : GTab ρ 18 .u8 tab_math_bits_deBruijn64tab) (r3 : RdSl ρ (eA 256 (eI .i64)) v1 x2) (r6 : RdSl ρ (eI .i64) v4 x5) (r9 : RdSl ρ (eI .i64) v7 x8) (r12 : RdSl ρ (eA 256 (eI .i64)) v10 x11) (r15 : RdSl ρ (eI .i64) v13 x14) (r18 : RdSl ρ (eI .i64) v16 x17) {r : Bool} (hF : F_dofferlaw17_SubsetCopies N x2 x5 x8 x11 x14 x17 = some r) :
  Calls Tryz.prog 8 [.agg #[v1, v4, v7], .agg #[v10, v13, v16]].toArray w (Rets (fun v w' => (∃ (x618 : Bool), x618 = r ∧ .bool x618 = v ∧ Hp C w' ρ (hs)))) := by
 unfold F_dofferlaw17_SubsetCopies at hF
 have h0 : Tryz.f8.body = some _ := rfl
 refine fn_calls' Tryz.func8 h0 (n := 85) rfl (by simp) <| C_seq <| R_nd <| ne (E_box H (vs := [v1, v4, v7]) rfl rfl) rfl rfl ?_
 rintro _ wd620 ⟨b619, rfl, H⟩
 refine ne (E_box H (vs := [v10, v13, v16]) rfl rfl) rfl rfl ?_
 rintro _ wd622 ⟨b621, rfl, H⟩
 refine nq (Q_assign rfl) rfl rfl <| WL_nil <| x_then <| C_seq <| C_seq <| R_nd <| ne (E_call fn45 rfl (Cr.c_run runC45 (fun hl => GTab.up hl gl18) H)) rfl rfl ?_
 rintro _ wd623 ⟨rfl, H⟩
 refine nq (Q_not rfl) rfl rfl <| WL_nil <| x_then ?_
 refine C_cond rfl (fun h => nomatch h) (fun _ => ?_)
 refine C_skip <| x_then <| C_seq <| R_nd <| nq (v := .agg #[v1, v4, v7]) (Q_ldB (k := 1) (cs := [v1, v4, v7]) H.ok rfl ty78 rfl rfl rfl (fun h => nomatch h) rfl) rfl rfl ?_
 obtain ⟨q624, hq624, hF⟩ := bnd hF
 refine ne (E_call fn46 rfl (c_46 H gle  r3 r6 r9 hq624)) rfl rfl ?_
 rintro _ wd631 ⟨v626, c627, x628, x629, rfl, rfl, r630, H⟩
 try dsimp only at hF
 refine nq (Q_move rfl) rfl rfl <| nq (Q_extract rfl rfl) rfl rfl <| nq (Q_extract rfl rfl) rfl rfl <| ne (E_alloc H ty81 (zs := [.slice none 0 0, .slice none 0 0, .slice none 0 0]) rfl) rfl rfl ?_
 rintro _ wd633 ⟨b632, rfl, H⟩
 refine ne (E_stB (k := 0) (cs := [v626, v4, v7]) (vs' := [v626, v4, v7]) H rfl ty81 rfl rfl rfl rfl (one_cons (arr_cells (H.ok.get (k := 1) rfl)).2 (one_cons (RdSl.one r6) (one_cons (RdSl.one r9) one_nil))) (by simp) rfl) rfl rfl ?_
 rintro _ wd634 H
 dsimp only [List.set] at H
 refine nq (Q_assign rfl) rfl rfl <| WL_nil <| x_then <| C_seq <| R_nd <| nq (v := .agg #[v10, v13, v16]) (Q_ldB (k := 2) (cs := [v10, v13, v16]) H.ok rfl ty78 rfl rfl rfl (fun h => nomatch h) rfl) rfl rfl ?_
 obtain ⟨q635, hq635, hF⟩ := bnd hF
 refine ne (E_call fn46 rfl (c_46 H gle  r12 r15 r18 hq635)) rfl rfl ?_
 rintro _ wd642 ⟨v637, c638, x639, x640, rfl, rfl, r641, H⟩
 try dsimp only at hF
 refine nq (Q_move rfl) rfl rfl <| nq (Q_extract rfl rfl) rfl rfl <| nq (Q_extract rfl rfl) rfl rfl <| ne (E_alloc H ty81 (zs := [.slice none 0 0, .slice none 0 0, .slice none 0 0]) rfl) rfl rfl ?_
 rintro _ wd644 ⟨b643, rfl, H⟩
 refine ne (E_stB (k := 0) (cs := [v637, v13, v16]) (vs' := [v637, v13, v16]) H rfl ty81 rfl rfl rfl rfl (one_cons (arr_cells (H.ok.get (k := 1) rfl)).2 (one_cons (RdSl.one r15) (one_cons (RdSl.one r18) one_nil))) (by simp) rfl) rfl rfl ?_
 rintro _ wd645 H
 dsimp only [List.set] at H
 refine nq (Q_assign rfl) rfl rfl <| WL_nil <| x_then <| C_seq ?_
 obtain ⟨o647, ho647, hF⟩ := bnd hF
 refine C_cut (fun a w' => ∃ (x646 : Bool), x646 = o647 ∧ Fr 85 a [(2, .pointer (some ⟨b619, 0, none⟩)), (3, .pointer (some ⟨b621, 0, none⟩)), (5, .pointer (some ⟨b632, 0, none⟩)), (7, .pointer (some ⟨b643, 0, none⟩)), (31, .bool x646)] ∧ Hp C w' ρ (Box b619 [v1, v4, v7] :: Box b621 [v10, v13, v16] :: Box b632 [v626, v4, v7] :: Arr v626 256 c627 :: Box b643 [v637, v13, v16] :: Arr v637 256 c638 :: hs)) ?_ ?_
 ·refine R_nd <| nq (Q_move rfl) rfl rfl <| nq (Q_not rfl) rfl rfl <| nq (Q_move rfl) rfl rfl ?_
  rcases Bool.eq_false_or_eq_true (!x629) with hb | hb
  ·rw [hb]
   replace ho647 := itT hb ho647
   refine gs rfl rfl rfl rfl <| gs rfl rfl rfl rfl <| nq (Q_pickT rfl rfl) rfl rfl <| WL_nil ?_
   replace H := H.f1
   replace H := H.f1
   replace H := H.f3
   replace H := H.f3
   replace H := H.f4
   replace H := H.f5
   obtain rfl := Option.some.inj ho647
   refine x_A fun a hf => ⟨true, rfl, hf.sub ⟨rfl, rfl, rfl, rfl, rfl, trivial⟩, H⟩
  ·rw [hb]
   replace ho647 := itF hb ho647
   refine gq (Q_move rfl) rfl rfl rfl <| gq (Q_not rfl) rfl rfl rfl <| nq (Q_pickF rfl rfl) rfl rfl <| WL_nil ?_
   replace H := H.f1
   replace H := H.f1
   replace H := H.f3
   replace H := H.f3
   replace H := H.f4
   replace H := H.f5
   obtain rfl := Option.some.inj ho647
   refine x_A fun a hf => ⟨!x640, rfl, hf.sub ⟨rfl, rfl, rfl, rfl, rfl, trivial⟩, H⟩
 ·rintro a wd648 ⟨x646, rfl, hf, H⟩
  try dsimp only at hF
  refine CW.at hf ?_
  refine C_cond rfl (fun hb => ?_) (fun hb => ?_)
  ·replace hF := itT hb hF
   refine C_seq <| R_nd <| nq (Q_assign rfl) rfl rfl <| WL_nil <| x_then <| C_ret <| x_then_ret ?_
   replace H := H.drop 0 rfl
   dsimp only [List.eraseIdx] at H
   replace H := H.drop 0 rfl
   dsimp only [List.eraseIdx] at H
   replace H := H.drop 0 rfl
   dsimp only [List.eraseIdx] at H
   replace H := H.drop 0 rfl
   dsimp only [List.eraseIdx] at H
   replace H := H.drop 0 rfl
   dsimp only [List.eraseIdx] at H
   replace H := H.drop 0 rfl
   dsimp only [List.eraseIdx] at H
   obtain rfl := Option.some.inj hF
   exact fn_ret (l := [.tmp 4]) (vs := [.bool true]) rfl rfl rfl ⟨true, rfl, rfl, H⟩
  ·replace hF := itF hb hF
   refine C_skip <| x_then <| C_seq <| R_nd <| nq (v := .agg #[v1, v4, v7]) (Q_ldB (k := 0) (cs := [v1, v4, v7]) H.ok rfl ty78 rfl rfl rfl (fun h => nomatch h) rfl) rfl rfl ?_
   obtain ⟨q649, hq649, hF⟩ := bnd hF
   refine ne (E_call fn47 rfl (c_47 H gle  r3 r6 r9 hq649)) rfl rfl ?_
   rintro _ wd663 ⟨v651, c652, v653, c654, v655, c656, x657, x658, x659, rfl, rfl, r660, r661, r662, H⟩
   try dsimp only at hF
   refine ne (E_alloc H ty78 (zs := [.slice none 0 0, .slice none 0 0, .slice none 0 0]) rfl) rfl rfl ?_
   rintro _ wd665 ⟨b664, rfl, H⟩
   refine ne (E_stB (k := 0) (cs := [v651, v653, v655]) (vs' := [v651, v653, v655]) H rfl ty78 rfl rfl rfl rfl (one_cons (arr_cells (H.ok.get (k := 1) rfl)).2 (one_cons (arr_cells (H.ok.get (k := 2) rfl)).2 (one_cons (arr_cells (H.ok.get (k := 3) rfl)).2 one_nil))) (by simp) rfl) rfl rfl ?_
   rintro _ wd666 H
   dsimp only [List.set] at H
   refine WL_nil <| x_then <| C_seq ?_
   obtain ⟨o680, ho680, hF⟩ := bnd hF
   refine C_cut (fun a w' => ∃ (x679 : Bool), x679 = o680 ∧ Fr 85 a [(2, .pointer (some ⟨b619, 0, none⟩)), (5, .pointer (some ⟨b632, 0, none⟩)), (9, .pointer (some ⟨b664, 0, none⟩)), (46, .bool x679)] ∧ Hp C w' ρ (Box b619 [v1, v4, v7] :: Box b632 [v626, v4, v7] :: Arr v626 256 c627 :: Box b664 [v651, v653, v655] :: Arr v651 256 c652 :: Arr v653 1 c654 :: Arr v655 1 c656 :: hs)) ?_ ?_
   ·refine R_dr (.take 0 (.take 1 (.take 3 (.take 4 (.one 2 (.one 5 (.take 6 (.take 7 (.take 8 (.take 9 (.one 10 (.take 11 (.take 12 .done))))))))))))) (fun w' => Ok w' ρ [Box b664 [v651, v653, v655], Arr v651 256 c652, Arr v653 1 c654, Arr v655 1 c656, Box b619 [v1, v4, v7], Box b621 [v10, v13, v16], Box b632 [v626, v4, v7], Arr v626 256 c627, Box b643 [v637, v13, v16], Arr v637 256 c638]) (by kernel_rfl) (by kernel_rfl) (by kernel_rfl) (H.drew.okS (by simp)) ?_
    replace H := H.drew
    refine dq (v := .agg #[v1, v4, v7]) rfl (fun _ hw => Q_ldB (k := 4) (cs := [v1, v4, v7]) hw rfl ty78 rfl rfl rfl (fun h => nomatch h) rfl) rfl rfl <| dq (v := .agg #[v10, v13, v16]) rfl (fun _ hw => Q_ldB (k := 5) (cs := [v10, v13, v16]) hw rfl ty78 rfl rfl rfl (fun h => nomatch h) rfl) rfl rfl <| dq (v := .agg #[v626, v4, v7]) rfl (fun _ hw => Q_ldB (k := 6) (cs := [v626, v4, v7]) hw rfl ty81 rfl rfl rfl (fun h => nomatch h) rfl) rfl rfl <| dq (v := .agg #[v637, v13, v16]) rfl (fun _ hw => Q_ldB (k := 8) (cs := [v637, v13, v16]) hw rfl ty81 rfl rfl rfl (fun h => nomatch h) rfl) rfl rfl ?_
    obtain ⟨q681, hq681, ho680⟩ := bnd ho680
    refine d1 (de rfl (E_call fn48 rfl (c_48 H gle  r3 r6 r9 r12 r15 r18 hq681)) rfl rfl ?_)
    rintro _ wd684 ⟨x683, rfl, rfl, H⟩
    try dsimp only at ho680
    refine ⟨H.okS (by simp), ?_⟩
    replace H := H.f9
    replace H := H.f8
    obtain ⟨q685, hq685, ho680⟩ := bnd ho680
    obtain ⟨C', ρ', hl686, HA, hL, hback⟩ := Hp.lend (A := []) (L := [Arr v626 256 c627, Arr v637 256 c638]) (F := Box b664 [v651, v653, v655] :: Arr v651 256 c652 :: Arr v653 1 c654 :: Arr v655 1 c656 :: Box b619 [v1, v4, v7] :: Box b621 [v10, v13, v16] :: Box b632 [v626, v4, v7] :: Box b643 [v637, v13, v16] :: hs) H
    refine d1 (de rfl (E_call fn49 rfl (c_49 HA (gle.up hl686)  (arr_rd (by decide) hl686 (hL (Arr v626 256 c627) (by simp)) r630) (r6.up hl686) (r9.up hl686) (arr_rd (by decide) hl686 (hL (Arr v637 256 c638) (by simp)) r641) (r15.up hl686) (r18.up hl686) hq685)) rfl rfl ?_)
    rintro _ wd688 ⟨x687, rfl, rfl, H⟩
    try dsimp only at ho680
    replace H := hback H
    dsimp only [List.cons_append, List.nil_append] at H
    refine ⟨H.okS (by simp), ?_⟩
    refine dq (v := .bool (x683 != x687)) rfl (fun _ _ => Q_neqB Tryz.underlying4 rfl rfl) rfl rfl <| dq rfl (fun _ _ => Q_move rfl) rfl rfl ?_
    rcases Bool.eq_false_or_eq_true (x683 != x687) with hb | hb
    ·rw [hb]
     replace ho680 := itT hb ho680
     refine dgs rfl rfl rfl rfl rfl <| dgs rfl rfl rfl rfl rfl ?_
     refine d1 (dges rfl rfl rfl rfl rfl ?_)
     refine dgs rfl rfl rfl rfl rfl <| dq rfl (fun _ _ => Q_pickT rfl rfl) rfl rfl <| DL_nil ?_
     replace H := H.f5
     replace H := H.f5
     replace H := H.f5
     replace H := H.f5
     replace H := H.f4
     replace H := H.f8
     replace H := H.f7
     replace H := H.drop 7 rfl
     dsimp only [List.eraseIdx] at H
     replace H := H.drop 7 rfl
     dsimp only [List.eraseIdx] at H
     replace H := H.drop 7 rfl
     dsimp only [List.eraseIdx] at H
     obtain rfl := Option.some.inj ho680
     refine x_A fun a hf => ⟨true, rfl, hf.sub ⟨rfl, rfl, rfl, rfl, trivial⟩, H⟩
    ·rw [hb]
     replace ho680 := itF hb ho680
     refine dgq (v := .agg #[v651, v653, v655]) rfl (fun _ hw => Q_ldB (k := 0) (cs := [v651, v653, v655]) hw rfl ty78 rfl rfl rfl (fun h => nomatch h) rfl) rfl rfl rfl <| dgq (v := .agg #[v1, v4, v7]) rfl (fun _ hw => Q_ldB (k := 4) (cs := [v1, v4, v7]) hw rfl ty78 rfl rfl rfl (fun h => nomatch h) rfl) rfl rfl rfl ?_
     replace H := H.f5
     replace H := H.f5
     replace H := H.f5
     obtain ⟨q689, hq689, ho680⟩ := bnd ho680
     obtain ⟨C', ρ', hl690, HA, hL, hback⟩ := Hp.lend (A := []) (L := [Arr v651 256 c652, Arr v653 1 c654, Arr v655 1 c656]) (F := Arr v626 256 c627 :: Arr v637 256 c638 :: Box b664 [v651, v653, v655] :: Box b619 [v1, v4, v7] :: Box b621 [v10, v13, v16] :: Box b632 [v626, v4, v7] :: Box b643 [v637, v13, v16] :: hs) H
     refine d1 (dge rfl (E_call fn48 rfl (c_48 HA (gle.up hl690)  (arr_rd (by decide) hl690 (hL (Arr v651 256 c652) (by simp)) r660) (arr_rd (by decide) hl690 (hL (Arr v653 1 c654) (by simp)) r661) (arr_rd (by decide) hl690 (hL (Arr v655 1 c656) (by simp)) r662) (r3.up hl690) (r6.up hl690) (r9.up hl690) hq689)) rfl rfl rfl ?_)
     rintro _ wd692 ⟨x691, rfl, rfl, H⟩
     try dsimp only at ho680
     replace H := hback H
     dsimp only [List.cons_append, List.nil_append] at H
     refine ⟨H.okS (by simp), ?_⟩
     refine dgq rfl (fun _ _ => Q_not rfl) rfl rfl rfl <| dq rfl (fun _ _ => Q_pickF rfl rfl) rfl rfl <| DL_nil ?_
     replace H := H.f2
     replace H := H.f2
     replace H := H.f2
     replace H := H.f5
     replace H := H.f4
     replace H := H.f8
     replace H := H.f7
     replace H := H.drop 7 rfl
     dsimp only [List.eraseIdx] at H
     replace H := H.drop 7 rfl
     dsimp only [List.eraseIdx] at H
     replace H := H.drop 7 rfl
     dsimp only [List.eraseIdx] at H
     obtain rfl := Option.some.inj ho680
     refine x_A fun a hf => ⟨!x691, rfl, hf.sub ⟨rfl, rfl, rfl, rfl, trivial⟩, H⟩
   ·rintro a wd693 ⟨x679, rfl, hf, H⟩
    try dsimp only at hF
    refine CW.at hf ?_
    refine C_cond rfl (fun hb => ?_) (fun hb => ?_)
    ·replace hF := itT hb hF
     refine C_seq <| R_nd <| nq (Q_assign rfl) rfl rfl <| WL_nil <| x_then <| C_ret <| x_then_ret ?_
     replace H := H.drop 0 rfl
     dsimp only [List.eraseIdx] at H
     replace H := H.drop 0 rfl
     dsimp only [List.eraseIdx] at H
     replace H := H.drop 0 rfl
     dsimp only [List.eraseIdx] at H
     replace H := H.drop 0 rfl
     dsimp only [List.eraseIdx] at H
     replace H := H.drop 0 rfl
     dsimp only [List.eraseIdx] at H
     replace H := H.drop 0 rfl
     dsimp only [List.eraseIdx] at H
     replace H := H.drop 0 rfl
     dsimp only [List.eraseIdx] at H
     obtain rfl := Option.some.inj hF
     exact fn_ret (l := [.tmp 4]) (vs := [.bool false]) rfl rfl rfl ⟨false, rfl, rfl, H⟩
    ·replace hF := itF hb hF
     refine C_skip <| x_then <| C_seq <| C_seq <| R_nd <| nq (v := .pointer (some ⟨b664, 0, none⟩)) (Q_fld Tryz.underlying78 rfl ty76 (by decide) rfl rfl) rfl rfl <| nq (v := v651) (Q_ldB (k := 3) (cs := [v651]) H.ok rfl ty76 rfl rfl rfl (fun _ => rfl) rfl) rfl rfl <| nq (Q_lenA (k := 4) H.ok rfl r660 (by decide) Tryz.underlying76 rfl) rfl rfl <| nq (Q_move rfl) rfl rfl <| WL_nil <| x_then ?_
     obtain ⟨o878, ho878, hF⟩ := bnd hF
     refine C_cutQ (fun a w' => ∃ (c875 : (List Value)) (x876 : (List (List Int))), x876 = o878 ∧ rdL (eA 256 (eI .i64)) ρ x876 c875 ∧ Fr 85 a [(2, .pointer (some ⟨b619, 0, none⟩)), (5, .pointer (some ⟨b632, 0, none⟩)), (9, .pointer (some ⟨b664, 0, none⟩))] ∧ Hp C w' ρ (Box b619 [v1, v4, v7] :: Box b632 [v626, v4, v7] :: Arr v626 256 c627 :: Box b664 [v651, v653, v655] :: Arr v651 256 c875 :: Arr v653 1 c654 :: Arr v655 1 c656 :: hs)) ?_ ?_
     ·refine C_block ?_
      replace H := H.f6
      replace H := H.f6
      replace H := H.f6
      replace H := H.f6
      replace H := H.f6
      replace H := H.f6
      replace H := H.f6
      refine C_iter (f := fun s => F_dofferlaw17_SubsetCopies_l0 N x657 s.1 s.2) ho878 (fun s a w' => ∃ (c939 : (List Value)) (x938 : Int) (x940 : (List (List Int))), (x938, x940) = s ∧ rdL (eA 256 (eI .i64)) ρ x940 c939 ∧ Fr 85 a [(2, .pointer (some ⟨b619, 0, none⟩)), (5, .pointer (some ⟨b632, 0, none⟩)), (9, .pointer (some ⟨b664, 0, none⟩)), (49, .int .i64 (x657.length : Int)), (50, .int .i64 x938)] ∧ Hp C w' ρ (Box b619 [v1, v4, v7] :: Box b632 [v626, v4, v7] :: Arr v626 256 c627 :: Box b664 [v651, v653, v655] :: Arr v651 256 c939 :: Arr v653 1 c654 :: Arr v655 1 c656 :: hs)) ?_ ?_
      ·exact fun a hf => ⟨c652, 0, x657, rfl, r660, hf.sub ⟨rfl, rfl, rfl, rfl, rfl, trivial⟩, H⟩
      ·rintro s o1001 a wd1004 ⟨c939, x938, x940, rfl, r941, hf, H⟩ hB1002 hO1003
       replace hB1002 : F_dofferlaw17_SubsetCopies_l0 N x657 x938 x940 = some o1001 := hB1002
       unfold F_dofferlaw17_SubsetCopies_l0 at hB1002
       refine CW.at hf <| C_seq <| R_nd <| nq (Q_lss rfl rfl) rfl rfl <| WL_nil <| x_then <| C_seq ?_
       refine C_cond rfl (fun hb => ?_) (fun hb => ?_)
       ·replace hB1002 := itT hb hB1002
        refine C_skip <| x_then <| C_seq <| C_block <| C_seq <| R_nd <| nq (Q_move rfl) rfl rfl <| nq (Q_assign rfl) rfl rfl <| WL_nil <| x_then ?_
        obtain ⟨o1033, ho1033, hB1002⟩ := bnd hB1002
        refine C_cutQ (fun a w' => ∃ (c1030 : (List Value)) (x1031 : (List (List Int))), x1031 = o1033 ∧ rdL (eA 256 (eI .i64)) ρ x1031 c1030 ∧ Fr 85 a [(2, .pointer (some ⟨b619, 0, none⟩)), (5, .pointer (some ⟨b632, 0, none⟩)), (9, .pointer (some ⟨b664, 0, none⟩)), (49, .int .i64 (x657.length : Int)), (50, .int .i64 x938)] ∧ Hp C w' ρ (Box b619 [v1, v4, v7] :: Box b632 [v626, v4, v7] :: Arr v626 256 c627 :: Box b664 [v651, v653, v655] :: Arr v651 256 c1030 :: Arr v653 1 c654 :: Arr v655 1 c656 :: hs)) ?_ ?_
        ·refine R_dr (.take 0 (.take 1 (.take 2 (.take 3 (.take 4 (.take 7 (.one 5 (.take 6 (.take 8 (.one 9 .done)))))))))) (fun w' => Ok w' ρ [Box b619 [v1, v4, v7], Box b632 [v626, v4, v7], Arr v626 256 c627, Box b664 [v651, v653, v655], Arr v653 1 c654, Arr v655 1 c656]) (by kernel_rfl) (by kernel_rfl) (by kernel_rfl) (H.drew.okS (by simp)) ?_
         replace H := H.drew
         refine dq (v := .pointer (some ⟨b664, 0, none⟩)) rfl (fun _ _ => Q_fld Tryz.underlying78 rfl ty76 (by decide) rfl rfl) rfl rfl <| dq (v := v651) rfl (fun _ hw => Q_ldB (k := 3) (cs := [v651]) hw rfl ty76 rfl rfl rfl (fun _ => rfl) rfl) rfl rfl <| dq rfl (fun _ _ => Q_move rfl) rfl rfl ?_
         obtain ⟨x1034, hx1034, ho1033⟩ := bnd ho1033
         obtain ⟨b1035, o1036, hi1040, hc1038, ha1039⟩ := arr_at (hs := [Arr v651 256 c939]) (k := 0) (by decide) (H.okS (by simp)) rfl r941 hx1034
         refine dq rfl (fun _ _ => Q_idx hi1040 Tryz.underlying76 ty88 rfl rfl) rfl rfl ?_
         obtain ⟨x1041, hx1041, ho1033⟩ := bnd ho1033
         have hn1042 := idx_lt hc1038.1 hx1041
         refine dq rfl (fun _ _ => Q_idxA hn1042.1 hn1042.2 Tryz.underlying88 ty3 rfl rfl) rfl rfl ?_
         obtain ⟨x1043, hx1043, ho1033⟩ := bnd ho1033
         obtain ⟨b1044, o1045, hi1049, hc1047, ha1048⟩ := arr_at (hs := [Arr v651 256 c939]) (k := 0) (by decide) (H.okS (by simp)) rfl r941 hx1043
         refine dq rfl (fun _ _ => Q_idx hi1049 Tryz.underlying76 ty88 rfl rfl) rfl rfl ?_
         obtain ⟨c1050, hc1051, ha1052, _⟩ := arrO hc1038 ha1039 hx1041
         refine d1 (de rfl (Eff.quiet (v := .int .i64 x1041) (Q_ld (show cellsAt _ _ _ [.int .i64 x1041] from (show _ = [_] from hc1051) ▸ (ha1052 _ (Ok.subS (by simp) H.ok))) ty3 rfl (fun _ => rfl) rfl rfl)) rfl rfl ?_)
         rintro _ _ ⟨rfl, rfl⟩
         refine ⟨H.okS (by simp), ?_⟩
         refine dq rfl (fun _ _ => Q_add rfl rfl) rfl rfl ?_
         obtain ⟨x1053, hx1053, ho1033⟩ := bnd ho1033
         have hn1054 := idx_lt hc1047.1 hx1053
         refine dq rfl (fun _ _ => Q_idxA hn1054.1 hn1054.2 Tryz.underlying88 ty3 rfl rfl) rfl rfl ?_
         obtain ⟨x1055, hx1055, ho1033⟩ := bnd ho1033
         obtain ⟨x1056, hx1056, ho1033⟩ := bnd ho1033
         have r1057 : rdL (eA 256 (eI .i64)) ρ x1056 (setC c939 (x938.toNat * 256 + (5 : Int).toNat * 1) [.int .i64 (w64 (x1041 + 1))]) := rdL_set2 (e := (eI .i64)) (N := 256) r941 hc1047 hx1055 hx1056 (rfl)
         refine d1 (de rfl (E_stA (k := 4) (j := (5 : Int).toNat * 1) (c := [.int .i64 (w64 (x1041 + 1))]) H rfl ty3 hi1049 rfl rfl rfl rfl (one_cons rfl one_nil) (idx_fit (N := 256) (m := 1) (idx_lt hc1047.1 hx1053))) rfl rfl ?_)
         rintro _ wd1058 H
         dsimp only [List.set] at H
         refine ⟨H.okS (by simp), ?_⟩
         refine DL_nil ?_
         replace H := H.f6
         replace H := H.f6
         replace H := H.f6
         replace H := H.f6
         replace H := H.f6
         replace H := H.f6
         replace H := H.f6
         obtain rfl := Option.some.inj ho1033
         refine x_A fun a hf => ⟨(setC c939 (x938.toNat * 256 + (5 : Int).toNat * 1) [.int .i64 (w64 (x1041 + 1))]), x1056, rfl, r1057, hf.sub ⟨rfl, rfl, rfl, rfl, rfl, trivial⟩, H⟩
        ·rintro a wd1059 ⟨c1030, x1031, rfl, r1032, hf, H⟩
         try dsimp only at hB1002
         refine XX.at hf <| x_block <| x_then <| R_nd <| nq (Q_add rfl rfl) rfl rfl <| nq (Q_move rfl) rfl rfl <| WL_nil ?_
         replace H := H.f6
         replace H := H.f6
         replace H := H.f6
         replace H := H.f6
         replace H := H.f6
         replace H := H.f6
         replace H := H.f6
         obtain rfl := Option.some.inj hB1002
         refine x_A fun a hf => ⟨_, rfl, c1030, w64 (x938 + 1), x1031, rfl, r1032, hf.sub ⟨rfl, rfl, rfl, rfl, rfl, trivial⟩, H⟩
       ·replace hB1002 := itF hb hB1002
        refine C_exit <| x_then_exit <| x_then_exit <| x_block_exit ?_
        replace H := H.f6
        replace H := H.f6
        replace H := H.f6
        replace H := H.f6
        replace H := H.f6
        replace H := H.f6
        replace H := H.f6
        obtain rfl := Option.some.inj hB1002
        obtain rfl := hO1003 _ rfl
        refine x_A fun a hf => ⟨c939, x940, rfl, r941, hf.sub ⟨rfl, rfl, rfl, trivial⟩, H⟩
     ·rintro a wd1060 ⟨c875, x876, rfl, r877, hf, H⟩
      try dsimp only at hF
      refine XX.at hf <| x_then <| C_seq <| C_seq <| R_nd <| nq (v := .pointer (some ⟨b664, 1, none⟩)) (Q_fld Tryz.underlying78 rfl ty23 (by decide) rfl rfl) rfl rfl <| nq (v := v653) (Q_ldB (k := 3) (cs := [v653]) H.ok rfl ty23 rfl rfl rfl (fun _ => rfl) rfl) rfl rfl <| nq (Q_lenA (k := 5) H.ok rfl r661 (by decide) Tryz.underlying23 rfl) rfl rfl <| nq (Q_move rfl) rfl rfl <| WL_nil <| x_then ?_
      obtain ⟨o1131, ho1131, hF⟩ := bnd hF
      refine C_cutQ (fun a w' => Fr 85 a [(2, .pointer (some ⟨b619, 0, none⟩)), (5, .pointer (some ⟨b632, 0, none⟩))] ∧ Hp C w' ρ (Box b619 [v1, v4, v7] :: Box b632 [v626, v4, v7] :: Arr v626 256 c627 :: hs)) ?_ ?_
      ·refine C_block ?_
       replace H := H.f6
       replace H := H.f6
       replace H := H.f6
       replace H := H.f6
       replace H := H.f6
       replace H := H.f6
       replace H := H.f6
       refine C_iter (f := fun s => F_dofferlaw17_SubsetCopies_l1 N x658 s.1 s.2) ho1131 (fun s a w' => ∃ (c1155 : (List Value)) (x1154 : Int) (x1156 : (List Int)), (x1154, x1156) = s ∧ rdL (eI .i64) ρ x1156 c1155 ∧ Fr 85 a [(2, .pointer (some ⟨b619, 0, none⟩)), (5, .pointer (some ⟨b632, 0, none⟩)), (9, .pointer (some ⟨b664, 0, none⟩)), (65, .int .i64 (x658.length : Int)), (66, .int .i64 x1154)] ∧ Hp C w' ρ (Box b619 [v1, v4, v7] :: Box b632 [v626, v4, v7] :: Arr v626 256 c627 :: Box b664 [v651, v653, v655] :: Arr v651 256 c875 :: Arr v653 1 c1155 :: Arr v655 1 c656 :: hs)) ?_ ?_
       ·exact fun a hf => ⟨c654, 0, x658, rfl, r661, hf.sub ⟨rfl, rfl, rfl, rfl, rfl, trivial⟩, H⟩
       ·rintro s o1180 a wd1183 ⟨c1155, x1154, x1156, rfl, r1157, hf, H⟩ hB1181 hO1182
        replace hB1181 : F_dofferlaw17_SubsetCopies_l1 N x658 x1154 x1156 = some o1180 := hB1181
        unfold F_dofferlaw17_SubsetCopies_l1 at hB1181
        refine CW.at hf <| C_seq <| R_nd <| nq (Q_lss rfl rfl) rfl rfl <| WL_nil <| x_then <| C_seq ?_
        refine C_cond rfl (fun hb => ?_) (fun hb => ?_)
        ·replace hB1181 := itT hb hB1181
         refine C_skip <| x_then <| C_seq <| C_block <| C_seq <| R_nd <| nq (Q_move rfl) rfl rfl <| nq (Q_assign rfl) rfl rfl <| WL_nil <| x_then <| R_nd <| nq (v := .pointer (some ⟨b664, 1, none⟩)) (Q_fld Tryz.underlying78 rfl ty23 (by decide) rfl rfl) rfl rfl <| nq (v := v653) (Q_ldB (k := 3) (cs := [v653]) H.ok rfl ty23 rfl rfl rfl (fun _ => rfl) rfl) rfl rfl <| nq (Q_move rfl) rfl rfl ?_
         obtain ⟨x1184, hx1184, hB1181⟩ := bnd hB1181
         obtain ⟨b1185, o1186, hi1190, hc1188, ha1189⟩ := arr_at (hs := [Arr v653 1 c1155]) (k := 0) (by decide) (H.okS (by simp)) rfl r1157 hx1184
         refine nq (Q_idx hi1190 Tryz.underlying23 ty3 rfl rfl) rfl rfl <| nq (v := .int .i64 x1184) (Q_ld (show cellsAt _ _ _ [.int .i64 x1184] from (show _ = [_] from hc1188) ▸ (ha1189 _ (Ok.subS (by simp) H.ok))) ty3 rfl (fun _ => rfl) rfl rfl) rfl rfl <| nq (Q_sub rfl rfl) rfl rfl ?_
         obtain ⟨x1191, hx1191, hB1181⟩ := bnd hB1181
         obtain ⟨b1192, o1193, hi1197, hc1195, ha1196⟩ := arr_at (hs := [Arr v653 1 c1155]) (k := 0) (by decide) (H.okS (by simp)) rfl r1157 hx1191
         refine nq (Q_idx hi1197 Tryz.underlying23 ty3 rfl rfl) rfl rfl ?_
         obtain ⟨x1198, hx1198, hB1181⟩ := bnd hB1181
         obtain ⟨hs1199a, hs1199b, hs1199c⟩ := setI_some hx1198
         have r1200 : rdL (eI .i64) ρ x1198 (setC c1155 (x1154.toNat * 1 + 0) [.int .i64 (w64 (x1184 - 1))]) := hs1199c ▸ rdL.set r1157 hs1199b (rfl)
         refine ne (E_stA (k := 5) (j := 0) (c := [.int .i64 (w64 (x1184 - 1))]) H rfl ty3 hi1197 rfl rfl rfl rfl (one_cons rfl one_nil) (by decide)) rfl rfl ?_
         rintro _ wd1201 H
         dsimp only [List.set] at H
         refine WL_nil <| x_block <| x_then <| R_nd <| nq (Q_add rfl rfl) rfl rfl <| nq (Q_move rfl) rfl rfl <| WL_nil ?_
         replace H := H.f6
         replace H := H.f6
         replace H := H.f6
         replace H := H.f6
         replace H := H.f6
         replace H := H.f6
         replace H := H.f6
         obtain rfl := Option.some.inj hB1181
         refine x_A fun a hf => ⟨_, rfl, (setC c1155 (x1154.toNat * 1 + 0) [.int .i64 (w64 (x1184 - 1))]), w64 (x1154 + 1), x1198, rfl, r1200, hf.sub ⟨rfl, rfl, rfl, rfl, rfl, trivial⟩, H⟩
        ·replace hB1181 := itF hb hB1181
         refine C_exit <| x_then_exit <| x_then_exit <| x_block_exit ?_
         replace H := H.f2
         replace H := H.f2
         replace H := H.f2
         replace H := H.drop 3 rfl
         dsimp only [List.eraseIdx] at H
         replace H := H.drop 3 rfl
         dsimp only [List.eraseIdx] at H
         replace H := H.drop 3 rfl
         dsimp only [List.eraseIdx] at H
         replace H := H.drop 3 rfl
         dsimp only [List.eraseIdx] at H
         obtain rfl := Option.some.inj hB1181
         obtain rfl := hO1182 _ rfl
         refine x_A fun a hf => ⟨hf.sub ⟨rfl, rfl, trivial⟩, H⟩
      ·rintro a wd1202 ⟨hf, H⟩
       try dsimp only at hF
       refine XX.at hf <| x_then <| C_seq <| R_nd <| nq (v := .agg #[v1, v4, v7]) (Q_ldB (k := 0) (cs := [v1, v4, v7]) H.ok rfl ty78 rfl rfl rfl (fun h => nomatch h) rfl) rfl rfl ?_
       obtain ⟨q1203, hq1203, hF⟩ := bnd hF
       refine ne (E_call fn46 rfl (c_46 H gle  r3 r6 r9 hq1203)) rfl rfl ?_
       rintro _ wd1210 ⟨v1205, c1206, x1207, x1208, rfl, rfl, r1209, H⟩
       try dsimp only at hF
       refine nq (Q_move rfl) rfl rfl <| nq (Q_extract rfl rfl) rfl rfl <| nq (Q_extract rfl rfl) rfl rfl <| ne (E_alloc H ty81 (zs := [.slice none 0 0, .slice none 0 0, .slice none 0 0]) rfl) rfl rfl ?_
       rintro _ wd1212 ⟨b1211, rfl, H⟩
       refine ne (E_stB (k := 0) (cs := [v1205, v4, v7]) (vs' := [v1205, v4, v7]) H rfl ty81 rfl rfl rfl rfl (one_cons (arr_cells (H.ok.get (k := 1) rfl)).2 (one_cons (RdSl.one r6) (one_cons (RdSl.one r9) one_nil))) (by simp) rfl) rfl rfl ?_
       rintro _ wd1213 H
       dsimp only [List.set] at H
       refine nq (Q_assign rfl) rfl rfl <| WL_nil <| x_then <| C_seq <| R_nd <| nq (v := .agg #[v1205, v4, v7]) (Q_ldB (k := 0) (cs := [v1205, v4, v7]) H.ok rfl ty81 rfl rfl rfl (fun h => nomatch h) rfl) rfl rfl <| nq (v := .agg #[v626, v4, v7]) (Q_ldB (k := 3) (cs := [v626, v4, v7]) H.ok rfl ty81 rfl rfl rfl (fun h => nomatch h) rfl) rfl rfl ?_
       replace H := H.f4
       replace H := H.f2
       obtain ⟨q1214, hq1214, hF⟩ := bnd hF
       obtain ⟨C', ρ', hl1215, HA, hL, hback⟩ := Hp.lend (A := []) (L := [Arr v1205 256 c1206, Arr v626 256 c627]) (F := Box b1211 [v1205, v4, v7] :: Box b619 [v1, v4, v7] :: Box b632 [v626, v4, v7] :: hs) H
       refine ne (E_call fn49 rfl (c_49 HA (gle.up hl1215)  (arr_rd (by decide) hl1215 (hL (Arr v1205 256 c1206) (by simp)) r1209) (r6.up hl1215) (r9.up hl1215) (arr_rd (by decide) hl1215 (hL (Arr v626 256 c627) (by simp)) r630) (r6.up hl1215) (r9.up hl1215) hq1214)) rfl rfl ?_
       rintro _ wd1217 ⟨x1216, rfl, rfl, H⟩
       try dsimp only at hF
       replace H := hback H
       dsimp only [List.cons_append, List.nil_append] at H
       refine nq (Q_assign rfl) rfl rfl <| WL_nil <| x_then <| C_ret ?_
       replace H := H.drop 0 rfl
       dsimp only [List.eraseIdx] at H
       replace H := H.drop 0 rfl
       dsimp only [List.eraseIdx] at H
       replace H := H.drop 0 rfl
       dsimp only [List.eraseIdx] at H
       replace H := H.drop 0 rfl
       dsimp only [List.eraseIdx] at H
       replace H := H.drop 0 rfl
       dsimp only [List.eraseIdx] at H
       obtain rfl := Option.some.inj hF
       exact fn_ret (l := [.tmp 4]) (vs := [.bool x1216]) rfl rfl rfl ⟨x1216, rfl, rfl, H⟩
end Go.Proofs.YtealkahefalaeaaGreatDoor
