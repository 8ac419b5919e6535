/-
  The walks of the law WalkRuns, printed by my program, part 1: each function of the code computes its pure function.
-/
import Derived.Test.YtealkahefalaeaaGreatDoorWalkRunsD1
import Derived.Test.YtealkahefalaeaaGreatDoorProg
namespace Go.Proofs.YtealkahefalaeaaGreatDoor
open Go Go.Eng
set_option maxRecDepth 100000
theorem ty3 : Ty Tryz.prog 3 1 8 (.int .i64 0) false := ⟨by kernel_rfl, by kernel_rfl⟩
theorem ty4 : Ty Tryz.prog 4 1 1 (.bool false) false := ⟨by kernel_rfl, by kernel_rfl⟩
theorem ty5 : Ty Tryz.prog 5 1 1 (.int .u8 0) false := ⟨by kernel_rfl, by kernel_rfl⟩
theorem ty22 : Ty Tryz.prog 22 1 24 (.slice none 0 0) false := ⟨by kernel_rfl, by kernel_rfl⟩
theorem ty23 : Ty Tryz.prog 23 1 24 (.slice none 0 0) false := ⟨by kernel_rfl, by kernel_rfl⟩
theorem ty25 : Ty Tryz.prog 25 2 48 (.agg ([.slice none 0 0, .slice none 0 0]).toArray) true := ⟨by kernel_rfl, by kernel_rfl⟩
theorem ty27 : Ty Tryz.prog 27 1 24 (.slice none 0 0) false := ⟨by kernel_rfl, by kernel_rfl⟩
theorem ty29 : Ty Tryz.prog 29 2 48 (.agg ([.slice none 0 0, .slice none 0 0]).toArray) true := ⟨by kernel_rfl, by kernel_rfl⟩
theorem ty37 : Ty Tryz.prog 37 1 8 (.int .u64 0) false := ⟨by kernel_rfl, by kernel_rfl⟩
theorem ty38 : Ty Tryz.prog 38 4 32 (.agg ([.int .u64 0, .int .u64 0, .int .u64 0, .int .u64 0]).toArray) true := ⟨by kernel_rfl, by kernel_rfl⟩
theorem ty39 : Ty Tryz.prog 39 4 32 (.agg ([.int .u64 0, .int .u64 0, .int .u64 0, .int .u64 0]).toArray) true := ⟨by kernel_rfl, by kernel_rfl⟩
theorem ty41 : Ty Tryz.prog 41 7 72 (.agg ([.slice none 0 0, .int .u64 0, .int .u64 0, .int .u64 0, .int .u64 0, .int .i64 0, .int .i64 0]).toArray) true := ⟨by kernel_rfl, by kernel_rfl⟩
theorem ty42 : Ty Tryz.prog 42 1 24 (.slice none 0 0) false := ⟨by kernel_rfl, by kernel_rfl⟩
theorem ty53 : Ty Tryz.prog 53 1 16 .nilIface false := ⟨by kernel_rfl, by kernel_rfl⟩
theorem ty126 : Ty Tryz.prog 126 7 72 (.agg ([.slice none 0 0, .int .u64 0, .int .u64 0, .int .u64 0, .int .u64 0, .int .i64 0, .int .i64 0]).toArray) true := ⟨by kernel_rfl, by kernel_rfl⟩
theorem ty135 : Ty Tryz.prog 135 2 48 (.agg ([.slice none 0 0, .slice none 0 0]).toArray) true := ⟨by kernel_rfl, by kernel_rfl⟩
theorem ty137 : Ty Tryz.prog 137 1 24 (.slice none 0 0) false := ⟨by kernel_rfl, by kernel_rfl⟩
theorem ty139 : Ty Tryz.prog 139 2 32 (.agg ([.slice none 0 0, .int .i64 0]).toArray) true := ⟨by kernel_rfl, by kernel_rfl⟩
theorem st29 : ∃ fs, St Tryz.prog 29 fs [(0, 1), (1, 1)] [.slice none 0 0, .slice none 0 0] := ⟨_, Tryz.underlying29, by kernel_rfl, _, _, _, _, ty29, rfl⟩
theorem st126 : ∃ fs, St Tryz.prog 126 fs [(0, 1), (1, 4), (5, 1), (6, 1)] [.slice none 0 0, .int .u64 0, .int .u64 0, .int .u64 0, .int .u64 0, .int .i64 0, .int .i64 0] := ⟨_, Tryz.underlying126, by kernel_rfl, _, _, _, _, ty126, rfl⟩
theorem st135 : ∃ fs, St Tryz.prog 135 fs [(0, 2)] [.slice none 0 0, .slice none 0 0] := ⟨_, Tryz.underlying135, by kernel_rfl, _, _, _, _, ty135, rfl⟩
theorem st139 : ∃ fs, St Tryz.prog 139 fs [(0, 1), (1, 1)] [.slice none 0 0, .int .i64 0] := ⟨_, Tryz.underlying139, by kernel_rfl, _, _, _, _, ty139, rfl⟩
theorem fn16 : HasFn Tryz.prog 16 := ⟨_, _, Tryz.func16, by kernel_rfl, rfl⟩
theorem fn18 : HasFn Tryz.prog 18 := ⟨_, _, Tryz.func18, by kernel_rfl, rfl⟩
theorem fn19 : HasFn Tryz.prog 19 := ⟨_, _, Tryz.func19, by kernel_rfl, rfl⟩
theorem fn22 : HasFn Tryz.prog 22 := ⟨_, _, Tryz.func22, by kernel_rfl, rfl⟩
theorem fn23 : HasFn Tryz.prog 23 := ⟨_, _, Tryz.func23, by kernel_rfl, rfl⟩
theorem fn24 : HasFn Tryz.prog 24 := ⟨_, _, Tryz.func24, by kernel_rfl, rfl⟩
theorem fn25 : HasFn Tryz.prog 25 := ⟨_, _, Tryz.func25, by kernel_rfl, rfl⟩
theorem fn26 : HasFn Tryz.prog 26 := ⟨_, _, Tryz.func26, by kernel_rfl, rfl⟩
theorem fn27 : HasFn Tryz.prog 27 := ⟨_, _, Tryz.func27, by kernel_rfl, rfl⟩
theorem fn28 : HasFn Tryz.prog 28 := ⟨_, _, Tryz.func28, by kernel_rfl, rfl⟩
theorem fn29 : HasFn Tryz.prog 29 := ⟨_, _, Tryz.func29, by kernel_rfl, rfl⟩
theorem fn39 : HasFn Tryz.prog 39 := ⟨_, _, Tryz.func39, by kernel_rfl, rfl⟩
theorem fn40 : HasFn Tryz.prog 40 := ⟨_, _, Tryz.func40, by kernel_rfl, rfl⟩
theorem fn41 : HasFn Tryz.prog 41 := ⟨_, _, Tryz.func41, by kernel_rfl, rfl⟩
theorem fn42 : HasFn Tryz.prog 42 := ⟨_, _, Tryz.func42, by kernel_rfl, rfl⟩
theorem fn74 : HasFn Tryz.prog 74 := ⟨_, _, Tryz.func74, by kernel_rfl, rfl⟩
theorem fn75 : HasFn Tryz.prog 75 := ⟨_, _, Tryz.func75, by kernel_rfl, rfl⟩
theorem fn76 : HasFn Tryz.prog 76 := ⟨_, _, Tryz.func76, by kernel_rfl, rfl⟩
theorem fn80 : HasFn Tryz.prog 80 := ⟨_, _, Tryz.func80, by kernel_rfl, rfl⟩
theorem fn81 : HasFn Tryz.prog 81 := ⟨_, _, Tryz.func81, by kernel_rfl, rfl⟩
theorem fn82 : HasFn Tryz.prog 82 := ⟨_, _, Tryz.func82, by kernel_rfl, rfl⟩
theorem fn83 : HasFn Tryz.prog 83 := ⟨_, _, Tryz.func83, by kernel_rfl, rfl⟩
theorem fn84 : HasFn Tryz.prog 84 := ⟨_, _, Tryz.func84, by kernel_rfl, rfl⟩
theorem fn85 : HasFn Tryz.prog 85 := ⟨_, _, Tryz.func85, by kernel_rfl, rfl⟩
theorem fn86 : HasFn Tryz.prog 86 := ⟨_, _, Tryz.func86, by kernel_rfl, rfl⟩
theorem fn87 : HasFn Tryz.prog 87 := ⟨_, _, Tryz.func87, by kernel_rfl, rfl⟩
theorem fn128 : HasFn Tryz.prog 128 := ⟨_, _, Tryz.func128, by kernel_rfl, rfl⟩
theorem fn129 : HasFn Tryz.prog 129 := ⟨_, _, Tryz.func129, by kernel_rfl, rfl⟩
theorem fn130 : HasFn Tryz.prog 130 := ⟨_, _, Tryz.func130, by kernel_rfl, rfl⟩
theorem fn131 : HasFn Tryz.prog 131 := ⟨_, _, Tryz.func131, by kernel_rfl, rfl⟩
theorem fn132 : HasFn Tryz.prog 132 := ⟨_, _, Tryz.func132, by kernel_rfl, rfl⟩
theorem fn133 : HasFn Tryz.prog 133 := ⟨_, _, Tryz.func133, by kernel_rfl, rfl⟩
theorem c_25 {N : Nat} {C : Cx} {w : World} {ρ : View} {hs : List Hl} {gV : Nat → Value} {v1 : Value} {v4 : Value} {x2 : (List Int)} {x5 : (List Int)} (H : Hp C w ρ (hs)) (_gle : GErrs ρ 394 errIds gV) (r3 : RdSl ρ (eI .i64) v1 x2) (r6 : RdSl ρ (eI .i64) v4 x5) {r : Bool} (hF : F_doffernum_SameInts N x2 x5 = some r) :
  Calls Tryz.prog 25 [v1, v4].toArray w (Rets (fun v w' => (∃ (x107 : Bool), x107 = r ∧ .bool x107 = v ∧ Hp C w' ρ (hs)))) := by
 unfold F_doffernum_SameInts at hF
 have h0 : Tryz.f25.body = some _ := rfl
 refine fn_calls' Tryz.func25 h0 (n := 26) rfl (by simp) <| C_seq <| R_nd <| nq (Q_assign rfl) rfl rfl <| WL_nil <| x_then <| C_seq <| C_seq <| R_nd <| nq (Q_move rfl) rfl rfl <| nq (Q_len Tryz.underlying23 rfl r3) rfl rfl <| nq (Q_move rfl) rfl rfl <| nq (Q_len Tryz.underlying23 rfl r6) rfl rfl <| nq (Q_neq rfl rfl) rfl rfl ?_
 refine WL_nil <| x_then ?_
 refine C_cond rfl (fun hb => ?_) (fun hb => ?_)
 ·replace hF := itT hb hF
  refine C_seq <| R_nd <| nq (Q_assign rfl) rfl rfl <| WL_nil <| x_then <| C_ret <| x_then_ret ?_
  obtain rfl := Option.some.inj hF
  exact fn_ret (l := [.tmp 4]) (vs := [.bool false]) rfl rfl rfl ⟨false, rfl, rfl, H⟩
 ·replace hF := itF hb hF
  refine C_skip <| x_then <| C_seq <| C_seq <| R_nd <| nq (Q_move rfl) rfl rfl <| nq (Q_len Tryz.underlying23 rfl r3) rfl rfl <| nq (Q_move rfl) rfl rfl <| WL_nil <| x_then ?_
  obtain ⟨o157, ho157, hF⟩ := bnd hF
  refine C_cutQ (fun a w' => .inl () = o157 ∧ Fr 26 a [] ∧ Hp C w' ρ (hs)) ?_ ?_
  ·refine C_block ?_
   refine C_iter (f := fun s => F_doffernum_SameInts_l0 N x2 x5 s) ho157 (fun s a w' => ∃ (x173 : Int), x173 = s ∧ Fr 26 a [(0, v1), (1, v4), (12, .int .i64 (x2.length : Int)), (13, .int .i64 x173)] ∧ Hp C w' ρ (hs)) ?_ ?_
   ·exact fun a hf => ⟨0, rfl, hf.sub ⟨rfl, rfl, rfl, rfl, trivial⟩, H⟩
   ·rintro s o189 a wd192 ⟨x173, rfl, hf, H⟩ hB190 hO191
    replace hB190 : F_doffernum_SameInts_l0 N x2 x5 x173 = some o189 := hB190
    unfold F_doffernum_SameInts_l0 at hB190
    refine CW.at hf <| C_seq <| R_nd <| nq (Q_lss rfl rfl) rfl rfl <| WL_nil <| x_then <| C_seq ?_
    refine C_cond rfl (fun hb => ?_) (fun hb => ?_)
    ·replace hB190 := itT hb hB190
     refine C_skip <| x_then <| C_seq <| C_block <| C_seq <| R_nd <| nq (Q_move rfl) rfl rfl <| nq (Q_assign rfl) rfl rfl <| WL_nil <| x_then <| C_seq <| R_dr (.take 0 (.take 1 (.take 2 (.take 3 (.take 4 (.take 5 (.take 6 (.take 7 (.take 8 .done))))))))) (fun w' => Ok w' ρ []) (by kernel_rfl) (by kernel_rfl) (by kernel_rfl) (H.drew.okS (by simp)) ?_
     replace H := H.drew
     refine dq rfl (fun _ _ => Q_move rfl) rfl rfl <| dq rfl (fun _ _ => Q_move rfl) rfl rfl ?_
     obtain ⟨x193, hx193, hB190⟩ := bnd hB190
     obtain ⟨b194, o195, c196, hc197, ha198, hi199⟩ := idxR r3 hx193
     refine dq rfl (fun _ _ => Q_idx hi199 Tryz.underlying23 ty3 rfl rfl) rfl rfl <| dq (v := .int .i64 x193) rfl (fun _ hw => Q_ld (show cellsAt _ _ _ [.int .i64 x193] from (show _ = [_] from hc197) ▸ (ha198.up hw.view)) ty3 rfl (fun _ => rfl) rfl rfl) rfl rfl <| dq rfl (fun _ _ => Q_move rfl) rfl rfl <| dq rfl (fun _ _ => Q_move rfl) rfl rfl ?_
     obtain ⟨x200, hx200, hB190⟩ := bnd hB190
     obtain ⟨b201, o202, c203, hc204, ha205, hi206⟩ := idxR r6 hx200
     refine dq rfl (fun _ _ => Q_idx hi206 Tryz.underlying23 ty3 rfl rfl) rfl rfl <| dq (v := .int .i64 x200) rfl (fun _ hw => Q_ld (show cellsAt _ _ _ [.int .i64 x200] from (show _ = [_] from hc204) ▸ (ha205.up hw.view)) ty3 rfl (fun _ => rfl) rfl rfl) rfl rfl <| dq rfl (fun _ _ => Q_neq rfl rfl) rfl rfl <| DL_nil <| x_then ?_
     refine C_cond rfl (fun hb => ?_) (fun hb => ?_)
     ·replace hB190 := itT hb hB190
      refine C_seq <| R_nd <| nq (Q_assign rfl) rfl rfl <| WL_nil <| x_then <| C_ret <| x_block_ret <| x_then_ret <| x_then_ret <| x_block_ret <| x_then_ret <| x_then_ret ?_
      obtain rfl := Option.some.inj hB190
      obtain rfl := hO191 _ rfl
      obtain rfl := Option.some.inj (show some _ = some _ from hF)
      exact fn_ret (l := [.tmp 4]) (vs := [.bool false]) rfl rfl rfl ⟨false, rfl, rfl, H⟩
     ·replace hB190 := itF hb hB190
      refine C_skip <| x_block <| x_then <| R_nd <| nq (Q_add rfl rfl) rfl rfl <| nq (Q_move rfl) rfl rfl <| WL_nil ?_
      obtain rfl := Option.some.inj hB190
      refine x_A fun a hf => ⟨_, rfl, w64 (x173 + 1), rfl, hf.sub ⟨rfl, rfl, rfl, rfl, trivial⟩, H⟩
    ·replace hB190 := itF hb hB190
     refine C_exit <| x_then_exit <| x_then_exit <| x_block_exit ?_
     obtain rfl := Option.some.inj hB190
     obtain rfl := hO191 _ rfl
     refine x_A fun a hf => ⟨rfl, hf.sub trivial, H⟩
  ·rintro a wd207 ⟨rfl, hf, H⟩
   try dsimp only at hF
   refine XX.at hf <| x_then <| C_seq <| R_nd <| nq (Q_assign rfl) rfl rfl <| WL_nil <| x_then <| C_ret ?_
   obtain rfl := Option.some.inj hF
   exact fn_ret (l := [.tmp 4]) (vs := [.bool true]) rfl rfl rfl ⟨true, rfl, rfl, H⟩
theorem c_16 {N : Nat} {C : Cx} {w : World} {ρ : View} {hs : List Hl} {gV : Nat → Value} {v1 : Value} {v4 : Value} {x2 : (List ((List Int) × (Int × Int × Int × Int) × Int × Int))} {x5 : (List Int)} {x7 : Int} (H : Hp C w ρ (hs)) (_gle : GErrs ρ 394 errIds gV) (r3 : RdSl ρ (eP (eL (eI .i64)) (eP (eP (eI .u64) (eP (eI .u64) (eP (eI .u64) (eI .u64)))) (eP (eI .i64) (eI .i64)))) v1 x2) (r6 : RdSl ρ (eI .i64) v4 x5) {r : ((List ((List Int) × (Int × Int × Int × Int) × Int × Int)) × Bool)} (hF : F_dofferlaw15_Of N x2 x5 x7 = some r) :
  Calls Tryz.prog 16 [.agg #[v1, v4], .int .i64 x7].toArray w (Rets (fun v w' => (∃ (v382 : Value) (c383 : (List Value)) (x384 : (List ((List Int) × (Int × Int × Int × Int) × Int × Int))) (x386 : Bool), (x384, x386) = r ∧ .tuple [.agg #[v382, v4], .bool x386].toArray = v ∧ rdL (eP (eL (eI .i64)) (eP (eP (eI .u64) (eP (eI .u64) (eP (eI .u64) (eI .u64)))) (eP (eI .i64) (eI .i64)))) ρ x384 c383 ∧ Hp C w' ρ (Arr v382 7 c383 :: hs)))) := by
 unfold F_dofferlaw15_Of at hF
 have h0 : Tryz.f16.body = some _ := rfl
 refine fn_calls' Tryz.func16 h0 (n := 52) rfl (by simp) <| C_seq <| R_nd <| ne (E_box H (vs := [v1, v4]) rfl rfl) rfl rfl ?_
 rintro _ wd388 ⟨b387, rfl, H⟩
 refine ne (E_alloc H ty29 (zs := [.slice none 0 0, .slice none 0 0]) rfl) rfl rfl ?_
 rintro _ wd390 ⟨b389, rfl, H⟩
 refine nq (Q_assign rfl) rfl rfl <| WL_nil <| x_then <| C_seq <| R_nd <| nq (v := .pointer (some ⟨b387, 1, none⟩)) (Q_fld Tryz.underlying25 rfl ty23 (by decide) rfl rfl) rfl rfl <| nq (v := v4) (Q_ldB (k := 1) (cs := [v4]) H.ok rfl ty23 rfl rfl rfl (fun _ => rfl) rfl) rfl rfl <| nq (v := .agg #[.slice none 0 0, v4]) (Q_buildS st29.choose_spec (ps := [(1, [v4])]) rfl ⟨rfl, (RdSl.cells r6), by simp, trivial⟩ rfl) rfl rfl <| ne (E_alloc H ty29 (zs := [.slice none 0 0, .slice none 0 0]) rfl) rfl rfl ?_
 rintro _ wd392 ⟨b391, rfl, H⟩
 refine ne (E_stB (k := 0) (cs := [.slice none 0 0, v4]) (vs' := [.slice none 0 0, v4]) H rfl ty29 rfl rfl rfl rfl (one_cons rfl (one_cons (RdSl.one r6) one_nil)) (by simp) rfl) rfl rfl ?_
 rintro _ wd393 H
 dsimp only [List.set] at H
 refine WL_nil <| x_then <| C_seq ?_
 obtain ⟨o395, ho395, hF⟩ := bnd hF
 refine C_cut (fun a w' => ∃ (x394 : Bool), x394 = o395 ∧ Fr 52 a [(2, .pointer (some ⟨b387, 0, none⟩)), (4, .pointer (some ⟨b389, 0, none⟩)), (6, .pointer (some ⟨b391, 0, none⟩)), (22, .bool x394)] ∧ Hp C w' ρ (Box b387 [v1, v4] :: Box b389 [.slice none 0 0, .slice none 0 0] :: Box b391 [.slice none 0 0, v4] :: hs)) ?_ ?_
 ·refine R_nd <| nq (v := .pointer (some ⟨b387, 1, none⟩)) (Q_fld Tryz.underlying25 rfl ty23 (by decide) rfl rfl) rfl rfl <| nq (v := v4) (Q_ldB (k := 2) (cs := [v4]) H.ok rfl ty23 rfl rfl rfl (fun _ => rfl) rfl) rfl rfl <| nq (Q_len Tryz.underlying23 rfl r6) rfl rfl <| nq (Q_gtr rfl rfl) rfl rfl <| nq (Q_move rfl) rfl rfl ?_
  rcases Bool.eq_false_or_eq_true (decide ((x5.length : Int) > 20)) with hb | hb
  ·rw [hb]
   replace ho395 := itT hb ho395
   refine gs rfl rfl rfl rfl <| gs rfl rfl rfl rfl <| gs rfl rfl rfl rfl <| gs rfl rfl rfl rfl <| gs rfl rfl rfl rfl <| nq (Q_pickT rfl rfl) rfl rfl <| WL_nil ?_
   replace H := H.f1
   replace H := H.f2
   obtain rfl := Option.some.inj ho395
   refine x_A fun a hf => ⟨true, rfl, hf.sub ⟨rfl, rfl, rfl, rfl, trivial⟩, H⟩
  ·rw [hb]
   replace ho395 := itF hb ho395
   refine gq (v := .pointer (some ⟨b387, 0, none⟩)) (Q_fld Tryz.underlying25 rfl ty22 (by decide) rfl rfl) rfl rfl rfl <| gq (v := v1) (Q_ldB (k := 2) (cs := [v1]) H.ok rfl ty22 rfl rfl rfl (fun _ => rfl) rfl) rfl rfl rfl <| gq (Q_len Tryz.underlying22 rfl r3) rfl rfl rfl <| gq (Q_move rfl) rfl rfl rfl <| gq (Q_gtr rfl rfl) rfl rfl rfl <| nq (Q_pickF rfl rfl) rfl rfl <| WL_nil ?_
   replace H := H.f1
   replace H := H.f2
   obtain rfl := Option.some.inj ho395
   refine x_A fun a hf => ⟨decide ((x2.length : Int) > x7), rfl, hf.sub ⟨rfl, rfl, rfl, rfl, trivial⟩, H⟩
 ·rintro a wd396 ⟨x394, rfl, hf, H⟩
  try dsimp only at hF
  refine CW.at hf ?_
  refine C_cond rfl (fun hb => ?_) (fun hb => ?_)
  ·replace hF := itT hb hF
   refine C_seq <| R_nd <| nq (v := .agg #[.slice none 0 0, v4]) (Q_ldB (k := 2) (cs := [.slice none 0 0, v4]) H.ok rfl ty29 rfl rfl rfl (fun h => nomatch h) rfl) rfl rfl <| ne (E_stB (k := 1) (cs := [.slice none 0 0, v4]) (vs' := [.slice none 0 0, v4]) H rfl ty29 rfl rfl rfl rfl (one_cons rfl (one_cons (RdSl.one r6) one_nil)) (by simp) rfl) rfl rfl ?_
   rintro _ wd397 H
   dsimp only [List.set] at H
   refine nq (Q_assign rfl) rfl rfl <| WL_nil <| x_then <| C_ret <| x_then_ret ?_
   have H := H.nilArr 7
   have hRV : RV Tryz.prog wd397 [(4, .pointer (some ⟨b389, 0, none⟩)), (5, .bool false)] [.cell 4 29, .tmp 5] [.agg #[(.slice none 0 0), v4], .bool false] := ⟨⟨_, rfl, run_ldv ty29 rfl (fun h => nomatch h) (box_at (H.ok.get (k := 2) rfl) 0 2)⟩, rfl, trivial⟩
   replace H := H.drop 1 rfl
   dsimp only [List.eraseIdx] at H
   replace H := H.drop 1 rfl
   dsimp only [List.eraseIdx] at H
   replace H := H.drop 1 rfl
   dsimp only [List.eraseIdx] at H
   obtain rfl := Option.some.inj hF
   exact fn_retV (rs := [.cell 4 29, .tmp 5]) (vs := [.agg #[(.slice none 0 0), v4], .bool false]) rfl hRV ⟨(.slice none 0 0), [], [], false, rfl, rfl, rdL.nil, H⟩
  ·replace hF := itF hb hF
   refine C_skip <| x_then <| C_seq <| C_seq <| R_nd <| nq (v := .pointer (some ⟨b387, 0, none⟩)) (Q_fld Tryz.underlying25 rfl ty22 (by decide) rfl rfl) rfl rfl <| nq (v := v1) (Q_ldB (k := 0) (cs := [v1]) H.ok rfl ty22 rfl rfl rfl (fun _ => rfl) rfl) rfl rfl <| nq (Q_len Tryz.underlying22 rfl r3) rfl rfl <| nq (Q_move rfl) rfl rfl <| WL_nil <| x_then ?_
   obtain ⟨o580, ho580, hF⟩ := bnd hF
   refine C_cutQ (fun a w' => ∃ (v576 : Value) (c577 : (List Value)) (x578 : (List ((List Int) × (Int × Int × Int × Int) × Int × Int))), .inl x578 = o580 ∧ rdL (eP (eL (eI .i64)) (eP (eP (eI .u64) (eP (eI .u64) (eP (eI .u64) (eI .u64)))) (eP (eI .i64) (eI .i64)))) ρ x578 c577 ∧ Fr 52 a [(4, .pointer (some ⟨b389, 0, none⟩)), (6, .pointer (some ⟨b391, 0, none⟩))] ∧ Hp C w' ρ (Box b389 [.slice none 0 0, .slice none 0 0] :: Box b391 [v576, v4] :: Arr v576 7 c577 :: hs)) ?_ ?_
   ·refine C_block ?_
    have H := H.nilArr 7
    replace H := H.f3
    replace H := H.f3
    replace H := H.drop 3 rfl
    dsimp only [List.eraseIdx] at H
    refine C_iter (f := fun s => F_dofferlaw15_Of_l0 N x2 s.1 s.2) ho580 (fun s a w' => ∃ (v640 : Value) (c641 : (List Value)) (x639 : Int) (x642 : (List ((List Int) × (Int × Int × Int × Int) × Int × Int))), (x639, x642) = s ∧ rdL (eP (eL (eI .i64)) (eP (eP (eI .u64) (eP (eI .u64) (eP (eI .u64) (eI .u64)))) (eP (eI .i64) (eI .i64)))) ρ x642 c641 ∧ Fr 52 a [(4, .pointer (some ⟨b389, 0, none⟩)), (6, .pointer (some ⟨b391, 0, none⟩)), (25, v1), (26, .int .i64 (x2.length : Int)), (27, .int .i64 x639)] ∧ Hp C w' ρ (Box b389 [.slice none 0 0, .slice none 0 0] :: Box b391 [v640, v4] :: Arr v640 7 c641 :: hs)) ?_ ?_
    ·exact fun a hf => ⟨(.slice none 0 0), [], 0, [], rfl, rdL.nil, hf.sub ⟨rfl, rfl, rfl, rfl, rfl, trivial⟩, H⟩
    ·rintro s o702 a wd705 ⟨v640, c641, x639, x642, rfl, r643, hf, H⟩ hB703 hO704
     replace hB703 : F_dofferlaw15_Of_l0 N x2 x639 x642 = some o702 := hB703
     unfold F_dofferlaw15_Of_l0 at hB703
     refine CW.at hf <| C_seq <| R_nd <| nq (Q_lss rfl rfl) rfl rfl <| WL_nil <| x_then <| C_seq ?_
     refine C_cond rfl (fun hb => ?_) (fun hb => ?_)
     ·replace hB703 := itT hb hB703
      refine C_skip <| x_then <| C_seq <| C_block <| C_seq <| R_nd ?_
      obtain ⟨x706, hx706, hB703⟩ := bnd hB703
      obtain ⟨b707, o708, c709, hc710, ha711, hi712⟩ := idxR r3 hx706
      refine nq (Q_idx hi712 Tryz.underlying22 ty41 rfl rfl) rfl rfl ?_
      obtain ⟨c713, c714, he715, hc716, hc717⟩ := (id hc710)
      obtain ⟨v718, he719, r720⟩ := hc716
      obtain ⟨c721, c722, he723, hc724, hc725⟩ := hc717
      obtain ⟨c726, c727, he728, hc729, hc730⟩ := hc724
      obtain ⟨c731, c732, he733, hc734, hc735⟩ := hc730
      obtain ⟨c736, c737, he738, hc739, hc740⟩ := hc735
      obtain ⟨c741, c742, he743, hc744, hc745⟩ := hc725
      refine nq (v := .agg #[v718, .int .u64 x706.2.1.1, .int .u64 x706.2.1.2.1, .int .u64 x706.2.1.2.2.1, .int .u64 x706.2.1.2.2.2, .int .i64 x706.2.2.1, .int .i64 x706.2.2.2]) (Q_ld (show cellsAt _ _ _ [v718, .int .u64 x706.2.1.1, .int .u64 x706.2.1.2.1, .int .u64 x706.2.1.2.2.1, .int .u64 x706.2.1.2.2.2, .int .i64 x706.2.2.1, .int .i64 x706.2.2.2] from cellsAt.cg (cat2 he715 he719 (cat2 he723 (cat2 he728 (rdI hc729) (cat2 he733 (rdI hc734) (cat2 he738 (rdI hc739) (rdI hc740)))) (cat2 he743 (rdI hc744) (rdI hc745)))) (ha711.up H.ok.view)) ty41 rfl (fun h => nomatch h) rfl rfl) rfl rfl <| ne (E_alloc H ty41 (zs := [.slice none 0 0, .int .u64 0, .int .u64 0, .int .u64 0, .int .u64 0, .int .i64 0, .int .i64 0]) rfl) rfl rfl ?_
      rintro _ wd747 ⟨b746, rfl, H⟩
      refine ne (E_stB (k := 0) (cs := [v718, .int .u64 x706.2.1.1, .int .u64 x706.2.1.2.1, .int .u64 x706.2.1.2.2.1, .int .u64 x706.2.1.2.2.2, .int .i64 x706.2.2.1, .int .i64 x706.2.2.2]) (vs' := [v718, .int .u64 x706.2.1.1, .int .u64 x706.2.1.2.1, .int .u64 x706.2.1.2.2.1, .int .u64 x706.2.1.2.2.2, .int .i64 x706.2.2.1, .int .i64 x706.2.2.2]) H rfl ty41 rfl rfl rfl rfl (one_cons (RdSl.one r720) (one_cons rfl (one_cons rfl (one_cons rfl (one_cons rfl (one_cons rfl (one_cons rfl one_nil))))))) (by simp) rfl) rfl rfl ?_
      rintro _ wd748 H
      dsimp only [List.set] at H
      refine WL_nil <| x_then <| C_seq <| C_seq <| R_nd <| nq (v := .pointer (some ⟨b746, 0, none⟩)) (Q_fld Tryz.underlying41 rfl ty23 (by decide) rfl rfl) rfl rfl <| nq (v := v718) (Q_ldB (k := 0) (cs := [v718]) H.ok rfl ty23 rfl rfl rfl (fun _ => rfl) rfl) rfl rfl <| nq (Q_len Tryz.underlying23 rfl r720) rfl rfl <| nq (Q_gtr rfl rfl) rfl rfl <| WL_nil <| x_then ?_
      refine C_cond rfl (fun hb => ?_) (fun hb => ?_)
      ·replace hB703 := itT hb hB703
       refine C_seq <| R_nd <| nq (v := .agg #[v640, v4]) (Q_ldB (k := 2) (cs := [v640, v4]) H.ok rfl ty29 rfl rfl rfl (fun h => nomatch h) rfl) rfl rfl <| ne (E_stB (k := 1) (cs := [v640, v4]) (vs' := [v640, v4]) H rfl ty29 rfl rfl rfl rfl (one_cons (arr_cells (H.ok.get (k := 3) rfl)).2 (one_cons (RdSl.one r6) one_nil)) (by simp) rfl) rfl rfl ?_
       rintro _ wd749 H
       dsimp only [List.set] at H
       refine nq (Q_assign rfl) rfl rfl <| WL_nil <| x_then <| C_ret <| x_then_ret <| x_block_ret <| x_then_ret <| x_then_ret <| x_block_ret <| x_then_ret <| x_then_ret ?_
       have hRV : RV Tryz.prog wd749 [(4, .pointer (some ⟨b389, 0, none⟩)), (5, .bool false)] [.cell 4 29, .tmp 5] [.agg #[v640, v4], .bool false] := ⟨⟨_, rfl, run_ldv ty29 rfl (fun h => nomatch h) (box_at (H.ok.get (k := 1) rfl) 0 2)⟩, rfl, trivial⟩
       replace H := H.f3
       replace H := H.drop 1 rfl
       dsimp only [List.eraseIdx] at H
       replace H := H.drop 1 rfl
       dsimp only [List.eraseIdx] at H
       replace H := H.drop 1 rfl
       dsimp only [List.eraseIdx] at H
       obtain rfl := Option.some.inj hB703
       obtain rfl := hO704 _ rfl
       obtain rfl := Option.some.inj (show some _ = some _ from hF)
       exact fn_retV (rs := [.cell 4 29, .tmp 5]) (vs := [.agg #[v640, v4], .bool false]) rfl hRV ⟨v640, c641, x642, false, rfl, rfl, r643, H⟩
      ·replace hB703 := itF hb hB703
       refine C_skip <| x_then <| R_nd <| nq (v := .pointer (some ⟨b391, 0, none⟩)) (Q_fld Tryz.underlying29 rfl ty27 (by decide) rfl rfl) rfl rfl <| nq (v := v640) (Q_ldB (k := 2) (cs := [v640]) H.ok rfl ty27 rfl rfl rfl (fun _ => rfl) rfl) rfl rfl <| nq (v := .pointer (some ⟨b746, 0, none⟩)) (Q_fld Tryz.underlying41 rfl ty23 (by decide) rfl rfl) rfl rfl <| nq (v := v718) (Q_ldB (k := 0) (cs := [v718]) H.ok rfl ty23 rfl rfl rfl (fun _ => rfl) rfl) rfl rfl <| nq (v := .pointer (some ⟨b746, 1, none⟩)) (Q_fld Tryz.underlying41 rfl ty39 (by decide) rfl rfl) rfl rfl <| nq (v := .agg #[.int .u64 x706.2.1.1, .int .u64 x706.2.1.2.1, .int .u64 x706.2.1.2.2.1, .int .u64 x706.2.1.2.2.2]) (Q_ldB (k := 0) (cs := [.int .u64 x706.2.1.1, .int .u64 x706.2.1.2.1, .int .u64 x706.2.1.2.2.1, .int .u64 x706.2.1.2.2.2]) H.ok rfl ty39 rfl rfl rfl (fun h => nomatch h) rfl) rfl rfl <| nq (v := .pointer (some ⟨b746, 5, none⟩)) (Q_fld Tryz.underlying41 rfl ty3 (by decide) rfl rfl) rfl rfl <| nq (v := .int .i64 x706.2.2.1) (Q_ldB (k := 0) (cs := [.int .i64 x706.2.2.1]) H.ok rfl ty3 rfl rfl rfl (fun _ => rfl) rfl) rfl rfl <| nq (v := .pointer (some ⟨b746, 6, none⟩)) (Q_fld Tryz.underlying41 rfl ty3 (by decide) rfl rfl) rfl rfl <| nq (v := .int .i64 x706.2.2.2) (Q_ldB (k := 0) (cs := [.int .i64 x706.2.2.2]) H.ok rfl ty3 rfl rfl rfl (fun _ => rfl) rfl) rfl rfl <| nq (v := .agg #[v718, .int .u64 x706.2.1.1, .int .u64 x706.2.1.2.1, .int .u64 x706.2.1.2.2.1, .int .u64 x706.2.1.2.2.2, .int .i64 x706.2.2.1, .int .i64 x706.2.2.2]) (Q_buildS st126.choose_spec (ps := [(0, [v718]), (1, [.int .u64 x706.2.1.1, .int .u64 x706.2.1.2.1, .int .u64 x706.2.1.2.2.1, .int .u64 x706.2.1.2.2.2]), (5, [.int .i64 x706.2.2.1]), (6, [.int .i64 x706.2.2.2])]) rfl ⟨rfl, (RdSl.cells r720), by simp, ⟨rfl, rfl, by simp, ⟨rfl, rfl, by simp, ⟨rfl, rfl, by simp, trivial⟩⟩⟩⟩ rfl) rfl rfl ?_
       refine ne (E_bslice (xs := [.tmp 46]) (vs := [.agg #[v718, .int .u64 x706.2.1.1, .int .u64 x706.2.1.2.1, .int .u64 x706.2.1.2.2.1, .int .u64 x706.2.1.2.2.2, .int .i64 x706.2.2.1, .int .i64 x706.2.2.2]]) H Tryz.underlying27 ty126 (by decide) (cs := [v718, .int .u64 x706.2.1.1, .int .u64 x706.2.1.2.1, .int .u64 x706.2.1.2.2.1, .int .u64 x706.2.1.2.2.2, .int .i64 x706.2.2.1, .int .i64 x706.2.2.2]) rfl (sz_cons rfl sz_nil) rfl (by simp) (by simp) rfl rfl) rfl rfl ?_
       rintro _ wd751 ⟨b750, rfl, H⟩
       obtain ⟨x752, hx752, hB703⟩ := bnd hB703
       obtain ⟨ha753a, ha753b⟩ := app_some hx752
       have r755 : rdL (eP (eL (eI .i64)) (eP (eP (eI .u64) (eP (eI .u64) (eP (eI .u64) (eI .u64)))) (eP (eI .i64) (eI .i64)))) ρ x752 (c641 ++ ([v718, .int .u64 x706.2.1.1, .int .u64 x706.2.1.2.1, .int .u64 x706.2.1.2.2.1, .int .u64 x706.2.1.2.2.2, .int .i64 x706.2.2.1, .int .i64 x706.2.2.2])) := ha753b ▸ rdL.app r643 (show rdL (eP (eL (eI .i64)) (eP (eP (eI .u64) (eP (eI .u64) (eP (eI .u64) (eI .u64)))) (eP (eI .i64) (eI .i64)))) ρ ([(x706.1, (x706.2.1.1, x706.2.1.2.1, x706.2.1.2.2.1, x706.2.1.2.2.2), x706.2.2.1, x706.2.2.2)]) ([v718, .int .u64 x706.2.1.1, .int .u64 x706.2.1.2.1, .int .u64 x706.2.1.2.2.1, .int .u64 x706.2.1.2.2.2, .int .i64 x706.2.2.1, .int .i64 x706.2.2.2]) from ⟨([v718, .int .u64 x706.2.1.1, .int .u64 x706.2.1.2.1, .int .u64 x706.2.1.2.2.1, .int .u64 x706.2.1.2.2.2, .int .i64 x706.2.2.1, .int .i64 x706.2.2.2]), _, rfl, ⟨[v718], _, rfl, ⟨_, rfl, r720⟩, ⟨[.int .u64 x706.2.1.1, .int .u64 x706.2.1.2.1, .int .u64 x706.2.1.2.2.1, .int .u64 x706.2.1.2.2.2], _, rfl, ⟨[.int .u64 x706.2.1.1], _, rfl, rfl, ⟨[.int .u64 x706.2.1.2.1], _, rfl, rfl, ⟨[.int .u64 x706.2.1.2.2.1], _, rfl, rfl, rfl⟩⟩⟩, ⟨[.int .i64 x706.2.2.1], _, rfl, rfl, rfl⟩⟩⟩, rdL.nil⟩)
       refine ne (E_append (k := 4) H rfl Tryz.underlying27 ty126 rfl (by decide) (by decide) rfl rfl (Src.ofArr (k := 0) H.ok rfl) (rdL.one (show rdL (eP (eL (eI .i64)) (eP (eP (eI .u64) (eP (eI .u64) (eP (eI .u64) (eI .u64)))) (eP (eI .i64) (eI .i64)))) ρ ([(x706.1, (x706.2.1.1, x706.2.1.2.1, x706.2.1.2.2.1, x706.2.1.2.2.2), x706.2.2.1, x706.2.2.2)]) ([v718, .int .u64 x706.2.1.1, .int .u64 x706.2.1.2.1, .int .u64 x706.2.1.2.2.1, .int .u64 x706.2.1.2.2.2, .int .i64 x706.2.2.1, .int .i64 x706.2.2.2]) from ⟨([v718, .int .u64 x706.2.1.1, .int .u64 x706.2.1.2.1, .int .u64 x706.2.1.2.2.1, .int .u64 x706.2.1.2.2.2, .int .i64 x706.2.2.1, .int .i64 x706.2.2.2]), _, rfl, ⟨[v718], _, rfl, ⟨_, rfl, r720⟩, ⟨[.int .u64 x706.2.1.1, .int .u64 x706.2.1.2.1, .int .u64 x706.2.1.2.2.1, .int .u64 x706.2.1.2.2.2], _, rfl, ⟨[.int .u64 x706.2.1.1], _, rfl, rfl, ⟨[.int .u64 x706.2.1.2.1], _, rfl, rfl, ⟨[.int .u64 x706.2.1.2.2.1], _, rfl, rfl, rfl⟩⟩⟩, ⟨[.int .i64 x706.2.2.1], _, rfl, rfl, rfl⟩⟩⟩, rdL.nil⟩)) (app_fit r643 (show rdL (eP (eL (eI .i64)) (eP (eP (eI .u64) (eP (eI .u64) (eP (eI .u64) (eI .u64)))) (eP (eI .i64) (eI .i64)))) ρ ([(x706.1, (x706.2.1.1, x706.2.1.2.1, x706.2.1.2.2.1, x706.2.1.2.2.2), x706.2.2.1, x706.2.2.2)]) ([v718, .int .u64 x706.2.1.1, .int .u64 x706.2.1.2.1, .int .u64 x706.2.1.2.2.1, .int .u64 x706.2.1.2.2.2, .int .i64 x706.2.2.1, .int .i64 x706.2.2.2]) from ⟨([v718, .int .u64 x706.2.1.1, .int .u64 x706.2.1.2.1, .int .u64 x706.2.1.2.2.1, .int .u64 x706.2.1.2.2.2, .int .i64 x706.2.2.1, .int .i64 x706.2.2.2]), _, rfl, ⟨[v718], _, rfl, ⟨_, rfl, r720⟩, ⟨[.int .u64 x706.2.1.1, .int .u64 x706.2.1.2.1, .int .u64 x706.2.1.2.2.1, .int .u64 x706.2.1.2.2.2], _, rfl, ⟨[.int .u64 x706.2.1.1], _, rfl, rfl, ⟨[.int .u64 x706.2.1.2.1], _, rfl, rfl, ⟨[.int .u64 x706.2.1.2.2.1], _, rfl, rfl, rfl⟩⟩⟩, ⟨[.int .i64 x706.2.2.1], _, rfl, rfl, rfl⟩⟩⟩, rdL.nil⟩) ha753a)) rfl rfl ?_
       rintro v754 wd757 ⟨H, hc756⟩
       dsimp only [List.set] at H
       refine nq (v := .pointer (some ⟨b391, 0, none⟩)) (Q_fld Tryz.underlying29 rfl ty27 (by decide) rfl rfl) rfl rfl <| ne (E_stB (k := 3) (cs := [v754]) (vs' := [v754, v4]) H rfl ty27 rfl rfl (arr_cells (H.ok.get (k := 4) rfl)).1 rfl (one_cons (arr_cells (H.ok.get (k := 4) rfl)).2 one_nil) (by simp) rfl) rfl rfl ?_
       rintro _ wd758 H
       dsimp only [List.set] at H
       refine WL_nil <| x_block <| x_then <| R_nd <| nq (Q_add rfl rfl) rfl rfl <| nq (Q_move rfl) rfl rfl <| WL_nil ?_
       replace H := H.f4
       replace H := H.f4
       replace H := H.f4
       replace H := H.drop 3 rfl
       dsimp only [List.eraseIdx] at H
       replace H := H.drop 3 rfl
       dsimp only [List.eraseIdx] at H
       obtain rfl := Option.some.inj hB703
       refine x_A fun a hf => ⟨_, rfl, v754, (c641 ++ ([v718, .int .u64 x706.2.1.1, .int .u64 x706.2.1.2.1, .int .u64 x706.2.1.2.2.1, .int .u64 x706.2.1.2.2.2, .int .i64 x706.2.2.1, .int .i64 x706.2.2.2])), w64 (x639 + 1), x752, rfl, r755, hf.sub ⟨rfl, rfl, rfl, rfl, rfl, trivial⟩, H⟩
     ·replace hB703 := itF hb hB703
      refine C_exit <| x_then_exit <| x_then_exit <| x_block_exit ?_
      replace H := H.f2
      replace H := H.f2
      replace H := H.f2
      obtain rfl := Option.some.inj hB703
      obtain rfl := hO704 _ rfl
      refine x_A fun a hf => ⟨v640, c641, x642, rfl, r643, hf.sub ⟨rfl, rfl, trivial⟩, H⟩
   ·rintro a wd759 ⟨v576, c577, x578, rfl, r579, hf, H⟩
    try dsimp only at hF
    refine XX.at hf <| x_then <| C_seq <| R_nd <| nq (v := .agg #[v576, v4]) (Q_ldB (k := 1) (cs := [v576, v4]) H.ok rfl ty29 rfl rfl rfl (fun h => nomatch h) rfl) rfl rfl <| ne (E_stB (k := 0) (cs := [v576, v4]) (vs' := [v576, v4]) H rfl ty29 rfl rfl rfl rfl (one_cons (arr_cells (H.ok.get (k := 2) rfl)).2 (one_cons (RdSl.one r6) one_nil)) (by simp) rfl) rfl rfl ?_
    rintro _ wd760 H
    dsimp only [List.set] at H
    refine nq (Q_assign rfl) rfl rfl <| WL_nil <| x_then <| C_ret ?_
    have hRV : RV Tryz.prog wd760 [(4, .pointer (some ⟨b389, 0, none⟩)), (5, .bool true)] [.cell 4 29, .tmp 5] [.agg #[v576, v4], .bool true] := ⟨⟨_, rfl, run_ldv ty29 rfl (fun h => nomatch h) (box_at (H.ok.get (k := 0) rfl) 0 2)⟩, rfl, trivial⟩
    replace H := H.f2
    replace H := H.drop 1 rfl
    dsimp only [List.eraseIdx] at H
    replace H := H.drop 1 rfl
    dsimp only [List.eraseIdx] at H
    obtain rfl := Option.some.inj hF
    exact fn_retV (rs := [.cell 4 29, .tmp 5]) (vs := [.agg #[v576, v4], .bool true]) rfl hRV ⟨v576, c577, x578, true, rfl, rfl, r579, H⟩
theorem c_19 {N : Nat} {C : Cx} {w : World} {ρ : View} {hs : List Hl} {gV : Nat → Value} {v1 : Value} {v4 : Value} {x2 : (List ((List Int) × (Int × Int × Int × Int) × Int × Int))} {x5 : (List Int)} (H : Hp C w ρ (hs)) (_gle : GErrs ρ 394 errIds gV) (r3 : RdSl ρ (eP (eL (eI .i64)) (eP (eP (eI .u64) (eP (eI .u64) (eP (eI .u64) (eI .u64)))) (eP (eI .i64) (eI .i64)))) v1 x2) (r6 : RdSl ρ (eI .i64) v4 x5) {r : Bool} (hF : F_dofferref15_Right N x2 x5 = some r) :
  Calls Tryz.prog 19 [.agg #[v1, v4]].toArray w (Rets (fun v w' => (∃ (x836 : Bool), x836 = r ∧ .bool x836 = v ∧ Hp C w' ρ (hs)))) := by
 unfold F_dofferref15_Right at hF
 have h0 : Tryz.f19.body = some _ := rfl
 refine fn_calls' Tryz.func19 h0 (n := 99) rfl (by simp) <| C_seq <| R_nd <| ne (E_box H (vs := [v1, v4]) rfl rfl) rfl rfl ?_
 rintro _ wd838 ⟨b837, rfl, H⟩
 refine nq (Q_assign rfl) rfl rfl <| WL_nil <| x_then <| C_seq <| R_nd <| nq (v := .pointer (some ⟨b837, 0, none⟩)) (Q_fld Tryz.underlying29 rfl ty27 (by decide) rfl rfl) rfl rfl <| nq (v := v1) (Q_ldB (k := 0) (cs := [v1]) H.ok rfl ty27 rfl rfl rfl (fun _ => rfl) rfl) rfl rfl <| nq (Q_len Tryz.underlying27 rfl r3) rfl rfl <| nq (Q_assign rfl) rfl rfl <| WL_nil <| x_then <| C_seq ?_
 obtain ⟨o840, ho840, hF⟩ := bnd hF
 refine C_cut (fun a w' => ∃ (x839 : Bool), x839 = o840 ∧ Fr 99 a [(1, .pointer (some ⟨b837, 0, none⟩)), (3, .int .i64 (x2.length : Int)), (30, .bool x839)] ∧ Hp C w' ρ (Box b837 [v1, v4] :: hs)) ?_ ?_
 ·refine R_nd <| nq (Q_move rfl) rfl rfl <| nq (Q_lss rfl rfl) rfl rfl <| nq (Q_move rfl) rfl rfl ?_
  rcases Bool.eq_false_or_eq_true (decide ((x2.length : Int) < 1)) with hb | hb
  ·rw [hb]
   replace ho840 := itT hb ho840
   refine gs rfl rfl rfl rfl <| gs rfl rfl rfl rfl <| nq (Q_pickT rfl rfl) rfl rfl <| nq (Q_move rfl) rfl rfl <| gs rfl rfl rfl rfl <| gs rfl rfl rfl rfl <| gs rfl rfl rfl rfl <| gs rfl rfl rfl rfl <| nq (Q_pickT rfl rfl) rfl rfl <| nq (Q_move rfl) rfl rfl <| gs rfl rfl rfl rfl <| gs rfl rfl rfl rfl <| gs rfl rfl rfl rfl <| gs rfl rfl rfl rfl ?_
   refine nq (Q_pickT rfl rfl) rfl rfl <| WL_nil ?_
   obtain rfl := Option.some.inj ho840
   refine x_A fun a hf => ⟨true, rfl, hf.sub ⟨rfl, rfl, rfl, trivial⟩, H⟩
  ·rw [hb]
   replace ho840 := itF hb ho840
   refine gq (Q_move rfl) rfl rfl rfl <| gq (Q_gtr rfl rfl) rfl rfl rfl <| nq (Q_pickF rfl rfl) rfl rfl <| nq (Q_move rfl) rfl rfl ?_
   rcases Bool.eq_false_or_eq_true (decide ((x2.length : Int) > 4000)) with hb | hb
   ·rw [hb]
    replace ho840 := itT hb ho840
    refine gs rfl rfl rfl rfl <| gs rfl rfl rfl rfl <| gs rfl rfl rfl rfl <| gs rfl rfl rfl rfl <| nq (Q_pickT rfl rfl) rfl rfl <| nq (Q_move rfl) rfl rfl <| gs rfl rfl rfl rfl <| gs rfl rfl rfl rfl <| gs rfl rfl rfl rfl <| gs rfl rfl rfl rfl <| nq (Q_pickT rfl rfl) rfl rfl <| WL_nil ?_
    obtain rfl := Option.some.inj ho840
    refine x_A fun a hf => ⟨true, rfl, hf.sub ⟨rfl, rfl, rfl, trivial⟩, H⟩
   ·rw [hb]
    replace ho840 := itF hb ho840
    refine gq (v := .pointer (some ⟨b837, 1, none⟩)) (Q_fld Tryz.underlying29 rfl ty23 (by decide) rfl rfl) rfl rfl rfl <| gq (v := v4) (Q_ldB (k := 0) (cs := [v4]) H.ok rfl ty23 rfl rfl rfl (fun _ => rfl) rfl) rfl rfl rfl <| gq (Q_len Tryz.underlying23 rfl r6) rfl rfl rfl <| gq (Q_lss rfl rfl) rfl rfl rfl <| nq (Q_pickF rfl rfl) rfl rfl <| nq (Q_move rfl) rfl rfl ?_
    rcases Bool.eq_false_or_eq_true (decide ((x5.length : Int) < 1)) with hb | hb
    ·rw [hb]
     replace ho840 := itT hb ho840
     refine gs rfl rfl rfl rfl <| gs rfl rfl rfl rfl <| gs rfl rfl rfl rfl <| gs rfl rfl rfl rfl <| nq (Q_pickT rfl rfl) rfl rfl <| WL_nil ?_
     obtain rfl := Option.some.inj ho840
     refine x_A fun a hf => ⟨true, rfl, hf.sub ⟨rfl, rfl, rfl, trivial⟩, H⟩
    ·rw [hb]
     replace ho840 := itF hb ho840
     refine gq (v := .pointer (some ⟨b837, 1, none⟩)) (Q_fld Tryz.underlying29 rfl ty23 (by decide) rfl rfl) rfl rfl rfl <| gq (v := v4) (Q_ldB (k := 0) (cs := [v4]) H.ok rfl ty23 rfl rfl rfl (fun _ => rfl) rfl) rfl rfl rfl <| gq (Q_len Tryz.underlying23 rfl r6) rfl rfl rfl <| gq (Q_gtr rfl rfl) rfl rfl rfl <| nq (Q_pickF rfl rfl) rfl rfl <| WL_nil ?_
     obtain rfl := Option.some.inj ho840
     refine x_A fun a hf => ⟨decide ((x5.length : Int) > 8), rfl, hf.sub ⟨rfl, rfl, rfl, trivial⟩, H⟩
 ·rintro a wd841 ⟨x839, rfl, hf, H⟩
  try dsimp only at hF
  refine CW.at hf ?_
  refine C_cond rfl (fun hb => ?_) (fun hb => ?_)
  ·replace hF := itT hb hF
   refine C_seq <| R_nd <| nq (Q_assign rfl) rfl rfl <| WL_nil <| x_then <| C_ret <| x_then_ret ?_
   replace H := H.drop 0 rfl
   dsimp only [List.eraseIdx] at H
   obtain rfl := Option.some.inj hF
   exact fn_ret (l := [.tmp 2]) (vs := [.bool false]) rfl rfl rfl ⟨false, rfl, rfl, H⟩
  ·replace hF := itF hb hF
   refine C_skip <| x_then <| C_seq <| C_seq <| R_nd <| nq (v := .pointer (some ⟨b837, 1, none⟩)) (Q_fld Tryz.underlying29 rfl ty23 (by decide) rfl rfl) rfl rfl <| nq (v := v4) (Q_ldB (k := 0) (cs := [v4]) H.ok rfl ty23 rfl rfl rfl (fun _ => rfl) rfl) rfl rfl <| nq (Q_len Tryz.underlying23 rfl r6) rfl rfl <| nq (Q_move rfl) rfl rfl <| WL_nil <| x_then ?_
   obtain ⟨o879, ho879, hF⟩ := bnd hF
   refine C_cutQ (fun a w' => .inl () = o879 ∧ Fr 99 a [(1, .pointer (some ⟨b837, 0, none⟩)), (3, .int .i64 (x2.length : Int))] ∧ Hp C w' ρ (Box b837 [v1, v4] :: hs)) ?_ ?_
   ·refine C_block ?_
    refine C_iter (f := fun s => F_dofferref15_Right_l0 N x2 x5 s) ho879 (fun s a w' => ∃ (x891 : Int), x891 = s ∧ Fr 99 a [(1, .pointer (some ⟨b837, 0, none⟩)), (3, .int .i64 (x2.length : Int)), (32, v4), (33, .int .i64 (x5.length : Int)), (34, .int .i64 x891)] ∧ Hp C w' ρ (Box b837 [v1, v4] :: hs)) ?_ ?_
    ·exact fun a hf => ⟨0, rfl, hf.sub ⟨rfl, rfl, rfl, rfl, rfl, trivial⟩, H⟩
    ·rintro s o903 a wd906 ⟨x891, rfl, hf, H⟩ hB904 hO905
     replace hB904 : F_dofferref15_Right_l0 N x2 x5 x891 = some o903 := hB904
     unfold F_dofferref15_Right_l0 at hB904
     refine CW.at hf <| C_seq <| R_nd <| nq (Q_lss rfl rfl) rfl rfl <| WL_nil <| x_then <| C_seq ?_
     refine C_cond rfl (fun hb => ?_) (fun hb => ?_)
     ·replace hB904 := itT hb hB904
      refine C_skip <| x_then <| C_seq <| C_block <| C_seq <| R_nd ?_
      obtain ⟨x907, hx907, hB904⟩ := bnd hB904
      obtain ⟨b908, o909, c910, hc911, ha912, hi913⟩ := idxR r6 hx907
      refine nq (Q_idx hi913 Tryz.underlying23 ty3 rfl rfl) rfl rfl <| nq (v := .int .i64 x907) (Q_ld (show cellsAt _ _ _ [.int .i64 x907] from (show _ = [_] from hc911) ▸ (ha912.up H.ok.view)) ty3 rfl (fun _ => rfl) rfl rfl) rfl rfl <| nq (Q_assign rfl) rfl rfl <| WL_nil <| x_then ?_
      obtain ⟨o915, ho915, hB904⟩ := bnd hB904
      refine C_cut (fun a w' => ∃ (x914 : Bool), x914 = o915 ∧ Fr 99 a [(1, .pointer (some ⟨b837, 0, none⟩)), (3, .int .i64 (x2.length : Int)), (32, v4), (33, .int .i64 (x5.length : Int)), (34, .int .i64 x891), (44, .bool x914)] ∧ Hp C w' ρ (Box b837 [v1, v4] :: hs)) ?_ ?_
      ·refine R_nd <| nq (Q_move rfl) rfl rfl <| nq (Q_lss rfl rfl) rfl rfl <| nq (Q_move rfl) rfl rfl ?_
       rcases Bool.eq_false_or_eq_true (decide (x907 < 0)) with hb | hb
       ·rw [hb]
        replace ho915 := itT hb ho915
        refine gs rfl rfl rfl rfl <| gs rfl rfl rfl rfl <| gs rfl rfl rfl rfl <| nq (Q_pickT rfl rfl) rfl rfl <| WL_nil ?_
        obtain rfl := Option.some.inj ho915
        refine x_A fun a hf => ⟨true, rfl, hf.sub ⟨rfl, rfl, rfl, rfl, rfl, rfl, trivial⟩, H⟩
       ·rw [hb]
        replace ho915 := itF hb ho915
        refine gq (Q_move rfl) rfl rfl rfl <| gq (Q_move rfl) rfl rfl rfl <| gq (Q_geq rfl rfl) rfl rfl rfl <| nq (Q_pickF rfl rfl) rfl rfl <| WL_nil ?_
        obtain rfl := Option.some.inj ho915
        refine x_A fun a hf => ⟨decide (x907 ≥ (x2.length : Int)), rfl, hf.sub ⟨rfl, rfl, rfl, rfl, rfl, rfl, trivial⟩, H⟩
      ·rintro a wd916 ⟨x914, rfl, hf, H⟩
       try dsimp only at hB904
       refine CW.at hf ?_
       refine C_cond rfl (fun hb => ?_) (fun hb => ?_)
       ·replace hB904 := itT hb hB904
        refine C_seq <| R_nd <| nq (Q_assign rfl) rfl rfl <| WL_nil <| x_then <| C_ret <| x_block_ret <| x_then_ret <| x_then_ret <| x_block_ret <| x_then_ret <| x_then_ret ?_
        replace H := H.drop 0 rfl
        dsimp only [List.eraseIdx] at H
        obtain rfl := Option.some.inj hB904
        obtain rfl := hO905 _ rfl
        obtain rfl := Option.some.inj (show some _ = some _ from hF)
        exact fn_ret (l := [.tmp 2]) (vs := [.bool false]) rfl rfl rfl ⟨false, rfl, rfl, H⟩
       ·replace hB904 := itF hb hB904
        refine C_skip <| x_block <| x_then <| R_nd <| nq (Q_add rfl rfl) rfl rfl <| nq (Q_move rfl) rfl rfl <| WL_nil ?_
        obtain rfl := Option.some.inj hB904
        refine x_A fun a hf => ⟨_, rfl, w64 (x891 + 1), rfl, hf.sub ⟨rfl, rfl, rfl, rfl, rfl, trivial⟩, H⟩
     ·replace hB904 := itF hb hB904
      refine C_exit <| x_then_exit <| x_then_exit <| x_block_exit ?_
      obtain rfl := Option.some.inj hB904
      obtain rfl := hO905 _ rfl
      refine x_A fun a hf => ⟨rfl, hf.sub ⟨rfl, rfl, trivial⟩, H⟩
   ·rintro a wd917 ⟨rfl, hf, H⟩
    try dsimp only at hF
    refine XX.at hf <| x_then <| C_seq <| C_seq <| R_nd <| nq (v := .pointer (some ⟨b837, 0, none⟩)) (Q_fld Tryz.underlying29 rfl ty27 (by decide) rfl rfl) rfl rfl <| nq (v := v1) (Q_ldB (k := 0) (cs := [v1]) H.ok rfl ty27 rfl rfl rfl (fun _ => rfl) rfl) rfl rfl <| nq (Q_len Tryz.underlying27 rfl r3) rfl rfl <| nq (Q_move rfl) rfl rfl <| WL_nil <| x_then ?_
    obtain ⟨o1291, ho1291, hF⟩ := bnd hF
    refine C_cutQ (fun a w' => .inl () = o1291 ∧ Fr 99 a [] ∧ Hp C w' ρ (hs)) ?_ ?_
    ·refine C_block ?_
     replace H := H.drop 0 rfl
     dsimp only [List.eraseIdx] at H
     refine C_iter (f := fun s => F_dofferref15_Right_l1 N x2 s) ho1291 (fun s a w' => ∃ (x1415 : Int), x1415 = s ∧ Fr 99 a [(3, .int .i64 (x2.length : Int)), (47, v1), (48, .int .i64 (x2.length : Int)), (49, .int .i64 x1415)] ∧ Hp C w' ρ (hs)) ?_ ?_
     ·exact fun a hf => ⟨0, rfl, hf.sub ⟨rfl, rfl, rfl, rfl, trivial⟩, H⟩
     ·rintro s o1539 a wd1542 ⟨x1415, rfl, hf, H⟩ hB1540 hO1541
      replace hB1540 : F_dofferref15_Right_l1 N x2 x1415 = some o1539 := hB1540
      unfold F_dofferref15_Right_l1 at hB1540
      refine CW.at hf <| C_seq <| R_nd <| nq (Q_lss rfl rfl) rfl rfl <| WL_nil <| x_then <| C_seq ?_
      refine C_cond rfl (fun hb => ?_) (fun hb => ?_)
      ·replace hB1540 := itT hb hB1540
       refine C_skip <| x_then <| C_seq <| C_block <| C_seq <| R_nd ?_
       obtain ⟨x1543, hx1543, hB1540⟩ := bnd hB1540
       obtain ⟨b1544, o1545, c1546, hc1547, ha1548, hi1549⟩ := idxR r3 hx1543
       refine nq (Q_idx hi1549 Tryz.underlying27 ty126 rfl rfl) rfl rfl ?_
       obtain ⟨c1550, c1551, he1552, hc1553, hc1554⟩ := (id hc1547)
       obtain ⟨v1555, he1556, r1557⟩ := hc1553
       obtain ⟨c1558, c1559, he1560, hc1561, hc1562⟩ := hc1554
       obtain ⟨c1563, c1564, he1565, hc1566, hc1567⟩ := hc1561
       obtain ⟨c1568, c1569, he1570, hc1571, hc1572⟩ := hc1567
       obtain ⟨c1573, c1574, he1575, hc1576, hc1577⟩ := hc1572
       obtain ⟨c1578, c1579, he1580, hc1581, hc1582⟩ := hc1562
       refine nq (v := .agg #[v1555, .int .u64 x1543.2.1.1, .int .u64 x1543.2.1.2.1, .int .u64 x1543.2.1.2.2.1, .int .u64 x1543.2.1.2.2.2, .int .i64 x1543.2.2.1, .int .i64 x1543.2.2.2]) (Q_ld (show cellsAt _ _ _ [v1555, .int .u64 x1543.2.1.1, .int .u64 x1543.2.1.2.1, .int .u64 x1543.2.1.2.2.1, .int .u64 x1543.2.1.2.2.2, .int .i64 x1543.2.2.1, .int .i64 x1543.2.2.2] from cellsAt.cg (cat2 he1552 he1556 (cat2 he1560 (cat2 he1565 (rdI hc1566) (cat2 he1570 (rdI hc1571) (cat2 he1575 (rdI hc1576) (rdI hc1577)))) (cat2 he1580 (rdI hc1581) (rdI hc1582)))) (ha1548.up H.ok.view)) ty126 rfl (fun h => nomatch h) rfl rfl) rfl rfl <| ne (E_alloc H ty126 (zs := [.slice none 0 0, .int .u64 0, .int .u64 0, .int .u64 0, .int .u64 0, .int .i64 0, .int .i64 0]) rfl) rfl rfl ?_
       rintro _ wd1584 ⟨b1583, rfl, H⟩
       refine ne (E_stB (k := 0) (cs := [v1555, .int .u64 x1543.2.1.1, .int .u64 x1543.2.1.2.1, .int .u64 x1543.2.1.2.2.1, .int .u64 x1543.2.1.2.2.2, .int .i64 x1543.2.2.1, .int .i64 x1543.2.2.2]) (vs' := [v1555, .int .u64 x1543.2.1.1, .int .u64 x1543.2.1.2.1, .int .u64 x1543.2.1.2.2.1, .int .u64 x1543.2.1.2.2.2, .int .i64 x1543.2.2.1, .int .i64 x1543.2.2.2]) H rfl ty126 rfl rfl rfl rfl (one_cons (RdSl.one r1557) (one_cons rfl (one_cons rfl (one_cons rfl (one_cons rfl (one_cons rfl (one_cons rfl one_nil))))))) (by simp) rfl) rfl rfl ?_
       rintro _ wd1585 H
       dsimp only [List.set] at H
       refine WL_nil <| x_then <| C_seq ?_
       obtain ⟨o1587, ho1587, hB1540⟩ := bnd hB1540
       refine C_cut (fun a w' => ∃ (x1586 : Bool), x1586 = o1587 ∧ Fr 99 a [(3, .int .i64 (x2.length : Int)), (7, .pointer (some ⟨b1583, 0, none⟩)), (47, v1), (48, .int .i64 (x2.length : Int)), (49, .int .i64 x1415), (82, .bool x1586)] ∧ Hp C w' ρ (Box b1583 [v1555, .int .u64 x1543.2.1.1, .int .u64 x1543.2.1.2.1, .int .u64 x1543.2.1.2.2.1, .int .u64 x1543.2.1.2.2.2, .int .i64 x1543.2.2.1, .int .i64 x1543.2.2.2] :: hs)) ?_ ?_
       ·refine R_nd <| nq (v := .pointer (some ⟨b1583, 5, none⟩)) (Q_fld Tryz.underlying126 rfl ty3 (by decide) rfl rfl) rfl rfl <| nq (v := .int .i64 x1543.2.2.1) (Q_ldB (k := 0) (cs := [.int .i64 x1543.2.2.1]) H.ok rfl ty3 rfl rfl rfl (fun _ => rfl) rfl) rfl rfl <| nq (Q_lss rfl rfl) rfl rfl <| nq (Q_move rfl) rfl rfl ?_
        rcases Bool.eq_false_or_eq_true (decide (x1543.2.2.1 < (-1))) with hb | hb
        ·rw [hb]
         replace ho1587 := itT hb ho1587
         refine gs rfl rfl rfl rfl <| gs rfl rfl rfl rfl <| gs rfl rfl rfl rfl <| gs rfl rfl rfl rfl <| nq (Q_pickT rfl rfl) rfl rfl <| nq (Q_move rfl) rfl rfl <| gs rfl rfl rfl rfl <| gs rfl rfl rfl rfl <| gs rfl rfl rfl rfl <| nq (Q_pickT rfl rfl) rfl rfl <| nq (Q_move rfl) rfl rfl <| gs rfl rfl rfl rfl <| gs rfl rfl rfl rfl <| gs rfl rfl rfl rfl ?_
         refine nq (Q_pickT rfl rfl) rfl rfl <| nq (Q_move rfl) rfl rfl <| gs rfl rfl rfl rfl <| gs rfl rfl rfl rfl <| gs rfl rfl rfl rfl <| gs rfl rfl rfl rfl <| gsu rfl ⟨_, _, rfl, rfl, rfl⟩ rfl <| gsu rfl ⟨_, _, rfl, rfl, rfl⟩ rfl <| gsu rfl ⟨_, _, rfl, rfl, rfl⟩ rfl <| gsu rfl ⟨_, _, rfl, rfl, rfl⟩ rfl <| gs rfl rfl rfl rfl <| nq (Q_pickT rfl rfl) rfl rfl <| WL_nil ?_
         obtain rfl := Option.some.inj ho1587
         refine x_A fun a hf => ⟨true, rfl, hf.sub ⟨rfl, rfl, rfl, rfl, rfl, rfl, trivial⟩, H⟩
        ·rw [hb]
         replace ho1587 := itF hb ho1587
         refine gq (v := .pointer (some ⟨b1583, 5, none⟩)) (Q_fld Tryz.underlying126 rfl ty3 (by decide) rfl rfl) rfl rfl rfl <| gq (v := .int .i64 x1543.2.2.1) (Q_ldB (k := 0) (cs := [.int .i64 x1543.2.2.1]) H.ok rfl ty3 rfl rfl rfl (fun _ => rfl) rfl) rfl rfl rfl <| gq (Q_move rfl) rfl rfl rfl <| gq (Q_geq rfl rfl) rfl rfl rfl <| nq (Q_pickF rfl rfl) rfl rfl <| nq (Q_move rfl) rfl rfl ?_
         rcases Bool.eq_false_or_eq_true (decide (x1543.2.2.1 ≥ (x2.length : Int))) with hb | hb
         ·rw [hb]
          replace ho1587 := itT hb ho1587
          refine gs rfl rfl rfl rfl <| gs rfl rfl rfl rfl <| gs rfl rfl rfl rfl <| nq (Q_pickT rfl rfl) rfl rfl <| nq (Q_move rfl) rfl rfl <| gs rfl rfl rfl rfl <| gs rfl rfl rfl rfl <| gs rfl rfl rfl rfl <| nq (Q_pickT rfl rfl) rfl rfl <| nq (Q_move rfl) rfl rfl <| gs rfl rfl rfl rfl <| gs rfl rfl rfl rfl <| gs rfl rfl rfl rfl <| gs rfl rfl rfl rfl ?_
          refine gsu rfl ⟨_, _, rfl, rfl, rfl⟩ rfl <| gsu rfl ⟨_, _, rfl, rfl, rfl⟩ rfl <| gsu rfl ⟨_, _, rfl, rfl, rfl⟩ rfl <| gsu rfl ⟨_, _, rfl, rfl, rfl⟩ rfl <| gs rfl rfl rfl rfl <| nq (Q_pickT rfl rfl) rfl rfl <| WL_nil ?_
          obtain rfl := Option.some.inj ho1587
          refine x_A fun a hf => ⟨true, rfl, hf.sub ⟨rfl, rfl, rfl, rfl, rfl, rfl, trivial⟩, H⟩
         ·rw [hb]
          replace ho1587 := itF hb ho1587
          refine gq (v := .pointer (some ⟨b1583, 6, none⟩)) (Q_fld Tryz.underlying126 rfl ty3 (by decide) rfl rfl) rfl rfl rfl <| gq (v := .int .i64 x1543.2.2.2) (Q_ldB (k := 0) (cs := [.int .i64 x1543.2.2.2]) H.ok rfl ty3 rfl rfl rfl (fun _ => rfl) rfl) rfl rfl rfl <| gq (Q_lss rfl rfl) rfl rfl rfl <| nq (Q_pickF rfl rfl) rfl rfl <| nq (Q_move rfl) rfl rfl ?_
          rcases Bool.eq_false_or_eq_true (decide (x1543.2.2.2 < (-1))) with hb | hb
          ·rw [hb]
           replace ho1587 := itT hb ho1587
           refine gs rfl rfl rfl rfl <| gs rfl rfl rfl rfl <| gs rfl rfl rfl rfl <| nq (Q_pickT rfl rfl) rfl rfl <| nq (Q_move rfl) rfl rfl <| gs rfl rfl rfl rfl <| gs rfl rfl rfl rfl <| gs rfl rfl rfl rfl <| gs rfl rfl rfl rfl <| gsu rfl ⟨_, _, rfl, rfl, rfl⟩ rfl <| gsu rfl ⟨_, _, rfl, rfl, rfl⟩ rfl <| gsu rfl ⟨_, _, rfl, rfl, rfl⟩ rfl <| gsu rfl ⟨_, _, rfl, rfl, rfl⟩ rfl <| gs rfl rfl rfl rfl ?_
           refine nq (Q_pickT rfl rfl) rfl rfl <| WL_nil ?_
           obtain rfl := Option.some.inj ho1587
           refine x_A fun a hf => ⟨true, rfl, hf.sub ⟨rfl, rfl, rfl, rfl, rfl, rfl, trivial⟩, H⟩
          ·rw [hb]
           replace ho1587 := itF hb ho1587
           refine gq (v := .pointer (some ⟨b1583, 6, none⟩)) (Q_fld Tryz.underlying126 rfl ty3 (by decide) rfl rfl) rfl rfl rfl <| gq (v := .int .i64 x1543.2.2.2) (Q_ldB (k := 0) (cs := [.int .i64 x1543.2.2.2]) H.ok rfl ty3 rfl rfl rfl (fun _ => rfl) rfl) rfl rfl rfl <| gq (Q_gtr rfl rfl) rfl rfl rfl <| nq (Q_pickF rfl rfl) rfl rfl <| nq (Q_move rfl) rfl rfl ?_
           rcases Bool.eq_false_or_eq_true (decide (x1543.2.2.2 > 47)) with hb | hb
           ·rw [hb]
            replace ho1587 := itT hb ho1587
            refine gs rfl rfl rfl rfl <| gs rfl rfl rfl rfl <| gs rfl rfl rfl rfl <| gs rfl rfl rfl rfl <| gsu rfl ⟨_, _, rfl, rfl, rfl⟩ rfl <| gsu rfl ⟨_, _, rfl, rfl, rfl⟩ rfl <| gsu rfl ⟨_, _, rfl, rfl, rfl⟩ rfl <| gsu rfl ⟨_, _, rfl, rfl, rfl⟩ rfl <| gs rfl rfl rfl rfl <| nq (Q_pickT rfl rfl) rfl rfl <| WL_nil ?_
            obtain rfl := Option.some.inj ho1587
            refine x_A fun a hf => ⟨true, rfl, hf.sub ⟨rfl, rfl, rfl, rfl, rfl, rfl, trivial⟩, H⟩
           ·rw [hb]
            replace ho1587 := itF hb ho1587
            refine gq (v := .pointer (some ⟨b1583, 5, none⟩)) (Q_fld Tryz.underlying126 rfl ty3 (by decide) rfl rfl) rfl rfl rfl <| gq (v := .int .i64 x1543.2.2.1) (Q_ldB (k := 0) (cs := [.int .i64 x1543.2.2.1]) H.ok rfl ty3 rfl rfl rfl (fun _ => rfl) rfl) rfl rfl rfl <| gq (Q_eql rfl rfl) rfl rfl rfl <| gq (Q_move rfl) rfl rfl rfl ?_
            rcases Bool.eq_false_or_eq_true (x1543.2.2.1 == (-1)) with hb | hb
            ·rw [hb]
             replace ho1587 := itT hb ho1587
             refine gq (v := .pointer (some ⟨b1583, 1, none⟩)) (Q_fld Tryz.underlying126 rfl ty38 (by decide) rfl rfl) rfl rfl rfl <| gq (v := .agg #[.int .u64 x1543.2.1.1, .int .u64 x1543.2.1.2.1, .int .u64 x1543.2.1.2.2.1, .int .u64 x1543.2.1.2.2.2]) (Q_ldB (k := 0) (cs := [.int .u64 x1543.2.1.1, .int .u64 x1543.2.1.2.1, .int .u64 x1543.2.1.2.2.1, .int .u64 x1543.2.1.2.2.2]) H.ok rfl ty38 rfl rfl rfl (fun h => nomatch h) rfl) rfl rfl rfl <| gq (v := .agg #[.int .u64 0, .int .u64 0, .int .u64 0, .int .u64 0]) (Q_build0 (zs := [.int .u64 0, .int .u64 0, .int .u64 0, .int .u64 0]) ty38 Tryz.underlying38 ty37 rfl) rfl rfl rfl <| gq (v := .bool (([x1543.2.1.1, x1543.2.1.2.1, x1543.2.1.2.2.1, x1543.2.1.2.2.2] : List Int) != ([0, 0, 0, 0] : List Int))) (Q_neqA (xs := ([x1543.2.1.1, x1543.2.1.2.1, x1543.2.1.2.2.1, x1543.2.1.2.2.2] : List Int)) (ys := ([0, 0, 0, 0] : List Int)) Tryz.underlying38 ty37 (by kernel_rfl) Tryz.underlying37 (rdL_ints .u64 ρ ([x1543.2.1.1, x1543.2.1.2.1, x1543.2.1.2.2.1, x1543.2.1.2.2.2] : List Int)) rfl (rdL_ints .u64 ρ ([0, 0, 0, 0] : List Int)) rfl rfl rfl) rfl rfl rfl <| gq (Q_pickT rfl rfl) rfl rfl rfl <| nq (Q_pickF rfl rfl) rfl rfl <| WL_nil ?_
             obtain rfl := Option.some.inj ho1587
             refine x_A fun a hf => ⟨([x1543.2.1.1, x1543.2.1.2.1, x1543.2.1.2.2.1, x1543.2.1.2.2.2] : List Int) != ([0, 0, 0, 0] : List Int), rfl, hf.sub ⟨rfl, rfl, rfl, rfl, rfl, rfl, trivial⟩, H⟩
            ·rw [hb]
             replace ho1587 := itF hb ho1587
             refine gs rfl rfl rfl rfl <| gs rfl rfl rfl rfl <| gs rfl rfl rfl rfl <| gs rfl rfl rfl rfl <| gq (Q_pickF rfl rfl) rfl rfl rfl <| nq (Q_pickF rfl rfl) rfl rfl <| WL_nil ?_
             obtain rfl := Option.some.inj ho1587
             refine x_A fun a hf => ⟨false, rfl, hf.sub ⟨rfl, rfl, rfl, rfl, rfl, rfl, trivial⟩, H⟩
       ·rintro a wd1588 ⟨x1586, rfl, hf, H⟩
        try dsimp only at hB1540
        refine CW.at hf ?_
        refine C_cond rfl (fun hb => ?_) (fun hb => ?_)
        ·replace hB1540 := itT hb hB1540
         refine C_seq <| R_nd <| nq (Q_assign rfl) rfl rfl <| WL_nil <| x_then <| C_ret <| x_then_ret <| x_block_ret <| x_then_ret <| x_then_ret <| x_block_ret <| x_then_ret <| x_then_ret ?_
         replace H := H.drop 0 rfl
         dsimp only [List.eraseIdx] at H
         obtain rfl := Option.some.inj hB1540
         obtain rfl := hO1541 _ rfl
         obtain rfl := Option.some.inj (show some _ = some _ from hF)
         exact fn_ret (l := [.tmp 2]) (vs := [.bool false]) rfl rfl rfl ⟨false, rfl, rfl, H⟩
        ·replace hB1540 := itF hb hB1540
         refine C_skip <| x_then <| C_seq <| R_nd <| nq (v := .pointer (some ⟨b1583, 0, none⟩)) (Q_fld Tryz.underlying126 rfl ty23 (by decide) rfl rfl) rfl rfl <| nq (v := v1555) (Q_ldB (k := 0) (cs := [v1555]) H.ok rfl ty23 rfl rfl rfl (fun _ => rfl) rfl) rfl rfl <| nq (Q_len Tryz.underlying23 rfl r1557) rfl rfl <| nq (Q_move rfl) rfl rfl <| WL_nil <| x_then ?_
         obtain ⟨o1626, ho1626, hB1540⟩ := bnd hB1540
         refine C_cutQ (fun a w' => .inl () = o1626 ∧ Fr 99 a [(3, .int .i64 (x2.length : Int)), (47, v1), (48, .int .i64 (x2.length : Int)), (49, .int .i64 x1415)] ∧ Hp C w' ρ (hs)) ?_ ?_
         ·refine C_block ?_
          replace H := H.drop 0 rfl
          dsimp only [List.eraseIdx] at H
          refine C_iter (f := fun s => F_dofferref15_Right_l2 N x2 x1543 s) ho1626 (fun s a w' => ∃ (x1638 : Int), x1638 = s ∧ Fr 99 a [(3, .int .i64 (x2.length : Int)), (47, v1), (48, .int .i64 (x2.length : Int)), (49, .int .i64 x1415), (84, v1555), (85, .int .i64 (x1543.1.length : Int)), (86, .int .i64 x1638)] ∧ Hp C w' ρ (hs)) ?_ ?_
          ·exact fun a hf => ⟨0, rfl, hf.sub ⟨rfl, rfl, rfl, rfl, rfl, rfl, rfl, trivial⟩, H⟩
          ·rintro s o1650 a wd1653 ⟨x1638, rfl, hf, H⟩ hB1651 hO1652
           replace hB1651 : F_dofferref15_Right_l2 N x2 x1543 x1638 = some o1650 := hB1651
           unfold F_dofferref15_Right_l2 at hB1651
           refine CW.at hf <| C_seq <| R_nd <| nq (Q_lss rfl rfl) rfl rfl <| WL_nil <| x_then <| C_seq ?_
           refine C_cond rfl (fun hb => ?_) (fun hb => ?_)
           ·replace hB1651 := itT hb hB1651
            refine C_skip <| x_then <| C_seq <| C_block <| C_seq <| R_nd ?_
            obtain ⟨x1654, hx1654, hB1651⟩ := bnd hB1651
            obtain ⟨b1655, o1656, c1657, hc1658, ha1659, hi1660⟩ := idxR r1557 hx1654
            refine nq (Q_idx hi1660 Tryz.underlying23 ty3 rfl rfl) rfl rfl <| nq (v := .int .i64 x1654) (Q_ld (show cellsAt _ _ _ [.int .i64 x1654] from (show _ = [_] from hc1658) ▸ (ha1659.up H.ok.view)) ty3 rfl (fun _ => rfl) rfl rfl) rfl rfl <| nq (Q_assign rfl) rfl rfl <| WL_nil <| x_then ?_
            obtain ⟨o1662, ho1662, hB1651⟩ := bnd hB1651
            refine C_cut (fun a w' => ∃ (x1661 : Bool), x1661 = o1662 ∧ Fr 99 a [(3, .int .i64 (x2.length : Int)), (47, v1), (48, .int .i64 (x2.length : Int)), (49, .int .i64 x1415), (84, v1555), (85, .int .i64 (x1543.1.length : Int)), (86, .int .i64 x1638), (96, .bool x1661)] ∧ Hp C w' ρ (hs)) ?_ ?_
            ·refine R_nd <| nq (Q_move rfl) rfl rfl <| nq (Q_lss rfl rfl) rfl rfl <| nq (Q_move rfl) rfl rfl ?_
             rcases Bool.eq_false_or_eq_true (decide (x1654 < 0)) with hb | hb
             ·rw [hb]
              replace ho1662 := itT hb ho1662
              refine gs rfl rfl rfl rfl <| gs rfl rfl rfl rfl <| gs rfl rfl rfl rfl <| nq (Q_pickT rfl rfl) rfl rfl <| WL_nil ?_
              obtain rfl := Option.some.inj ho1662
              refine x_A fun a hf => ⟨true, rfl, hf.sub ⟨rfl, rfl, rfl, rfl, rfl, rfl, rfl, rfl, trivial⟩, H⟩
             ·rw [hb]
              replace ho1662 := itF hb ho1662
              refine gq (Q_move rfl) rfl rfl rfl <| gq (Q_move rfl) rfl rfl rfl <| gq (Q_geq rfl rfl) rfl rfl rfl <| nq (Q_pickF rfl rfl) rfl rfl <| WL_nil ?_
              obtain rfl := Option.some.inj ho1662
              refine x_A fun a hf => ⟨decide (x1654 ≥ (x2.length : Int)), rfl, hf.sub ⟨rfl, rfl, rfl, rfl, rfl, rfl, rfl, rfl, trivial⟩, H⟩
            ·rintro a wd1663 ⟨x1661, rfl, hf, H⟩
             try dsimp only at hB1651
             refine CW.at hf ?_
             refine C_cond rfl (fun hb => ?_) (fun hb => ?_)
             ·replace hB1651 := itT hb hB1651
              refine C_seq <| R_nd <| nq (Q_assign rfl) rfl rfl <| WL_nil <| x_then <| C_ret <| x_block_ret <| x_then_ret <| x_then_ret <| x_block_ret <| x_then_ret <| x_block_ret <| x_then_ret <| x_then_ret ?_
              refine x_block_ret <| x_then_ret <| x_then_ret ?_
              obtain rfl := Option.some.inj hB1651
              obtain rfl := hO1652 _ rfl
              obtain rfl := Option.some.inj (show some _ = some _ from hB1540)
              obtain rfl := hO1541 _ rfl
              obtain rfl := Option.some.inj (show some _ = some _ from hF)
              exact fn_ret (l := [.tmp 2]) (vs := [.bool false]) rfl rfl rfl ⟨false, rfl, rfl, H⟩
             ·replace hB1651 := itF hb hB1651
              refine C_skip <| x_block <| x_then <| R_nd <| nq (Q_add rfl rfl) rfl rfl <| nq (Q_move rfl) rfl rfl <| WL_nil ?_
              obtain rfl := Option.some.inj hB1651
              refine x_A fun a hf => ⟨_, rfl, w64 (x1638 + 1), rfl, hf.sub ⟨rfl, rfl, rfl, rfl, rfl, rfl, rfl, trivial⟩, H⟩
           ·replace hB1651 := itF hb hB1651
            refine C_exit <| x_then_exit <| x_then_exit <| x_block_exit ?_
            obtain rfl := Option.some.inj hB1651
            obtain rfl := hO1652 _ rfl
            refine x_A fun a hf => ⟨rfl, hf.sub ⟨rfl, rfl, rfl, rfl, trivial⟩, H⟩
         ·rintro a wd1664 ⟨rfl, hf, H⟩
          try dsimp only at hB1540
          refine XX.at hf <| x_block <| x_then <| R_nd <| nq (Q_add rfl rfl) rfl rfl <| nq (Q_move rfl) rfl rfl <| WL_nil ?_
          obtain rfl := Option.some.inj hB1540
          refine x_A fun a hf => ⟨_, rfl, w64 (x1415 + 1), rfl, hf.sub ⟨rfl, rfl, rfl, rfl, trivial⟩, H⟩
      ·replace hB1540 := itF hb hB1540
       refine C_exit <| x_then_exit <| x_then_exit <| x_block_exit ?_
       obtain rfl := Option.some.inj hB1540
       obtain rfl := hO1541 _ rfl
       refine x_A fun a hf => ⟨rfl, hf.sub trivial, H⟩
    ·rintro a wd1665 ⟨rfl, hf, H⟩
     try dsimp only at hF
     refine XX.at hf <| x_then <| C_seq <| R_nd <| nq (Q_assign rfl) rfl rfl <| WL_nil <| x_then <| C_ret ?_
     obtain rfl := Option.some.inj hF
     exact fn_ret (l := [.tmp 2]) (vs := [.bool true]) rfl rfl rfl ⟨true, rfl, rfl, H⟩
theorem c_28 {N : Nat} {C : Cx} {w : World} {ρ : View} {hs : List Hl} {gV : Nat → Value} {x1 : Int} (H : Hp C w ρ (hs)) (gle : GErrs ρ 394 errIds gV) {r : (Unit ⊕ (List Int))} (hF : F_marks_New N x1 = some r) :
  Calls Tryz.prog 28 [.int .i64 x1].toArray w (Rets (fun v w' => (.inl () = r ∧ .tuple [.pointer none, errV errIds gV 1].toArray = v ∧ Hp C w' ρ (hs)) ∨ (∃ (b11 : Nat) (v12 : Value) (c13 : (List Value)) (x14 : (List Int)), .inr x14 = r ∧ .tuple [.pointer (some ⟨b11, 0, none⟩), errV errIds gV 0].toArray = v ∧ rdL (eI .u64) ρ x14 c13 ∧ Hp C w' ρ (Box b11 [v12, .int .i64 x1] :: Arr v12 1 c13 :: hs)))) := by
 unfold F_marks_New at hF
 have h0 : Tryz.f28.body = some _ := rfl
 refine fn_calls' Tryz.func28 h0 (n := 19) rfl (by simp) <| C_seq <| R_nd <| nq (Q_assign rfl) rfl rfl <| nq (Q_assign rfl) rfl rfl <| WL_nil <| x_then <| C_seq ?_
 obtain ⟨o17, ho17, hF⟩ := bnd hF
 refine C_cut (fun a w' => ∃ (x16 : Bool), x16 = o17 ∧ Fr 19 a [(0, .int .i64 x1), (9, .bool x16)] ∧ Hp C w' ρ (hs)) ?_ ?_
 ·refine R_nd <| nq (Q_move rfl) rfl rfl <| nq (Q_lss rfl rfl) rfl rfl <| nq (Q_move rfl) rfl rfl ?_
  rcases Bool.eq_false_or_eq_true (decide (x1 < 0)) with hb | hb
  ·rw [hb]
   replace ho17 := itT hb ho17
   refine gs rfl rfl rfl rfl <| gs rfl rfl rfl rfl <| nq (Q_pickT rfl rfl) rfl rfl <| WL_nil ?_
   obtain rfl := Option.some.inj ho17
   refine x_A fun a hf => ⟨true, rfl, hf.sub ⟨rfl, rfl, trivial⟩, H⟩
  ·rw [hb]
   replace ho17 := itF hb ho17
   refine gq (Q_move rfl) rfl rfl rfl <| gq (Q_gtr rfl rfl) rfl rfl rfl <| nq (Q_pickF rfl rfl) rfl rfl <| WL_nil ?_
   obtain rfl := Option.some.inj ho17
   refine x_A fun a hf => ⟨decide (x1 > 65536), rfl, hf.sub ⟨rfl, rfl, trivial⟩, H⟩
 ·rintro a wd18 ⟨x16, rfl, hf, H⟩
  try dsimp only at hF
  refine CW.at hf ?_
  refine C_cond rfl (fun hb => ?_) (fun hb => ?_)
  ·replace hF := itT hb hF
   refine C_seq <| R_dr (.take 0 (.take 1 (.take 2 .done))) (fun w' => Ok w' ρ []) (by kernel_rfl) (by kernel_rfl) (by kernel_rfl) (H.drew.okS (by simp)) ?_
   replace H := H.drew
   refine dq (v := errV errIds gV 1) rfl (fun _ hw => Q_ldV hw gle (by decide) ty53) rfl rfl <| dq rfl (fun _ _ => Q_assign rfl) rfl rfl <| dq rfl (fun _ _ => Q_assign rfl) rfl rfl <| DL_nil <| x_then <| C_ret <| x_then_ret ?_
   obtain rfl := Option.some.inj hF
   exact fn_ret (l := [.tmp 2, .tmp 3]) (vs := [.pointer none, errV errIds gV 1]) rfl rfl rfl (.inl ⟨rfl, rfl, H⟩)
  ·replace hF := itF hb hF
   refine C_skip <| x_then <| C_seq <| R_nd <| nq (Q_move rfl) rfl rfl <| nq (Q_add rfl rfl) rfl rfl <| nq (Q_sub rfl rfl) rfl rfl <| nq (Q_quo rfl rfl (by decide)) rfl rfl ?_
   obtain ⟨x19, hx19, hF⟩ := bnd hF
   obtain ⟨hm21a, hm21b, hm21c⟩ := mk_some hx19
   refine ne (E_make H Tryz.underlying137 ty37 (zs := [.int .u64 0]) rfl rfl (by decide) (by decide) rfl hm21a hm21b) rfl rfl ?_
   rintro _ wd22 ⟨b20, rfl, H⟩
   refine nq (Q_move rfl) rfl rfl <| nq (v := .agg #[(.slice (some ⟨b20, 0, none⟩) (w64 ((w64 ((w64 (x1 + 64)) - 1)).tdiv 64)).toNat (w64 ((w64 ((w64 (x1 + 64)) - 1)).tdiv 64)).toNat), .int .i64 x1]) (Q_buildS st139.choose_spec (ps := [(0, [(.slice (some ⟨b20, 0, none⟩) (w64 ((w64 ((w64 (x1 + 64)) - 1)).tdiv 64)).toNat (w64 ((w64 ((w64 (x1 + 64)) - 1)).tdiv 64)).toNat)]), (1, [.int .i64 x1])]) rfl ⟨rfl, (arr_cells (H.ok.get (k := 0) rfl)).1, by simp, ⟨rfl, rfl, by simp, trivial⟩⟩ rfl) rfl rfl <| ne (E_box H (vs := [(.slice (some ⟨b20, 0, none⟩) (w64 ((w64 ((w64 (x1 + 64)) - 1)).tdiv 64)).toNat (w64 ((w64 ((w64 (x1 + 64)) - 1)).tdiv 64)).toNat), .int .i64 x1]) rfl rfl) rfl rfl ?_
   rintro _ wd24 ⟨b23, rfl, H⟩
   refine nq (Q_assign rfl) rfl rfl <| nq (Q_assign rfl) rfl rfl <| WL_nil <| x_then <| C_ret ?_
   replace H := H.f1
   replace H := H.f1
   obtain rfl := Option.some.inj hF
   exact fn_ret (l := [.tmp 2, .tmp 3]) (vs := [.pointer (some ⟨b23, 0, none⟩), errV errIds gV 0]) rfl rfl rfl (.inr ⟨b23, (.slice (some ⟨b20, 0, none⟩) (w64 ((w64 ((w64 (x1 + 64)) - 1)).tdiv 64)).toNat (w64 ((w64 ((w64 (x1 + 64)) - 1)).tdiv 64)).toNat), (repC (w64 ((w64 ((w64 (x1 + 64)) - 1)).tdiv 64)).toNat [.int .u64 0]), x19, rfl, rfl, (hm21c ▸ rdL_rep (e := (eI .u64)) (ρ := ρ) (rfl) _), H⟩)
theorem c_87 {N : Nat} {C : Cx} {w : World} {ρ : View} {hs : List Hl} {gV : Nat → Value} {b1 : Nat} {c2 : List Value} {v5 : Value} {x3 : (List Int)} {x6 : Int} (H : Hp C w ρ (Box b1 [v5, .int .i64 x6] :: Arr v5 1 c2 :: hs)) (_gle : GErrs ρ 394 errIds gV) (_r4 : rdL (eI .u64) ρ x3 c2) {r : Unit} (hF : F_marks_Marks_Size N x3 x6 = some r) :
  Calls Tryz.prog 87 [.pointer (some ⟨b1, 0, none⟩)].toArray w (Rets (fun v w' => (() = r ∧ .int .i64 x6 = v ∧ Hp C w' ρ (Box b1 [v5, .int .i64 x6] :: Arr v5 1 c2 :: hs)))) := by
 unfold F_marks_Marks_Size at hF
 have h0 : Tryz.f87.body = some _ := rfl
 refine fn_calls' Tryz.func87 h0 (n := 9) rfl (by simp) <| C_seq <| R_nd <| nq (Q_assign rfl) rfl rfl <| WL_nil <| x_then <| C_seq <| C_seq <| R_nd <| nq (Q_move rfl) rfl rfl <| nq (v := .bool false) (Q_eqlP (o := (some ⟨b1, 0, none⟩)) Tryz.underlying51 rfl) rfl rfl <| WL_nil <| x_then ?_
 refine C_cond rfl (fun h => nomatch h) (fun _ => ?_)
 refine C_skip <| x_then <| C_seq <| R_nd <| nq (Q_move rfl) rfl rfl <| nq (Q_nilP rfl) rfl rfl <| nq (v := .pointer (some ⟨b1, 1, none⟩)) (Q_fld Tryz.underlying139 rfl ty3 (by decide) rfl rfl) rfl rfl <| nq (v := .int .i64 x6) (Q_ldB (k := 0) (cs := [.int .i64 x6]) H.ok rfl ty3 rfl rfl rfl (fun _ => rfl) rfl) rfl rfl <| nq (Q_assign rfl) rfl rfl <| WL_nil <| x_then <| C_ret ?_
 replace H := H.f1
 replace H := H.f1
 obtain rfl := Option.some.inj hF
 exact fn_ret (l := [.tmp 2]) (vs := [.int .i64 x6]) rfl rfl rfl ⟨rfl, rfl, H⟩
theorem c_81 {N : Nat} {C : Cx} {w : World} {ρ : View} {hs : List Hl} {gV : Nat → Value} {b1 : Nat} {c2 : List Value} {v5 : Value} {x3 : (List Int)} {x6 : Int} {x7 : Int} (H : Hp C w ρ (Box b1 [v5, .int .i64 x6] :: Arr v5 1 c2 :: hs)) (gle : GErrs ρ 394 errIds gV) (r4 : rdL (eI .u64) ρ x3 c2) {r : (Int × Int × Bool)} (hF : F_marks_Marks_at N x3 x6 x7 = some r) :
  Calls Tryz.prog 81 [.pointer (some ⟨b1, 0, none⟩), .int .i64 x7].toArray w (Rets (fun v w' => (∃ (x21 : Int) (x22 : Int) (x23 : Bool), (x21, x22, x23) = r ∧ .tuple [.int .i64 x21, .int .u64 x22, .bool x23].toArray = v ∧ Hp C w' ρ (Box b1 [v5, .int .i64 x6] :: Arr v5 1 c2 :: hs)))) := by
 unfold F_marks_Marks_at at hF
 have h0 : Tryz.f81.body = some _ := rfl
 refine fn_calls' Tryz.func81 h0 (n := 21) rfl (by simp) <| C_seq <| R_nd <| nq (Q_assign rfl) rfl rfl <| nq (Q_assign rfl) rfl rfl <| nq (Q_assign rfl) rfl rfl <| WL_nil <| x_then ?_
 obtain ⟨o31, ho31, hF⟩ := bnd hF
 refine C_cut (fun a w' => ∃ (x28 : Int) (x29 : Int) (x30 : Bool), (x28, x29, x30) = o31 ∧ Fr 21 a [(4, .int .i64 x28), (5, .int .u64 x29), (6, .bool x30)] ∧ Hp C w' ρ (Box b1 [v5, .int .i64 x6] :: Arr v5 1 c2 :: hs)) ?_ ?_
 ·refine R_nd <| nq (Q_move rfl) rfl rfl <| nq (Q_quo rfl rfl (by decide)) rfl rfl <| nq (Q_move rfl) rfl rfl <| nq (Q_cvI ⟨_, Tryz.underlying3⟩ Tryz.underlying143 rfl) rfl rfl <| nq (Q_rem rfl rfl (by decide)) rfl rfl ?_
  obtain ⟨x32, hx32, ho31⟩ := bnd ho31
  refine nq (Q_shl rfl rfl (nn_some hx32)) rfl rfl <| nq (Q_move rfl) rfl rfl <| nq (Q_geq rfl rfl) rfl rfl <| nq (Q_move rfl) rfl rfl ?_
  rcases Bool.eq_false_or_eq_true (decide (x7 ≥ 0)) with hb | hb
  ·rw [hb]
   replace ho31 := itT hb ho31
   refine gq (Q_move rfl) rfl rfl rfl <| gq (Q_move rfl) rfl rfl rfl ?_
   replace H := H.f1
   replace H := H.f1
   obtain ⟨q33, hq33, ho31⟩ := bnd ho31
   refine ge (E_call fn87 rfl (c_87 H gle  r4 hq33)) rfl rfl rfl ?_
   rintro _ wd35 ⟨rfl, rfl, H⟩
   try dsimp only at ho31
   refine gq (Q_lss rfl rfl) rfl rfl rfl <| nq (Q_pickT rfl rfl) rfl rfl <| nq (Q_assign rfl) rfl rfl <| nq (Q_assign rfl) rfl rfl <| nq (Q_assign rfl) rfl rfl <| WL_nil ?_
   replace H := H.f1
   replace H := H.f1
   obtain rfl := Option.some.inj ho31
   refine x_A fun a hf => ⟨w64 (x7.tdiv 64), shlI .u64 1 ((IntKind.wrap .u64 x7).tmod 64), decide (x7 < x6), rfl, hf.sub ⟨rfl, rfl, rfl, trivial⟩, H⟩
  ·rw [hb]
   replace ho31 := itF hb ho31
   refine gs rfl rfl rfl rfl <| gs rfl rfl rfl rfl <| gs rfl rfl rfl rfl <| gs rfl rfl rfl rfl <| nq (Q_pickF rfl rfl) rfl rfl <| nq (Q_assign rfl) rfl rfl <| nq (Q_assign rfl) rfl rfl <| nq (Q_assign rfl) rfl rfl <| WL_nil ?_
   replace H := H.f1
   replace H := H.f1
   obtain rfl := Option.some.inj ho31
   refine x_A fun a hf => ⟨w64 (x7.tdiv 64), shlI .u64 1 ((IntKind.wrap .u64 x7).tmod 64), false, rfl, hf.sub ⟨rfl, rfl, rfl, trivial⟩, H⟩
 ·rintro a wd36 ⟨x28, x29, x30, rfl, hf, H⟩
  try dsimp only at hF
  refine CW.at hf <| C_ret ?_
  replace H := H.f1
  replace H := H.f1
  obtain rfl := Option.some.inj hF
  exact fn_ret (l := [.tmp 4, .tmp 5, .tmp 6]) (vs := [.int .i64 x28, .int .u64 x29, .bool x30]) rfl rfl rfl ⟨x28, x29, x30, rfl, rfl, H⟩
theorem c_29 {N : Nat} {C : Cx} {w : World} {ρ : View} {hs : List Hl} {gV : Nat → Value} {b1 : Nat} {c2 : List Value} {v5 : Value} {x3 : (List Int)} {x6 : Int} {x7 : Int} (H : Hp C w ρ (Box b1 [v5, .int .i64 x6] :: Arr v5 1 c2 :: hs)) (gle : GErrs ρ 394 errIds gV) (r4 : rdL (eI .u64) ρ x3 c2) {r : ((List Int) × Bool)} (hF : F_marks_Marks_Put N x3 x6 x7 = some r) :
  Calls Tryz.prog 29 [.pointer (some ⟨b1, 0, none⟩), .int .i64 x7].toArray w (Rets (fun v w' => (∃ (c49 : (List Value)) (x50 : (List Int)) (x52 : Bool), (x50, x52) = r ∧ .bool x52 = v ∧ rdL (eI .u64) ρ x50 c49 ∧ Hp C w' ρ (Box b1 [v5, .int .i64 x6] :: Arr v5 1 c49 :: hs)))) := by
 unfold F_marks_Marks_Put at hF
 have h0 : Tryz.f29.body = some _ := rfl
 refine fn_calls' Tryz.func29 h0 (n := 39) rfl (by simp) <| C_seq <| R_nd <| nq (Q_assign rfl) rfl rfl <| WL_nil <| x_then <| C_seq <| R_nd <| nq (Q_move rfl) rfl rfl <| nq (Q_move rfl) rfl rfl ?_
 replace H := H.f1
 replace H := H.f1
 obtain ⟨q53, hq53, hF⟩ := bnd hF
 refine ne (E_call fn81 rfl (c_81 H gle  r4 hq53)) rfl rfl ?_
 rintro _ wd58 ⟨x55, x56, x57, rfl, rfl, H⟩
 try dsimp only at hF
 refine nq (Q_move rfl) rfl rfl <| nq (Q_extract rfl rfl) rfl rfl <| nq (Q_extract rfl rfl) rfl rfl <| nq (Q_extract rfl rfl) rfl rfl <| nq (Q_assign rfl) rfl rfl <| nq (Q_assign rfl) rfl rfl <| nq (Q_assign rfl) rfl rfl <| WL_nil <| x_then <| C_seq ?_
 obtain ⟨o67, ho67, hF⟩ := bnd hF
 refine C_cut (fun a w' => ∃ (x66 : Bool), x66 = o67 ∧ Fr 39 a [(0, .pointer (some ⟨b1, 0, none⟩)), (5, .int .i64 x55), (6, .int .u64 x56), (28, .bool x66)] ∧ Hp C w' ρ (Box b1 [v5, .int .i64 x6] :: Arr v5 1 c2 :: hs)) ?_ ?_
 ·refine R_nd <| nq (Q_move rfl) rfl rfl <| nq (Q_not rfl) rfl rfl <| nq (Q_move rfl) rfl rfl ?_
  rcases Bool.eq_false_or_eq_true (!x57) with hb | hb
  ·rw [hb]
   replace ho67 := itT hb ho67
   refine gs rfl rfl rfl rfl <| gs rfl rfl rfl rfl <| gs rfl rfl rfl rfl <| gs rfl rfl rfl rfl <| gs rfl rfl rfl rfl <| gs rfl rfl rfl rfl <| gs rfl rfl rfl rfl <| gs rfl rfl rfl rfl <| gs rfl rfl rfl rfl <| gs rfl rfl rfl rfl <| nq (Q_pickT rfl rfl) rfl rfl <| WL_nil ?_
   replace H := H.f1
   replace H := H.f1
   obtain rfl := Option.some.inj ho67
   refine x_A fun a hf => ⟨true, rfl, hf.sub ⟨rfl, rfl, rfl, rfl, trivial⟩, H⟩
  ·rw [hb]
   replace ho67 := itF hb ho67
   refine gq (Q_move rfl) rfl rfl rfl <| gq (Q_nilP rfl) rfl rfl rfl <| gq (v := .pointer (some ⟨b1, 0, none⟩)) (Q_fld Tryz.underlying139 rfl ty137 (by decide) rfl rfl) rfl rfl rfl <| gq (v := v5) (Q_ldB (k := 0) (cs := [v5]) H.ok rfl ty137 rfl rfl rfl (fun _ => rfl) rfl) rfl rfl rfl <| gq (Q_move rfl) rfl rfl rfl ?_
   obtain ⟨x68, hx68, ho67⟩ := bnd ho67
   obtain ⟨b69, o70, hi74, hc72, ha73⟩ := arr_at (hs := [Arr v5 1 c2]) (k := 0) (by decide) (H.okS (by simp)) rfl r4 hx68
   refine gq (Q_idx hi74 Tryz.underlying137 ty37 rfl rfl) rfl rfl rfl <| gq (v := .int .u64 x68) (Q_ld (show cellsAt _ _ _ [.int .u64 x68] from (show _ = [_] from hc72) ▸ (ha73 _ (Ok.subS (by simp) H.ok))) ty37 rfl (fun _ => rfl) rfl rfl) rfl rfl rfl <| gq (Q_move rfl) rfl rfl rfl <| gq (Q_and rfl rfl) rfl rfl rfl <| gq (Q_neq rfl rfl) rfl rfl rfl <| nq (Q_pickF rfl rfl) rfl rfl <| WL_nil ?_
   replace H := H.f1
   replace H := H.f1
   obtain rfl := Option.some.inj ho67
   refine x_A fun a hf => ⟨(iand .u64 x68 x56) != 0, rfl, hf.sub ⟨rfl, rfl, rfl, rfl, trivial⟩, H⟩
 ·rintro a wd75 ⟨x66, rfl, hf, H⟩
  try dsimp only at hF
  refine CW.at hf ?_
  refine C_cond rfl (fun hb => ?_) (fun hb => ?_)
  ·replace hF := itT hb hF
   refine C_seq <| R_nd <| nq (Q_assign rfl) rfl rfl <| WL_nil <| x_then <| C_ret <| x_then_ret ?_
   replace H := H.f1
   replace H := H.f1
   obtain rfl := Option.some.inj hF
   exact fn_ret (l := [.tmp 4]) (vs := [.bool false]) rfl rfl rfl ⟨c2, x3, false, rfl, rfl, r4, H⟩
  ·replace hF := itF hb hF
   refine C_skip <| x_then <| C_seq <| R_nd <| nq (Q_move rfl) rfl rfl <| nq (Q_nilP rfl) rfl rfl <| nq (v := .pointer (some ⟨b1, 0, none⟩)) (Q_fld Tryz.underlying139 rfl ty137 (by decide) rfl rfl) rfl rfl <| nq (v := v5) (Q_ldB (k := 0) (cs := [v5]) H.ok rfl ty137 rfl rfl rfl (fun _ => rfl) rfl) rfl rfl <| nq (Q_move rfl) rfl rfl ?_
   obtain ⟨x76, hx76, hF⟩ := bnd hF
   obtain ⟨b77, o78, hi82, hc80, ha81⟩ := arr_at (hs := [Arr v5 1 c2]) (k := 0) (by decide) (H.okS (by simp)) rfl r4 hx76
   refine nq (Q_idx hi82 Tryz.underlying137 ty37 rfl rfl) rfl rfl <| nq (v := .int .u64 x76) (Q_ld (show cellsAt _ _ _ [.int .u64 x76] from (show _ = [_] from hc80) ▸ (ha81 _ (Ok.subS (by simp) H.ok))) ty37 rfl (fun _ => rfl) rfl rfl) rfl rfl <| nq (Q_move rfl) rfl rfl <| nq (Q_or rfl rfl) rfl rfl ?_
   obtain ⟨x83, hx83, hF⟩ := bnd hF
   obtain ⟨b84, o85, hi89, hc87, ha88⟩ := arr_at (hs := [Arr v5 1 c2]) (k := 0) (by decide) (H.okS (by simp)) rfl r4 hx83
   refine nq (Q_idx hi89 Tryz.underlying137 ty37 rfl rfl) rfl rfl ?_
   obtain ⟨x90, hx90, hF⟩ := bnd hF
   obtain ⟨hs91a, hs91b, hs91c⟩ := setI_some hx90
   have r92 : rdL (eI .u64) ρ x90 (setC c2 (x55.toNat * 1 + 0) [.int .u64 (ior .u64 x76 x56)]) := hs91c ▸ rdL.set r4 hs91b (rfl)
   refine ne (E_stA (k := 1) (j := 0) (c := [.int .u64 (ior .u64 x76 x56)]) H rfl ty37 hi89 rfl rfl rfl rfl (one_cons rfl one_nil) (by decide)) rfl rfl ?_
   rintro _ wd93 H
   dsimp only [List.set] at H
   refine WL_nil <| x_then <| C_seq <| R_nd <| nq (Q_assign rfl) rfl rfl <| WL_nil <| x_then <| C_ret ?_
   replace H := H.f1
   replace H := H.f1
   obtain rfl := Option.some.inj hF
   exact fn_ret (l := [.tmp 4]) (vs := [.bool true]) rfl rfl rfl ⟨(setC c2 (x55.toNat * 1 + 0) [.int .u64 (ior .u64 x76 x56)]), x90, true, rfl, rfl, r92, H⟩
theorem c_75 {N : Nat} {C : Cx} {w : World} {ρ : View} {hs : List Hl} {gV : Nat → Value} {x1 : Int} {x2 : Int} {x3 : Int} {x4 : Int} (H : Hp C w ρ (hs)) (_gle : GErrs ρ 394 errIds gV) {r : Unit} (hF : F_sets_Set_Empty N x1 x2 x3 x4 = some r) :
  Calls Tryz.prog 75 [.agg #[.int .u64 x1, .int .u64 x2, .int .u64 x3, .int .u64 x4]].toArray w (Rets (fun v w' => (() = r ∧ .bool (([x1, x2, x3, x4] : List Int) == ([0, 0, 0, 0] : List Int)) = v ∧ Hp C w' ρ (hs)))) := by
 unfold F_sets_Set_Empty at hF
 have h0 : Tryz.f75.body = some _ := rfl
 refine fn_calls' Tryz.func75 h0 (n := 6) rfl (by simp) <| C_seq <| R_nd <| ne (E_box H (vs := [.int .u64 x1, .int .u64 x2, .int .u64 x3, .int .u64 x4]) rfl rfl) rfl rfl ?_
 rintro _ wd8 ⟨b7, rfl, H⟩
 refine nq (Q_assign rfl) rfl rfl <| WL_nil <| x_then <| C_seq <| R_nd <| nq (v := .agg #[.int .u64 x1, .int .u64 x2, .int .u64 x3, .int .u64 x4]) (Q_ldB (k := 0) (cs := [.int .u64 x1, .int .u64 x2, .int .u64 x3, .int .u64 x4]) H.ok rfl ty39 rfl rfl rfl (fun h => nomatch h) rfl) rfl rfl <| nq (v := .agg #[.int .u64 0, .int .u64 0, .int .u64 0, .int .u64 0]) (Q_build0 (zs := [.int .u64 0, .int .u64 0, .int .u64 0, .int .u64 0]) ty39 Tryz.underlying39 ty37 rfl) rfl rfl <| nq (v := .bool (([x1, x2, x3, x4] : List Int) == ([0, 0, 0, 0] : List Int))) (Q_eqlA (xs := ([x1, x2, x3, x4] : List Int)) (ys := ([0, 0, 0, 0] : List Int)) Tryz.underlying39 ty37 (by kernel_rfl) Tryz.underlying37 (rdL_ints .u64 ρ ([x1, x2, x3, x4] : List Int)) rfl (rdL_ints .u64 ρ ([0, 0, 0, 0] : List Int)) rfl rfl rfl) rfl rfl <| nq (Q_assign rfl) rfl rfl <| WL_nil <| x_then <| C_ret ?_
 replace H := H.drop 0 rfl
 dsimp only [List.eraseIdx] at H
 obtain rfl := Option.some.inj hF
 exact fn_ret (l := [.tmp 2]) (vs := [.bool (([x1, x2, x3, x4] : List Int) == ([0, 0, 0, 0] : List Int))]) rfl rfl rfl ⟨rfl, rfl, H⟩
theorem c_74 {N : Nat} {C : Cx} {w : World} {ρ : View} {hs : List Hl} {gV : Nat → Value} {b2 : Nat} {x1 : Int} {x3 : Int} (H : Hp C w ρ (Box b2 [.int .i64 x3] :: hs)) (_gle : GErrs ρ 394 errIds gV) {r : Bool} (hF : F_nfa_Right_1 N x1 x3 = some r) :
  Calls Tryz.prog 74 [.int .i64 x1, .pointer (some ⟨b2, 0, none⟩)].toArray w (Rets (fun v w' => (∃ (x7 : Bool), x7 = r ∧ .bool x7 = v ∧ Hp C w' ρ (Box b2 [.int .i64 x3] :: hs)))) := by
 unfold F_nfa_Right_1 at hF
 have h0 : Tryz.f74.body = some _ := rfl
 refine fn_calls' Tryz.func74 h0 (n := 11) rfl (by simp) <| C_seq <| R_nd <| nq (Q_assign rfl) rfl rfl <| WL_nil <| x_then ?_
 obtain ⟨o9, ho9, hF⟩ := bnd hF
 refine C_cut (fun a w' => ∃ (x8 : Bool), x8 = o9 ∧ Fr 11 a [(3, .bool x8)] ∧ Hp C w' ρ (Box b2 [.int .i64 x3] :: hs)) ?_ ?_
 ·refine R_nd <| nq (Q_move rfl) rfl rfl <| nq (Q_lss rfl rfl) rfl rfl <| nq (Q_move rfl) rfl rfl ?_
  rcases Bool.eq_false_or_eq_true (decide (x1 < 0)) with hb | hb
  ·rw [hb]
   replace ho9 := itT hb ho9
   refine gs rfl rfl rfl rfl <| gs rfl rfl rfl rfl <| gs rfl rfl rfl rfl <| nq (Q_pickT rfl rfl) rfl rfl <| nq (Q_assign rfl) rfl rfl <| WL_nil ?_
   obtain rfl := Option.some.inj ho9
   refine x_A fun a hf => ⟨true, rfl, hf.sub ⟨rfl, trivial⟩, H⟩
  ·rw [hb]
   replace ho9 := itF hb ho9
   refine gq (Q_move rfl) rfl rfl rfl <| gq (v := .int .i64 x3) (Q_ldB (k := 0) (cs := [.int .i64 x3]) H.ok rfl ty3 rfl rfl rfl (fun _ => rfl) rfl) rfl rfl rfl <| gq (Q_geq rfl rfl) rfl rfl rfl <| nq (Q_pickF rfl rfl) rfl rfl <| nq (Q_assign rfl) rfl rfl <| WL_nil ?_
   obtain rfl := Option.some.inj ho9
   refine x_A fun a hf => ⟨decide (x1 ≥ x3), rfl, hf.sub ⟨rfl, trivial⟩, H⟩
 ·rintro a wd10 ⟨x8, rfl, hf, H⟩
  try dsimp only at hF
  refine CW.at hf <| C_ret ?_
  obtain rfl := Option.some.inj hF
  exact fn_ret (l := [.tmp 3]) (vs := [.bool x8]) rfl rfl rfl ⟨x8, rfl, rfl, H⟩
theorem c_128_2 {N : Nat} {C : Cx} {w : World} {ρ : View} {hs : List Hl} {gV : Nat → Value} {v1 : Value} {b4 : Nat} {x2 : (List Int)} {x5 : Int} (H : Hp C w ρ (Box b4 [.int .i64 x5] :: hs)) (gle : GErrs ρ 394 errIds gV) (r3 : RdSl ρ (eI .i64) v1 x2) {r : Int} (hF : F_slices_IndexFunc_int_int_2 N x2 x5 = some r) :
  Calls Tryz.prog 128 [v1, .func (.func 74) #[] [.pointer (some ⟨b4, 0, none⟩)].toArray].toArray w (Rets (fun v w' => (∃ (x88 : Int), x88 = r ∧ .int .i64 x88 = v ∧ Hp C w' ρ (Box b4 [.int .i64 x5] :: hs)))) := by
 unfold F_slices_IndexFunc_int_int_2 at hF
 have h0 : Tryz.f128.body = some _ := rfl
 refine fn_calls' Tryz.func128 h0 (n := 19) rfl (by simp) <| C_seq <| R_nd <| nq (Q_assign rfl) rfl rfl <| WL_nil <| x_then <| C_seq <| C_seq <| R_nd <| nq (Q_move rfl) rfl rfl <| nq (Q_len Tryz.underlying23 rfl r3) rfl rfl <| nq (Q_move rfl) rfl rfl <| WL_nil <| x_then ?_
 obtain ⟨o129, ho129, hF⟩ := bnd hF
 refine C_cutQ (fun a w' => .inl () = o129 ∧ Fr 19 a [] ∧ Hp C w' ρ (Box b4 [.int .i64 x5] :: hs)) ?_ ?_
 ·refine C_block ?_
  refine C_iter (f := fun s => F_slices_IndexFunc_int_int_2_l0 N x2 x5 s) ho129 (fun s a w' => ∃ (x142 : Int), x142 = s ∧ Fr 19 a [(0, v1), (1, .func (.func 74) #[] [.pointer (some ⟨b4, 0, none⟩)].toArray), (7, .int .i64 (x2.length : Int)), (8, .int .i64 x142)] ∧ Hp C w' ρ (Box b4 [.int .i64 x5] :: hs)) ?_ ?_
  ·exact fun a hf => ⟨0, rfl, hf.sub ⟨rfl, rfl, rfl, rfl, trivial⟩, H⟩
  ·rintro s o155 a wd158 ⟨x142, rfl, hf, H⟩ hB156 hO157
   replace hB156 : F_slices_IndexFunc_int_int_2_l0 N x2 x5 x142 = some o155 := hB156
   unfold F_slices_IndexFunc_int_int_2_l0 at hB156
   refine CW.at hf <| C_seq <| R_nd <| nq (Q_lss rfl rfl) rfl rfl <| WL_nil <| x_then <| C_seq ?_
   refine C_cond rfl (fun hb => ?_) (fun hb => ?_)
   ·replace hB156 := itT hb hB156
    refine C_skip <| x_then <| C_seq <| C_block <| C_seq <| R_nd <| nq (Q_move rfl) rfl rfl <| nq (Q_assign rfl) rfl rfl <| WL_nil <| x_then <| C_seq <| R_nd <| nq (Q_move rfl) rfl rfl <| nq (Q_move rfl) rfl rfl ?_
    refine nq (Q_move rfl) rfl rfl ?_
    obtain ⟨x159, hx159, hB156⟩ := bnd hB156
    obtain ⟨b160, o161, c162, hc163, ha164, hi165⟩ := idxR r3 hx159
    refine nq (Q_idx hi165 Tryz.underlying23 ty3 rfl rfl) rfl rfl <| nq (v := .int .i64 x159) (Q_ld (show cellsAt _ _ _ [.int .i64 x159] from (show _ = [_] from hc163) ▸ (ha164.up H.ok.view)) ty3 rfl (fun _ => rfl) rfl rfl) rfl rfl ?_
    obtain ⟨q166, hq166, hB156⟩ := bnd hB156
    refine ne (E_callV fn74 rfl rfl (c_74 H gle   hq166)) rfl rfl ?_
    rintro _ wd169 ⟨x168, rfl, rfl, H⟩
    try dsimp only at hB156
    refine WL_nil <| x_then ?_
    refine C_cond rfl (fun hb => ?_) (fun hb => ?_)
    ·replace hB156 := itT hb hB156
     refine C_seq <| R_nd <| nq (Q_move rfl) rfl rfl <| nq (Q_assign rfl) rfl rfl <| WL_nil <| x_then <| C_ret <| x_block_ret <| x_then_ret <| x_then_ret <| x_block_ret <| x_then_ret <| x_then_ret ?_
     obtain rfl := Option.some.inj hB156
     obtain rfl := hO157 _ rfl
     obtain rfl := Option.some.inj (show some _ = some _ from hF)
     exact fn_ret (l := [.tmp 4]) (vs := [.int .i64 x142]) rfl rfl rfl ⟨x142, rfl, rfl, H⟩
    ·replace hB156 := itF hb hB156
     refine C_skip <| x_block <| x_then <| R_nd <| nq (Q_add rfl rfl) rfl rfl <| nq (Q_move rfl) rfl rfl <| WL_nil ?_
     obtain rfl := Option.some.inj hB156
     refine x_A fun a hf => ⟨_, rfl, w64 (x142 + 1), rfl, hf.sub ⟨rfl, rfl, rfl, rfl, trivial⟩, H⟩
   ·replace hB156 := itF hb hB156
    refine C_exit <| x_then_exit <| x_then_exit <| x_block_exit ?_
    obtain rfl := Option.some.inj hB156
    obtain rfl := hO157 _ rfl
    refine x_A fun a hf => ⟨rfl, hf.sub trivial, H⟩
 ·rintro a wd170 ⟨rfl, hf, H⟩
  try dsimp only at hF
  refine XX.at hf <| x_then <| C_seq <| R_nd <| nq (Q_assign rfl) rfl rfl <| WL_nil <| x_then <| C_ret ?_
  obtain rfl := Option.some.inj hF
  exact fn_ret (l := [.tmp 4]) (vs := [.int .i64 (-1)]) rfl rfl rfl ⟨(-1), rfl, rfl, H⟩
theorem c_76_2 {N : Nat} {C : Cx} {w : World} {ρ : View} {hs : List Hl} {gV : Nat → Value} {v1 : Value} {b4 : Nat} {x2 : (List Int)} {x5 : Int} (H : Hp C w ρ (Box b4 [.int .i64 x5] :: hs)) (gle : GErrs ρ 394 errIds gV) (r3 : RdSl ρ (eI .i64) v1 x2) {r : Bool} (hF : F_slices_ContainsFunc_int_int_2 N x2 x5 = some r) :
  Calls Tryz.prog 76 [v1, .func (.func 74) #[] [.pointer (some ⟨b4, 0, none⟩)].toArray].toArray w (Rets (fun v w' => (∃ (x10 : Bool), x10 = r ∧ .bool x10 = v ∧ Hp C w' ρ (Box b4 [.int .i64 x5] :: hs)))) := by
 unfold F_slices_ContainsFunc_int_int_2 at hF
 have h0 : Tryz.f76.body = some _ := rfl
 refine fn_calls' Tryz.func76 h0 (n := 9) rfl (by simp) <| C_seq <| R_nd <| nq (Q_assign rfl) rfl rfl <| WL_nil <| x_then <| C_seq <| R_nd <| nq (Q_move rfl) rfl rfl <| nq (Q_move rfl) rfl rfl ?_
 obtain ⟨q11, hq11, hF⟩ := bnd hF
 refine ne (E_call fn128 rfl (c_128_2 H gle  r3 hq11)) rfl rfl ?_
 rintro _ wd14 ⟨x13, rfl, rfl, H⟩
 try dsimp only at hF
 refine nq (Q_geq rfl rfl) rfl rfl <| nq (Q_assign rfl) rfl rfl <| WL_nil <| x_then <| C_ret ?_
 obtain rfl := Option.some.inj hF
 exact fn_ret (l := [.tmp 4]) (vs := [.bool (decide (x13 ≥ 0))]) rfl rfl rfl ⟨decide (x13 ≥ 0), rfl, rfl, H⟩
theorem c_18 {N : Nat} {C : Cx} {w : World} {ρ : View} {hs : List Hl} {gV : Nat → Value} {v1 : Value} {v4 : Value} {x2 : (List ((List Int) × (Int × Int × Int × Int) × Int × Int))} {x5 : (List Int)} (H : Hp C w ρ (hs)) (gle : GErrs ρ 394 errIds gV) (r3 : RdSl ρ (eP (eL (eI .i64)) (eP (eP (eI .u64) (eP (eI .u64) (eP (eI .u64) (eI .u64)))) (eP (eI .i64) (eI .i64)))) v1 x2) (r6 : RdSl ρ (eI .i64) v4 x5) {r : Bool} (hF : F_nfa_Right N x2 x5 = some r) :
  Calls Tryz.prog 18 [.agg #[v1, v4]].toArray w (Rets (fun v w' => (∃ (x516 : Bool), x516 = r ∧ .bool x516 = v ∧ Hp C w' ρ (hs)))) := by
 unfold F_nfa_Right at hF
 have h0 : Tryz.f18.body = some _ := rfl
 refine fn_calls' Tryz.func18 h0 (n := 80) rfl (by simp) <| C_seq <| R_nd <| ne (E_box H (vs := [v1, v4]) rfl rfl) rfl rfl ?_
 rintro _ wd518 ⟨b517, rfl, H⟩
 refine nq (Q_assign rfl) rfl rfl <| WL_nil <| x_then <| C_seq <| R_nd <| nq (v := .pointer (some ⟨b517, 0, none⟩)) (Q_fld Tryz.underlying25 rfl ty22 (by decide) rfl rfl) rfl rfl <| nq (v := v1) (Q_ldB (k := 0) (cs := [v1]) H.ok rfl ty22 rfl rfl rfl (fun _ => rfl) rfl) rfl rfl <| nq (Q_len Tryz.underlying22 rfl r3) rfl rfl <| ne (E_alloc H ty3 (zs := [.int .i64 0]) rfl) rfl rfl ?_
 rintro _ wd520 ⟨b519, rfl, H⟩
 refine ne (E_stB (k := 0) (cs := [.int .i64 (x2.length : Int)]) (vs' := [.int .i64 (x2.length : Int)]) H rfl ty3 rfl rfl rfl rfl (one_cons rfl one_nil) (by simp) rfl) rfl rfl ?_
 rintro _ wd521 H
 dsimp only [List.set] at H
 refine WL_nil <| x_then <| C_seq <| R_nd <| nq (v := .func (.func 74) #[] [.pointer (some ⟨b519, 0, none⟩)].toArray) (Q_func rfl) rfl rfl <| nq (Q_assign rfl) rfl rfl <| WL_nil <| x_then <| C_seq <| C_seq <| R_nd <| nq (v := .pointer (some ⟨b517, 0, none⟩)) (Q_fld Tryz.underlying25 rfl ty22 (by decide) rfl rfl) rfl rfl <| nq (v := v1) (Q_ldB (k := 1) (cs := [v1]) H.ok rfl ty22 rfl rfl rfl (fun _ => rfl) rfl) rfl rfl <| nq (Q_len Tryz.underlying22 rfl r3) rfl rfl ?_
 refine nq (Q_move rfl) rfl rfl <| WL_nil <| x_then ?_
 obtain ⟨o766, ho766, hF⟩ := bnd hF
 refine C_cutQ (fun a w' => .inl () = o766 ∧ Fr 80 a [(1, .pointer (some ⟨b517, 0, none⟩)), (3, .pointer (some ⟨b519, 0, none⟩)), (4, .func (.func 74) #[] [.pointer (some ⟨b519, 0, none⟩)].toArray)] ∧ Hp C w' ρ (Box b517 [v1, v4] :: Box b519 [.int .i64 (x2.length : Int)] :: hs)) ?_ ?_
 ·refine C_block ?_
  replace H := H.f1
  refine C_iter (f := fun s => F_nfa_Right_l0 N x2 s) ho766 (fun s a w' => ∃ (x847 : Int), x847 = s ∧ Fr 80 a [(1, .pointer (some ⟨b517, 0, none⟩)), (3, .pointer (some ⟨b519, 0, none⟩)), (4, .func (.func 74) #[] [.pointer (some ⟨b519, 0, none⟩)].toArray), (14, v1), (15, .int .i64 (x2.length : Int)), (16, .int .i64 x847)] ∧ Hp C w' ρ (Box b517 [v1, v4] :: Box b519 [.int .i64 (x2.length : Int)] :: hs)) ?_ ?_
  ·exact fun a hf => ⟨0, rfl, hf.sub ⟨rfl, rfl, rfl, rfl, rfl, rfl, trivial⟩, H⟩
  ·rintro s o928 a wd931 ⟨x847, rfl, hf, H⟩ hB929 hO930
   replace hB929 : F_nfa_Right_l0 N x2 x847 = some o928 := hB929
   unfold F_nfa_Right_l0 at hB929
   refine CW.at hf <| C_seq <| R_nd <| nq (Q_lss rfl rfl) rfl rfl <| WL_nil <| x_then <| C_seq ?_
   refine C_cond rfl (fun hb => ?_) (fun hb => ?_)
   ·replace hB929 := itT hb hB929
    refine C_skip <| x_then <| C_seq <| C_block <| C_seq <| R_nd ?_
    obtain ⟨x932, hx932, hB929⟩ := bnd hB929
    obtain ⟨b933, o934, c935, hc936, ha937, hi938⟩ := idxR r3 hx932
    refine nq (Q_idx hi938 Tryz.underlying22 ty41 rfl rfl) rfl rfl ?_
    obtain ⟨c939, c940, he941, hc942, hc943⟩ := (id hc936)
    obtain ⟨v944, he945, r946⟩ := hc942
    obtain ⟨c947, c948, he949, hc950, hc951⟩ := hc943
    obtain ⟨c952, c953, he954, hc955, hc956⟩ := hc950
    obtain ⟨c957, c958, he959, hc960, hc961⟩ := hc956
    obtain ⟨c962, c963, he964, hc965, hc966⟩ := hc961
    obtain ⟨c967, c968, he969, hc970, hc971⟩ := hc951
    refine nq (v := .agg #[v944, .int .u64 x932.2.1.1, .int .u64 x932.2.1.2.1, .int .u64 x932.2.1.2.2.1, .int .u64 x932.2.1.2.2.2, .int .i64 x932.2.2.1, .int .i64 x932.2.2.2]) (Q_ld (show cellsAt _ _ _ [v944, .int .u64 x932.2.1.1, .int .u64 x932.2.1.2.1, .int .u64 x932.2.1.2.2.1, .int .u64 x932.2.1.2.2.2, .int .i64 x932.2.2.1, .int .i64 x932.2.2.2] from cellsAt.cg (cat2 he941 he945 (cat2 he949 (cat2 he954 (rdI hc955) (cat2 he959 (rdI hc960) (cat2 he964 (rdI hc965) (rdI hc966)))) (cat2 he969 (rdI hc970) (rdI hc971)))) (ha937.up H.ok.view)) ty41 rfl (fun h => nomatch h) rfl rfl) rfl rfl <| ne (E_alloc H ty41 (zs := [.slice none 0 0, .int .u64 0, .int .u64 0, .int .u64 0, .int .u64 0, .int .i64 0, .int .i64 0]) rfl) rfl rfl ?_
    rintro _ wd973 ⟨b972, rfl, H⟩
    refine ne (E_stB (k := 0) (cs := [v944, .int .u64 x932.2.1.1, .int .u64 x932.2.1.2.1, .int .u64 x932.2.1.2.2.1, .int .u64 x932.2.1.2.2.2, .int .i64 x932.2.2.1, .int .i64 x932.2.2.2]) (vs' := [v944, .int .u64 x932.2.1.1, .int .u64 x932.2.1.2.1, .int .u64 x932.2.1.2.2.1, .int .u64 x932.2.1.2.2.2, .int .i64 x932.2.2.1, .int .i64 x932.2.2.2]) H rfl ty41 rfl rfl rfl rfl (one_cons (RdSl.one r946) (one_cons rfl (one_cons rfl (one_cons rfl (one_cons rfl (one_cons rfl (one_cons rfl one_nil))))))) (by simp) rfl) rfl rfl ?_
    rintro _ wd974 H
    dsimp only [List.set] at H
    refine WL_nil <| x_then ?_
    obtain ⟨o987, ho987, hB929⟩ := bnd hB929
    refine C_cut (fun a w' => ∃ (x986 : Bool), x986 = o987 ∧ Fr 80 a [(1, .pointer (some ⟨b517, 0, none⟩)), (3, .pointer (some ⟨b519, 0, none⟩)), (4, .func (.func 74) #[] [.pointer (some ⟨b519, 0, none⟩)].toArray), (6, .pointer (some ⟨b972, 0, none⟩)), (7, .bool x986), (14, v1), (15, .int .i64 (x2.length : Int)), (16, .int .i64 x847)] ∧ Hp C w' ρ (Box b517 [v1, v4] :: Box b519 [.int .i64 (x2.length : Int)] :: Box b972 [v944, .int .u64 x932.2.1.1, .int .u64 x932.2.1.2.1, .int .u64 x932.2.1.2.2.1, .int .u64 x932.2.1.2.2.2, .int .i64 x932.2.2.1, .int .i64 x932.2.2.2] :: hs)) ?_ ?_
    ·refine R_nd <| nq (v := .pointer (some ⟨b972, 5, none⟩)) (Q_fld Tryz.underlying41 rfl ty3 (by decide) rfl rfl) rfl rfl <| nq (v := .int .i64 x932.2.2.1) (Q_ldB (k := 0) (cs := [.int .i64 x932.2.2.1]) H.ok rfl ty3 rfl rfl rfl (fun _ => rfl) rfl) rfl rfl <| nq (Q_eql rfl rfl) rfl rfl <| nq (Q_move rfl) rfl rfl ?_
     rcases Bool.eq_false_or_eq_true (x932.2.2.1 == (-1)) with hb | hb
     ·rw [hb]
      replace ho987 := itT hb ho987
      refine gq (v := .pointer (some ⟨b972, 1, none⟩)) (Q_fld Tryz.underlying41 rfl ty39 (by decide) rfl rfl) rfl rfl rfl <| gq (v := .agg #[.int .u64 x932.2.1.1, .int .u64 x932.2.1.2.1, .int .u64 x932.2.1.2.2.1, .int .u64 x932.2.1.2.2.2]) (Q_ldB (k := 0) (cs := [.int .u64 x932.2.1.1, .int .u64 x932.2.1.2.1, .int .u64 x932.2.1.2.2.1, .int .u64 x932.2.1.2.2.2]) H.ok rfl ty39 rfl rfl rfl (fun h => nomatch h) rfl) rfl rfl rfl ?_
      obtain ⟨q988, hq988, ho987⟩ := bnd ho987
      refine ge (E_call fn75 rfl (c_75 H gle   hq988)) rfl rfl rfl ?_
      rintro _ wd990 ⟨rfl, rfl, H⟩
      try dsimp only at ho987
      refine nq (Q_pickT rfl rfl) rfl rfl <| nq (Q_move rfl) rfl rfl ?_
      rcases Bool.eq_false_or_eq_true (([x932.2.1.1, x932.2.1.2.1, x932.2.1.2.2.1, x932.2.1.2.2.2] : List Int) == ([0, 0, 0, 0] : List Int)) with hb | hb
      ·rw [hb]
       replace ho987 := itT hb ho987
       refine gs rfl rfl rfl rfl <| gs rfl rfl rfl rfl <| gs rfl rfl rfl rfl <| gs rfl rfl rfl rfl <| gs rfl rfl rfl rfl <| nq (Q_pickT rfl rfl) rfl rfl <| nq (Q_assign rfl) rfl rfl <| WL_nil ?_
       replace H := H.f2
       replace H := H.f2
       obtain rfl := Option.some.inj ho987
       refine x_A fun a hf => ⟨true, rfl, hf.sub ⟨rfl, rfl, rfl, rfl, rfl, rfl, rfl, rfl, trivial⟩, H⟩
      ·rw [hb]
       replace ho987 := itF hb ho987
       refine gq (Q_move rfl) rfl rfl rfl <| gq (v := .pointer (some ⟨b972, 5, none⟩)) (Q_fld Tryz.underlying41 rfl ty3 (by decide) rfl rfl) rfl rfl rfl <| gq (v := .int .i64 x932.2.2.1) (Q_ldB (k := 0) (cs := [.int .i64 x932.2.2.1]) H.ok rfl ty3 rfl rfl rfl (fun _ => rfl) rfl) rfl rfl rfl ?_
       replace H := H.f2
       obtain ⟨q991, hq991, ho987⟩ := bnd ho987
       refine ge (E_callV fn74 rfl rfl (c_74 H gle   hq991)) rfl rfl rfl ?_
       rintro _ wd994 ⟨x993, rfl, rfl, H⟩
       try dsimp only at ho987
       refine gq (Q_not rfl) rfl rfl rfl <| nq (Q_pickF rfl rfl) rfl rfl <| nq (Q_assign rfl) rfl rfl <| WL_nil ?_
       replace H := H.f1
       replace H := H.f1
       replace H := H.f2
       obtain rfl := Option.some.inj ho987
       refine x_A fun a hf => ⟨!x993, rfl, hf.sub ⟨rfl, rfl, rfl, rfl, rfl, rfl, rfl, rfl, trivial⟩, H⟩
     ·rw [hb]
      replace ho987 := itF hb ho987
      refine gs rfl rfl rfl rfl <| gs rfl rfl rfl rfl <| gs rfl rfl rfl rfl <| nq (Q_pickF rfl rfl) rfl rfl <| nq (Q_move rfl) rfl rfl <| gq (Q_move rfl) rfl rfl rfl <| gq (v := .pointer (some ⟨b972, 5, none⟩)) (Q_fld Tryz.underlying41 rfl ty3 (by decide) rfl rfl) rfl rfl rfl <| gq (v := .int .i64 x932.2.2.1) (Q_ldB (k := 0) (cs := [.int .i64 x932.2.2.1]) H.ok rfl ty3 rfl rfl rfl (fun _ => rfl) rfl) rfl rfl rfl ?_
      replace H := H.f2
      obtain ⟨q995, hq995, ho987⟩ := bnd ho987
      refine ge (E_callV fn74 rfl rfl (c_74 H gle   hq995)) rfl rfl rfl ?_
      rintro _ wd998 ⟨x997, rfl, rfl, H⟩
      try dsimp only at ho987
      refine gq (Q_not rfl) rfl rfl rfl <| nq (Q_pickF rfl rfl) rfl rfl <| nq (Q_assign rfl) rfl rfl <| WL_nil ?_
      replace H := H.f1
      replace H := H.f1
      replace H := H.f2
      obtain rfl := Option.some.inj ho987
      refine x_A fun a hf => ⟨!x997, rfl, hf.sub ⟨rfl, rfl, rfl, rfl, rfl, rfl, rfl, rfl, trivial⟩, H⟩
    ·rintro a wd999 ⟨x986, rfl, hf, H⟩
     try dsimp only at hB929
     refine CW.at hf ?_
     obtain ⟨o1005, ho1005, hB929⟩ := bnd hB929
     refine C_cut (fun a w' => ∃ (x1004 : Bool), x1004 = o1005 ∧ Fr 80 a [(1, .pointer (some ⟨b517, 0, none⟩)), (3, .pointer (some ⟨b519, 0, none⟩)), (4, .func (.func 74) #[] [.pointer (some ⟨b519, 0, none⟩)].toArray), (14, v1), (15, .int .i64 (x2.length : Int)), (16, .int .i64 x847), (52, .bool x1004)] ∧ Hp C w' ρ (Box b517 [v1, v4] :: Box b519 [.int .i64 (x2.length : Int)] :: hs)) ?_ ?_
     ·refine R_nd <| nq (Q_move rfl) rfl rfl <| nq (Q_not rfl) rfl rfl <| nq (Q_move rfl) rfl rfl ?_
      rcases Bool.eq_false_or_eq_true (!x986) with hb | hb
      ·rw [hb]
       replace ho1005 := itT hb ho1005
       refine gs rfl rfl rfl rfl <| gs rfl rfl rfl rfl <| gs rfl rfl rfl rfl <| gs rfl rfl rfl rfl <| nq (Q_pickT rfl rfl) rfl rfl <| nq (Q_move rfl) rfl rfl <| gs rfl rfl rfl rfl <| gs rfl rfl rfl rfl <| gs rfl rfl rfl rfl <| nq (Q_pickT rfl rfl) rfl rfl <| nq (Q_move rfl) rfl rfl <| gs rfl rfl rfl rfl <| gs rfl rfl rfl rfl <| gs rfl rfl rfl rfl ?_
       refine nq (Q_pickT rfl rfl) rfl rfl <| WL_nil ?_
       replace H := H.f1
       replace H := H.f1
       replace H := H.drop 2 rfl
       dsimp only [List.eraseIdx] at H
       obtain rfl := Option.some.inj ho1005
       refine x_A fun a hf => ⟨true, rfl, hf.sub ⟨rfl, rfl, rfl, rfl, rfl, rfl, rfl, trivial⟩, H⟩
      ·rw [hb]
       replace ho1005 := itF hb ho1005
       refine gq (v := .pointer (some ⟨b972, 0, none⟩)) (Q_fld Tryz.underlying41 rfl ty23 (by decide) rfl rfl) rfl rfl rfl <| gq (v := v944) (Q_ldB (k := 2) (cs := [v944]) H.ok rfl ty23 rfl rfl rfl (fun _ => rfl) rfl) rfl rfl rfl <| gq (Q_move rfl) rfl rfl rfl ?_
       replace H := H.f1
       obtain ⟨q1006, hq1006, ho1005⟩ := bnd ho1005
       refine ge (E_call fn76 rfl (c_76_2 H gle  r946 hq1006)) rfl rfl rfl ?_
       rintro _ wd1009 ⟨x1008, rfl, rfl, H⟩
       try dsimp only at ho1005
       refine nq (Q_pickF rfl rfl) rfl rfl <| nq (Q_move rfl) rfl rfl ?_
       rcases Bool.eq_false_or_eq_true x1008 with hb | hb
       ·rw [hb]
        replace ho1005 := itT hb ho1005
        refine gs rfl rfl rfl rfl <| gs rfl rfl rfl rfl <| gs rfl rfl rfl rfl <| nq (Q_pickT rfl rfl) rfl rfl <| nq (Q_move rfl) rfl rfl <| gs rfl rfl rfl rfl <| gs rfl rfl rfl rfl <| gs rfl rfl rfl rfl <| nq (Q_pickT rfl rfl) rfl rfl <| WL_nil ?_
        replace H := H.f1
        replace H := H.drop 2 rfl
        dsimp only [List.eraseIdx] at H
        obtain rfl := Option.some.inj ho1005
        refine x_A fun a hf => ⟨true, rfl, hf.sub ⟨rfl, rfl, rfl, rfl, rfl, rfl, rfl, trivial⟩, H⟩
       ·rw [hb]
        replace ho1005 := itF hb ho1005
        refine gq (v := .pointer (some ⟨b972, 6, none⟩)) (Q_fld Tryz.underlying41 rfl ty3 (by decide) rfl rfl) rfl rfl rfl <| gq (v := .int .i64 x932.2.2.2) (Q_ldB (k := 2) (cs := [.int .i64 x932.2.2.2]) H.ok rfl ty3 rfl rfl rfl (fun _ => rfl) rfl) rfl rfl rfl <| gq (Q_lss rfl rfl) rfl rfl rfl <| nq (Q_pickF rfl rfl) rfl rfl <| nq (Q_move rfl) rfl rfl ?_
        rcases Bool.eq_false_or_eq_true (decide (x932.2.2.2 < (-1))) with hb | hb
        ·rw [hb]
         replace ho1005 := itT hb ho1005
         refine gs rfl rfl rfl rfl <| gs rfl rfl rfl rfl <| gs rfl rfl rfl rfl <| nq (Q_pickT rfl rfl) rfl rfl <| WL_nil ?_
         replace H := H.f1
         replace H := H.drop 2 rfl
         dsimp only [List.eraseIdx] at H
         obtain rfl := Option.some.inj ho1005
         refine x_A fun a hf => ⟨true, rfl, hf.sub ⟨rfl, rfl, rfl, rfl, rfl, rfl, rfl, trivial⟩, H⟩
        ·rw [hb]
         replace ho1005 := itF hb ho1005
         refine gq (v := .pointer (some ⟨b972, 6, none⟩)) (Q_fld Tryz.underlying41 rfl ty3 (by decide) rfl rfl) rfl rfl rfl <| gq (v := .int .i64 x932.2.2.2) (Q_ldB (k := 2) (cs := [.int .i64 x932.2.2.2]) H.ok rfl ty3 rfl rfl rfl (fun _ => rfl) rfl) rfl rfl rfl <| gq (Q_geq rfl rfl) rfl rfl rfl <| nq (Q_pickF rfl rfl) rfl rfl <| WL_nil ?_
         replace H := H.f1
         replace H := H.drop 2 rfl
         dsimp only [List.eraseIdx] at H
         obtain rfl := Option.some.inj ho1005
         refine x_A fun a hf => ⟨decide (x932.2.2.2 ≥ 48), rfl, hf.sub ⟨rfl, rfl, rfl, rfl, rfl, rfl, rfl, trivial⟩, H⟩
     ·rintro a wd1010 ⟨x1004, rfl, hf, H⟩
      try dsimp only at hB929
      refine CW.at hf ?_
      refine C_cond rfl (fun hb => ?_) (fun hb => ?_)
      ·replace hB929 := itT hb hB929
       refine C_seq <| R_nd <| nq (Q_assign rfl) rfl rfl <| WL_nil <| x_then <| C_ret <| x_block_ret <| x_then_ret <| x_then_ret <| x_block_ret <| x_then_ret <| x_then_ret ?_
       replace H := H.drop 0 rfl
       dsimp only [List.eraseIdx] at H
       replace H := H.drop 0 rfl
       dsimp only [List.eraseIdx] at H
       obtain rfl := Option.some.inj hB929
       obtain rfl := hO930 _ rfl
       obtain rfl := Option.some.inj (show some _ = some _ from hF)
       exact fn_ret (l := [.tmp 2]) (vs := [.bool false]) rfl rfl rfl ⟨false, rfl, rfl, H⟩
      ·replace hB929 := itF hb hB929
       refine C_skip <| x_block <| x_then <| R_nd <| nq (Q_add rfl rfl) rfl rfl <| nq (Q_move rfl) rfl rfl <| WL_nil ?_
       replace H := H.f1
       replace H := H.f1
       obtain rfl := Option.some.inj hB929
       refine x_A fun a hf => ⟨_, rfl, w64 (x847 + 1), rfl, hf.sub ⟨rfl, rfl, rfl, rfl, rfl, rfl, trivial⟩, H⟩
   ·replace hB929 := itF hb hB929
    refine C_exit <| x_then_exit <| x_then_exit <| x_block_exit ?_
    replace H := H.f1
    replace H := H.f1
    obtain rfl := Option.some.inj hB929
    obtain rfl := hO930 _ rfl
    refine x_A fun a hf => ⟨rfl, hf.sub ⟨rfl, rfl, rfl, trivial⟩, H⟩
 ·rintro a wd1011 ⟨rfl, hf, H⟩
  try dsimp only at hF
  refine XX.at hf <| x_then ?_
  obtain ⟨o1013, ho1013, hF⟩ := bnd hF
  refine C_cut (fun a w' => ∃ (x1012 : Bool), x1012 = o1013 ∧ Fr 80 a [(1, .pointer (some ⟨b517, 0, none⟩)), (3, .pointer (some ⟨b519, 0, none⟩)), (4, .func (.func 74) #[] [.pointer (some ⟨b519, 0, none⟩)].toArray), (8, .bool x1012)] ∧ Hp C w' ρ (Box b517 [v1, v4] :: Box b519 [.int .i64 (x2.length : Int)] :: hs)) ?_ ?_
  ·refine R_nd <| nq (v := .pointer (some ⟨b517, 1, none⟩)) (Q_fld Tryz.underlying25 rfl ty23 (by decide) rfl rfl) rfl rfl <| nq (v := v4) (Q_ldB (k := 0) (cs := [v4]) H.ok rfl ty23 rfl rfl rfl (fun _ => rfl) rfl) rfl rfl <| nq (Q_len Tryz.underlying23 rfl r6) rfl rfl <| nq (Q_geq rfl rfl) rfl rfl <| nq (Q_move rfl) rfl rfl ?_
   rcases Bool.eq_false_or_eq_true (decide ((x5.length : Int) ≥ 1)) with hb | hb
   ·rw [hb]
    replace ho1013 := itT hb ho1013
    refine gq (v := .pointer (some ⟨b517, 1, none⟩)) (Q_fld Tryz.underlying25 rfl ty23 (by decide) rfl rfl) rfl rfl rfl <| gq (v := v4) (Q_ldB (k := 0) (cs := [v4]) H.ok rfl ty23 rfl rfl rfl (fun _ => rfl) rfl) rfl rfl rfl <| gq (Q_len Tryz.underlying23 rfl r6) rfl rfl rfl <| gq (Q_leq rfl rfl) rfl rfl rfl <| nq (Q_pickT rfl rfl) rfl rfl <| nq (Q_assign rfl) rfl rfl <| WL_nil ?_
    replace H := H.f1
    replace H := H.f1
    obtain rfl := Option.some.inj ho1013
    refine x_A fun a hf => ⟨decide ((x5.length : Int) ≤ 8), rfl, hf.sub ⟨rfl, rfl, rfl, rfl, trivial⟩, H⟩
   ·rw [hb]
    replace ho1013 := itF hb ho1013
    refine gs rfl rfl rfl rfl <| gs rfl rfl rfl rfl <| gs rfl rfl rfl rfl <| gs rfl rfl rfl rfl <| nq (Q_pickF rfl rfl) rfl rfl <| nq (Q_assign rfl) rfl rfl <| WL_nil ?_
    replace H := H.f1
    replace H := H.f1
    obtain rfl := Option.some.inj ho1013
    refine x_A fun a hf => ⟨false, rfl, hf.sub ⟨rfl, rfl, rfl, rfl, trivial⟩, H⟩
  ·rintro a wd1014 ⟨x1012, rfl, hf, H⟩
   try dsimp only at hF
   refine CW.at hf ?_
   obtain ⟨o1020, ho1020, hF⟩ := bnd hF
   refine C_cut (fun a w' => ∃ (x1019 : Bool), x1019 = o1020 ∧ Fr 80 a [(2, .bool x1019)] ∧ Hp C w' ρ (hs)) ?_ ?_
   ·refine R_nd <| nq (Q_move rfl) rfl rfl <| nq (Q_move rfl) rfl rfl ?_
    rcases Bool.eq_false_or_eq_true x1012 with hb | hb
    ·rw [hb]
     replace ho1020 := itT hb ho1020
     refine gq (v := .int .i64 (x2.length : Int)) (Q_ldB (k := 1) (cs := [.int .i64 (x2.length : Int)]) H.ok rfl ty3 rfl rfl rfl (fun _ => rfl) rfl) rfl rfl rfl <| gq (Q_geq rfl rfl) rfl rfl rfl <| nq (Q_pickT rfl rfl) rfl rfl <| nq (Q_move rfl) rfl rfl ?_
     rcases Bool.eq_false_or_eq_true (decide ((x2.length : Int) ≥ 1)) with hb | hb
     ·rw [hb]
      replace ho1020 := itT hb ho1020
      refine gq (v := .int .i64 (x2.length : Int)) (Q_ldB (k := 1) (cs := [.int .i64 (x2.length : Int)]) H.ok rfl ty3 rfl rfl rfl (fun _ => rfl) rfl) rfl rfl rfl <| gq (Q_leq rfl rfl) rfl rfl rfl <| nq (Q_pickT rfl rfl) rfl rfl <| nq (Q_move rfl) rfl rfl ?_
      rcases Bool.eq_false_or_eq_true (decide ((x2.length : Int) ≤ 4000)) with hb | hb
      ·rw [hb]
       replace ho1020 := itT hb ho1020
       refine gq (v := .pointer (some ⟨b517, 1, none⟩)) (Q_fld Tryz.underlying25 rfl ty23 (by decide) rfl rfl) rfl rfl rfl <| gq (v := v4) (Q_ldB (k := 0) (cs := [v4]) H.ok rfl ty23 rfl rfl rfl (fun _ => rfl) rfl) rfl rfl rfl <| gq (Q_move rfl) rfl rfl rfl ?_
       replace H := H.f1
       obtain ⟨q1021, hq1021, ho1020⟩ := bnd ho1020
       refine ge (E_call fn76 rfl (c_76_2 H gle  r6 hq1021)) rfl rfl rfl ?_
       rintro _ wd1024 ⟨x1023, rfl, rfl, H⟩
       try dsimp only at ho1020
       refine gq (Q_not rfl) rfl rfl rfl <| nq (Q_pickT rfl rfl) rfl rfl <| nq (Q_assign rfl) rfl rfl <| WL_nil ?_
       replace H := H.drop 0 rfl
       dsimp only [List.eraseIdx] at H
       replace H := H.drop 0 rfl
       dsimp only [List.eraseIdx] at H
       obtain rfl := Option.some.inj ho1020
       refine x_A fun a hf => ⟨!x1023, rfl, hf.sub ⟨rfl, trivial⟩, H⟩
      ·rw [hb]
       replace ho1020 := itF hb ho1020
       refine gs rfl rfl rfl rfl <| gs rfl rfl rfl rfl <| gs rfl rfl rfl rfl <| gs rfl rfl rfl rfl <| gs rfl rfl rfl rfl <| nq (Q_pickF rfl rfl) rfl rfl <| nq (Q_assign rfl) rfl rfl <| WL_nil ?_
       replace H := H.drop 0 rfl
       dsimp only [List.eraseIdx] at H
       replace H := H.drop 0 rfl
       dsimp only [List.eraseIdx] at H
       obtain rfl := Option.some.inj ho1020
       refine x_A fun a hf => ⟨false, rfl, hf.sub ⟨rfl, trivial⟩, H⟩
     ·rw [hb]
      replace ho1020 := itF hb ho1020
      refine gs rfl rfl rfl rfl <| gs rfl rfl rfl rfl <| nq (Q_pickF rfl rfl) rfl rfl <| nq (Q_move rfl) rfl rfl <| gs rfl rfl rfl rfl <| gs rfl rfl rfl rfl <| gs rfl rfl rfl rfl <| gs rfl rfl rfl rfl <| gs rfl rfl rfl rfl <| nq (Q_pickF rfl rfl) rfl rfl <| nq (Q_assign rfl) rfl rfl <| WL_nil ?_
      replace H := H.drop 0 rfl
      dsimp only [List.eraseIdx] at H
      replace H := H.drop 0 rfl
      dsimp only [List.eraseIdx] at H
      obtain rfl := Option.some.inj ho1020
      refine x_A fun a hf => ⟨false, rfl, hf.sub ⟨rfl, trivial⟩, H⟩
    ·rw [hb]
     replace ho1020 := itF hb ho1020
     refine gs rfl rfl rfl rfl <| gs rfl rfl rfl rfl <| nq (Q_pickF rfl rfl) rfl rfl <| nq (Q_move rfl) rfl rfl <| gs rfl rfl rfl rfl <| gs rfl rfl rfl rfl <| nq (Q_pickF rfl rfl) rfl rfl <| nq (Q_move rfl) rfl rfl <| gs rfl rfl rfl rfl <| gs rfl rfl rfl rfl <| gs rfl rfl rfl rfl <| gs rfl rfl rfl rfl <| gs rfl rfl rfl rfl <| nq (Q_pickF rfl rfl) rfl rfl ?_
     refine nq (Q_assign rfl) rfl rfl <| WL_nil ?_
     replace H := H.drop 0 rfl
     dsimp only [List.eraseIdx] at H
     replace H := H.drop 0 rfl
     dsimp only [List.eraseIdx] at H
     obtain rfl := Option.some.inj ho1020
     refine x_A fun a hf => ⟨false, rfl, hf.sub ⟨rfl, trivial⟩, H⟩
   ·rintro a wd1025 ⟨x1019, rfl, hf, H⟩
    try dsimp only at hF
    refine CW.at hf <| C_ret ?_
    obtain rfl := Option.some.inj hF
    exact fn_ret (l := [.tmp 2]) (vs := [.bool x1019]) rfl rfl rfl ⟨x1019, rfl, rfl, H⟩
theorem c_131 {N : Nat} {C : Cx} {w : World} {ρ : View} {hs : List Hl} {gV : Nat → Value} {b1 : Nat} {c2 : List Value} {v5 : Value} {x3 : (List Int)} {x6 : Int} (H : Hp C w ρ (Box b1 [v5, .int .i64 x6] :: Arr v5 1 c2 :: hs)) (_gle : GErrs ρ 394 errIds gV) (_r4 : rdL (eI .u64) ρ x3 c2) {r : Unit} (hF : F_marks_Marks_own N x3 x6 = some r) :
  Calls Tryz.prog 131 [.pointer (some ⟨b1, 0, none⟩)].toArray w (Rets (fun v w' => (() = r ∧ v5 = v ∧ Hp C w' ρ (Box b1 [v5, .int .i64 x6] :: Arr v5 1 c2 :: hs)))) := by
 unfold F_marks_Marks_own at hF
 have h0 : Tryz.f131.body = some _ := rfl
 refine fn_calls' Tryz.func131 h0 (n := 9) rfl (by simp) <| C_seq <| R_nd <| nq (Q_assign rfl) rfl rfl <| WL_nil <| x_then <| C_seq <| C_seq <| R_nd <| nq (Q_move rfl) rfl rfl <| nq (v := .bool false) (Q_eqlP (o := (some ⟨b1, 0, none⟩)) Tryz.underlying51 rfl) rfl rfl <| WL_nil <| x_then ?_
 refine C_cond rfl (fun h => nomatch h) (fun _ => ?_)
 refine C_skip <| x_then <| C_seq <| R_nd <| nq (Q_move rfl) rfl rfl <| nq (Q_nilP rfl) rfl rfl <| nq (v := .pointer (some ⟨b1, 0, none⟩)) (Q_fld Tryz.underlying139 rfl ty137 (by decide) rfl rfl) rfl rfl <| nq (v := v5) (Q_ldB (k := 0) (cs := [v5]) H.ok rfl ty137 rfl rfl rfl (fun _ => rfl) rfl) rfl rfl <| nq (Q_assign rfl) rfl rfl <| WL_nil <| x_then <| C_ret ?_
 replace H := H.f1
 replace H := H.f1
 obtain rfl := Option.some.inj hF
 exact fn_ret (l := [.tmp 2]) (vs := [v5]) rfl rfl rfl ⟨rfl, rfl, H⟩
theorem c_132 {N : Nat} {C : Cx} {w : World} {ρ : View} {hs : List Hl} {gV : Nat → Value} {x1 : Int} (H : Hp C w ρ (hs)) (_gle : GErrs ρ 394 errIds gV) (gl18 : GTab ρ 18 .u8 tab_math_bits_deBruijn64tab) {r : Int} (hF : F_math_bits_TrailingZeros64 N x1 = some r) :
  Calls Tryz.prog 132 [.int .u64 x1].toArray w (Rets (fun v w' => (∃ (x4 : Int), x4 = r ∧ .int .i64 x4 = v ∧ Hp C w' ρ (hs)))) := by
 unfold F_math_bits_TrailingZeros64 at hF
 have h0 : Tryz.f132.body = some _ := rfl
 refine fn_calls' Tryz.func132 h0 (n := 14) rfl (by simp) <| C_seq <| R_nd <| nq (Q_assign rfl) rfl rfl <| WL_nil <| x_then <| C_seq <| C_seq <| R_nd <| nq (Q_move rfl) rfl rfl <| nq (Q_eql rfl rfl) rfl rfl <| WL_nil <| x_then ?_
 refine C_cond rfl (fun hb => ?_) (fun hb => ?_)
 ·replace hF := itT hb hF
  refine C_seq <| R_nd <| nq (Q_assign rfl) rfl rfl <| WL_nil <| x_then <| C_ret <| x_then_ret ?_
  obtain rfl := Option.some.inj hF
  exact fn_ret (l := [.tmp 2]) (vs := [.int .i64 64]) rfl rfl rfl ⟨64, rfl, rfl, H⟩
 ·replace hF := itF hb hF
  refine C_skip <| x_then <| C_seq <| R_nd <| nq (Q_move rfl) rfl rfl <| nq (Q_move rfl) rfl rfl <| nq (v := .int .u64 (IntKind.wrap .u64 (0 - x1))) (Q_neg rfl) rfl rfl <| nq (Q_and rfl rfl) rfl rfl <| nq (Q_mul rfl rfl) rfl rfl <| nq (Q_shr rfl rfl (by decide)) rfl rfl ?_
  obtain ⟨x5, hx5, hF⟩ := bnd hF
  have hn6 := idx_lt (N := 64) (xs := tab_math_bits_deBruijn64tab) rfl hx5
  refine nq (Q_idxA hn6.1 hn6.2 Tryz.underlying260 ty5 rfl rfl) rfl rfl <| nq (v := .int .u8 x5) (Q_ld ((GTab.at gl18 hx5).up H.ok.view) ty5 rfl (fun _ => rfl) rfl rfl) rfl rfl <| nq (Q_cvI ⟨_, Tryz.underlying5⟩ Tryz.underlying3 rfl) rfl rfl <| nq (Q_assign rfl) rfl rfl <| WL_nil <| x_then <| C_ret ?_
  obtain rfl := Option.some.inj hF
  exact fn_ret (l := [.tmp 2]) (vs := [.int .i64 (IntKind.wrap .i64 x5)]) rfl rfl rfl ⟨IntKind.wrap .i64 x5, rfl, rfl, H⟩
theorem c_83 {N : Nat} {C : Cx} {w : World} {ρ : View} {hs : List Hl} {gV : Nat → Value} {b1 : Nat} {c2 : List Value} {v5 : Value} {x3 : (List Int)} {x6 : Int} {x7 : Int} (H : Hp C w ρ (Box b1 [v5, .int .i64 x6] :: Arr v5 1 c2 :: hs)) (gle : GErrs ρ 394 errIds gV) (gl18 : GTab ρ 18 .u8 tab_math_bits_deBruijn64tab) (r4 : rdL (eI .u64) ρ x3 c2) {r : Int} (hF : F_marks_Marks_After N x3 x6 x7 = some r) :
  Calls Tryz.prog 83 [.pointer (some ⟨b1, 0, none⟩), .int .i64 x7].toArray w (Rets (fun v w' => (∃ (x233 : Int), x233 = r ∧ .int .i64 x233 = v ∧ Hp C w' ρ (Box b1 [v5, .int .i64 x6] :: Arr v5 1 c2 :: hs)))) := by
 unfold F_marks_Marks_After at hF
 have h0 : Tryz.f83.body = some _ := rfl
 refine fn_calls' Tryz.func83 h0 (n := 48) rfl (by simp) <| C_seq <| R_nd <| nq (Q_assign rfl) rfl rfl <| WL_nil <| x_then <| C_seq <| C_seq <| R_nd <| nq (Q_move rfl) rfl rfl <| nq (Q_move rfl) rfl rfl ?_
 replace H := H.f1
 replace H := H.f1
 obtain ⟨q234, hq234, hF⟩ := bnd hF
 refine ne (E_call fn87 rfl (c_87 H gle  r4 hq234)) rfl rfl ?_
 rintro _ wd236 ⟨rfl, rfl, H⟩
 try dsimp only at hF
 refine nq (Q_geq rfl rfl) rfl rfl <| WL_nil <| x_then ?_
 refine C_cond rfl (fun hb => ?_) (fun hb => ?_)
 ·replace hF := itT hb hF
  refine C_seq <| R_nd <| nq (Q_assign rfl) rfl rfl <| WL_nil <| x_then <| C_ret <| x_then_ret ?_
  replace H := H.f1
  replace H := H.f1
  obtain rfl := Option.some.inj hF
  exact fn_ret (l := [.tmp 4]) (vs := [.int .i64 (-1)]) rfl rfl rfl ⟨(-1), rfl, rfl, H⟩
 ·replace hF := itF hb hF
  refine C_skip <| x_then <| C_seq <| R_nd <| nq (Q_move rfl) rfl rfl <| nq (v := .int .i64 (imax x7 (-1))) (Q_max rfl rfl) rfl rfl <| nq (Q_add rfl rfl) rfl rfl <| nq (Q_assign rfl) rfl rfl <| WL_nil <| x_then <| C_seq <| C_seq <| R_nd <| nq (Q_move rfl) rfl rfl ?_
  refine nq (Q_quo rfl rfl (by decide)) rfl rfl <| nq (Q_assign rfl) rfl rfl <| WL_nil <| x_then ?_
  obtain ⟨o367, ho367, hF⟩ := bnd hF
  refine C_cutQ (fun a w' => .inl () = o367 ∧ Fr 48 a [] ∧ Hp C w' ρ (Box b1 [v5, .int .i64 x6] :: Arr v5 1 c2 :: hs)) ?_ ?_
  ·refine C_block ?_
   replace H := H.f1
   replace H := H.f1
   refine C_iter (f := fun s => F_marks_Marks_After_l0 N x3 x6 x7 s) ho367 (fun s a w' => ∃ (x410 : Int), x410 = s ∧ Fr 48 a [(0, .pointer (some ⟨b1, 0, none⟩)), (1, .int .i64 (w64 ((imax x7 (-1)) + 1))), (5, .int .i64 x410)] ∧ Hp C w' ρ (Box b1 [v5, .int .i64 x6] :: Arr v5 1 c2 :: hs)) ?_ ?_
   ·exact fun a hf => ⟨w64 ((w64 ((imax x7 (-1)) + 1)).tdiv 64), rfl, hf.sub ⟨rfl, rfl, rfl, trivial⟩, H⟩
   ·rintro s o453 a wd456 ⟨x410, rfl, hf, H⟩ hB454 hO455
    replace hB454 : F_marks_Marks_After_l0 N x3 x6 x7 x410 = some o453 := hB454
    unfold F_marks_Marks_After_l0 at hB454
    refine CW.at hf <| C_seq <| C_seq <| R_nd <| nq (Q_move rfl) rfl rfl <| nq (Q_move rfl) rfl rfl ?_
    replace H := H.f1
    replace H := H.f1
    obtain ⟨q457, hq457, hB454⟩ := bnd hB454
    refine ne (E_call fn131 rfl (c_131 H gle  r4 hq457)) rfl rfl ?_
    rintro _ wd459 ⟨rfl, rfl, H⟩
    try dsimp only at hB454
    refine nq (Q_lenA (k := 1) H.ok rfl r4 (by decide) Tryz.underlying137 rfl) rfl rfl <| nq (Q_lss rfl rfl) rfl rfl <| WL_nil <| x_then ?_
    refine C_cond rfl (fun hb => ?_) (fun hb => ?_)
    ·replace hB454 := itT hb hB454
     refine C_skip <| x_then ?_
     obtain ⟨o478, ho478, hB454⟩ := bnd hB454
     refine C_cut (fun a w' => .inl () = o478 ∧ Fr 48 a [(0, .pointer (some ⟨b1, 0, none⟩)), (1, .int .i64 (w64 ((imax x7 (-1)) + 1))), (5, .int .i64 x410)] ∧ Hp C w' ρ (Box b1 [v5, .int .i64 x6] :: Arr v5 1 c2 :: hs)) ?_ ?_
     ·refine C_block <| C_seq <| R_nd <| nq (Q_move rfl) rfl rfl <| nq (Q_nilP rfl) rfl rfl <| nq (v := .pointer (some ⟨b1, 0, none⟩)) (Q_fld Tryz.underlying139 rfl ty137 (by decide) rfl rfl) rfl rfl <| nq (v := v5) (Q_ldB (k := 0) (cs := [v5]) H.ok rfl ty137 rfl rfl rfl (fun _ => rfl) rfl) rfl rfl <| nq (Q_move rfl) rfl rfl ?_
      obtain ⟨x479, hx479, ho478⟩ := bnd ho478
      obtain ⟨b480, o481, hi485, hc483, ha484⟩ := arr_at (hs := [Arr v5 1 c2]) (k := 0) (by decide) (H.okS (by simp)) rfl r4 hx479
      refine nq (Q_idx hi485 Tryz.underlying137 ty37 rfl rfl) rfl rfl <| nq (v := .int .u64 x479) (Q_ld (show cellsAt _ _ _ [.int .u64 x479] from (show _ = [_] from hc483) ▸ (ha484 _ (Ok.subS (by simp) H.ok))) ty37 rfl (fun _ => rfl) rfl rfl) rfl rfl <| nq (Q_assign rfl) rfl rfl <| WL_nil <| x_then <| C_seq <| C_seq <| R_nd <| nq (Q_move rfl) rfl rfl <| nq (Q_move rfl) rfl rfl <| nq (Q_quo rfl rfl (by decide)) rfl rfl <| nq (Q_eql rfl rfl) rfl rfl <| WL_nil <| x_then ?_
      obtain ⟨o489, ho489, ho478⟩ := bnd ho478
      refine C_cutQ (fun a w' => ∃ (x488 : Int), x488 = o489 ∧ Fr 48 a [(0, .pointer (some ⟨b1, 0, none⟩)), (1, .int .i64 (w64 ((imax x7 (-1)) + 1))), (5, .int .i64 x410), (6, .int .u64 x488)] ∧ Hp C w' ρ (Box b1 [v5, .int .i64 x6] :: Arr v5 1 c2 :: hs)) ?_ ?_
      ·refine C_cond rfl (fun hb => ?_) (fun hb => ?_)
       ·replace ho489 := itT hb ho489
        refine R_nd <| nq (Q_move rfl) rfl rfl <| nq (Q_move rfl) rfl rfl <| nq (Q_rem rfl rfl (by decide)) rfl rfl ?_
        obtain ⟨x490, hx490, ho489⟩ := bnd ho489
        refine nq (Q_shr rfl rfl (nn_some hx490)) rfl rfl <| nq (Q_move rfl) rfl rfl <| nq (Q_rem rfl rfl (by decide)) rfl rfl ?_
        obtain ⟨x491, hx491, ho489⟩ := bnd ho489
        refine nq (Q_shl rfl rfl (nn_some hx491)) rfl rfl <| nq (Q_assign rfl) rfl rfl <| WL_nil ?_
        replace H := H.f1
        replace H := H.f1
        obtain rfl := Option.some.inj ho489
        refine x_A fun a hf => ⟨shlI .u64 (shrI .u64 x479 ((w64 ((imax x7 (-1)) + 1)).tmod 64)) ((w64 ((imax x7 (-1)) + 1)).tmod 64), rfl, hf.sub ⟨rfl, rfl, rfl, rfl, trivial⟩, H⟩
       ·replace ho489 := itF hb ho489
        refine C_skip ?_
        replace H := H.f1
        replace H := H.f1
        obtain rfl := Option.some.inj ho489
        refine x_A fun a hf => ⟨x479, rfl, hf.sub ⟨rfl, rfl, rfl, rfl, trivial⟩, H⟩
      ·rintro a wd492 ⟨x488, rfl, hf, H⟩
       try dsimp only at ho478
       refine XX.at hf <| x_then <| C_seq <| R_nd <| nq (Q_move rfl) rfl rfl <| nq (Q_neq rfl rfl) rfl rfl <| WL_nil <| x_then ?_
       refine C_cond rfl (fun hb => ?_) (fun hb => ?_)
       ·replace ho478 := itT hb ho478
        refine C_seq <| R_nd <| nq (Q_move rfl) rfl rfl <| nq (Q_mul rfl rfl) rfl rfl <| nq (Q_move rfl) rfl rfl ?_
        obtain ⟨q493, hq493, ho478⟩ := bnd ho478
        refine ne (E_call fn132 rfl (c_132 H gle gl18  hq493)) rfl rfl ?_
        rintro _ wd496 ⟨x495, rfl, rfl, H⟩
        try dsimp only at ho478
        refine nq (Q_add rfl rfl) rfl rfl <| nq (Q_assign rfl) rfl rfl <| WL_nil <| x_then <| C_ret <| x_block_ret <| x_then_ret <| x_then_ret <| x_block_ret <| x_then_ret <| x_then_ret ?_
        replace H := H.f1
        replace H := H.f1
        obtain rfl := Option.some.inj ho478
        obtain rfl := Option.some.inj (show some _ = some _ from hB454)
        obtain rfl := hO455 _ rfl
        obtain rfl := Option.some.inj (show some _ = some _ from hF)
        exact fn_ret (l := [.tmp 4]) (vs := [.int .i64 (w64 ((w64 (64 * x410)) + x495))]) rfl rfl rfl ⟨w64 ((w64 (64 * x410)) + x495), rfl, rfl, H⟩
       ·replace ho478 := itF hb ho478
        refine C_skip <| x_block ?_
        replace H := H.f1
        replace H := H.f1
        obtain rfl := Option.some.inj ho478
        refine x_A fun a hf => ⟨rfl, hf.sub ⟨rfl, rfl, rfl, trivial⟩, H⟩
     ·rintro a wd497 ⟨rfl, hf, H⟩
      try dsimp only at hB454
      refine CW.at hf <| R_nd <| nq (Q_move rfl) rfl rfl <| nq (Q_add rfl rfl) rfl rfl <| nq (Q_assign rfl) rfl rfl <| WL_nil ?_
      replace H := H.f1
      replace H := H.f1
      obtain rfl := Option.some.inj hB454
      refine x_A fun a hf => ⟨_, rfl, w64 (x410 + 1), rfl, hf.sub ⟨rfl, rfl, rfl, trivial⟩, H⟩
    ·replace hB454 := itF hb hB454
     refine C_exit <| x_then_exit <| x_then_exit <| x_block_exit ?_
     replace H := H.f1
     replace H := H.f1
     obtain rfl := Option.some.inj hB454
     obtain rfl := hO455 _ rfl
     refine x_A fun a hf => ⟨rfl, hf.sub trivial, H⟩
  ·rintro a wd498 ⟨rfl, hf, H⟩
   try dsimp only at hF
   refine XX.at hf <| x_then <| C_seq <| R_nd <| nq (Q_assign rfl) rfl rfl <| WL_nil <| x_then <| C_ret ?_
   replace H := H.f1
   replace H := H.f1
   obtain rfl := Option.some.inj hF
   exact fn_ret (l := [.tmp 4]) (vs := [.int .i64 (-1)]) rfl rfl rfl ⟨(-1), rfl, rfl, H⟩
theorem c_130 {N : Nat} {C : Cx} {w : World} {ρ : View} {hs : List Hl} {gV : Nat → Value} {v1 : Value} {v4 : Value} {x2 : (List ((List Int) × (Int × Int × Int × Int) × Int × Int))} {x5 : (List Int)} (H : Hp C w ρ (hs)) (gle : GErrs ρ 394 errIds gV) (r3 : RdSl ρ (eP (eL (eI .i64)) (eP (eP (eI .u64) (eP (eI .u64) (eP (eI .u64) (eI .u64)))) (eP (eI .i64) (eI .i64)))) v1 x2) (_r6 : RdSl ρ (eI .i64) v4 x5) {r : (List Int)} (hF : F_walk_walker_none N x2 x5 = some r) :
  Calls Tryz.prog 130 [.agg #[v1, v4]].toArray w (Rets (fun v w' => (∃ (b17 : Nat) (v18 : Value) (c19 : (List Value)) (x20 : (List Int)), x20 = r ∧ .pointer (some ⟨b17, 0, none⟩) = v ∧ rdL (eI .u64) ρ x20 c19 ∧ Hp C w' ρ (Box b17 [v18, .int .i64 (x2.length : Int)] :: Arr v18 1 c19 :: hs)))) := by
 unfold F_walk_walker_none at hF
 have h0 : Tryz.f130.body = some _ := rfl
 refine fn_calls' Tryz.func130 h0 (n := 16) rfl (by simp) <| C_seq <| R_nd <| ne (E_box H (vs := [v1, v4]) rfl rfl) rfl rfl ?_
 rintro _ wd23 ⟨b22, rfl, H⟩
 refine nq (Q_assign rfl) rfl rfl <| WL_nil <| x_then <| C_seq <| R_nd <| nq (v := .pointer (some ⟨b22, 0, none⟩)) (Q_fld Tryz.underlying135 rfl ty25 (by decide) rfl rfl) rfl rfl <| nq (v := .pointer (some ⟨b22, 0, none⟩)) (Q_fld Tryz.underlying25 rfl ty22 (by decide) rfl rfl) rfl rfl <| nq (v := v1) (Q_ldB (k := 0) (cs := [v1]) H.ok rfl ty22 rfl rfl rfl (fun _ => rfl) rfl) rfl rfl <| nq (Q_len Tryz.underlying22 rfl r3) rfl rfl ?_
 obtain ⟨q24, hq24, hF⟩ := bnd hF
 refine ne (E_call fn28 rfl (c_28 H gle   hq24)) rfl rfl ?_
 rintro _ wd31 (⟨rfl, rfl, H⟩ | ⟨b26, v27, c28, x29, rfl, rfl, r30, H⟩)
 ·try dsimp only at hF
  refine nq (Q_move rfl) rfl rfl <| nq (Q_extract rfl rfl) rfl rfl <| nq (Q_extract rfl rfl) rfl rfl <| nq (Q_assign rfl) rfl rfl <| nq (Q_assign rfl) rfl rfl <| WL_nil <| x_then <| C_seq <| C_seq <| R_nd <| nq (Q_move rfl) rfl rfl <| nq (v := .bool true) (Q_known (by decide) (Q_neqV Tryz.underlying53 gle rfl)) rfl rfl <| WL_nil <| x_then ?_
  refine C_cond rfl (fun _ => ?_) (fun h => nomatch h)
  refine C_seq <| R_nd <| nq (Q_assign rfl) rfl rfl <| WL_nil <| x_then <| C_ret <| x_then_ret ?_
  cases hF
 ·try dsimp only at hF
  refine nq (Q_move rfl) rfl rfl <| nq (Q_extract rfl rfl) rfl rfl <| nq (Q_extract rfl rfl) rfl rfl <| nq (Q_assign rfl) rfl rfl <| nq (Q_assign rfl) rfl rfl <| WL_nil <| x_then <| C_seq <| C_seq <| R_nd <| nq (Q_move rfl) rfl rfl <| nq (v := .bool false) (Q_known (by decide) (Q_neqV Tryz.underlying53 gle rfl)) rfl rfl <| WL_nil <| x_then ?_
  refine C_cond rfl (fun h => nomatch h) (fun _ => ?_)
  refine C_skip <| x_then <| C_seq <| R_nd <| nq (Q_move rfl) rfl rfl <| nq (Q_assign rfl) rfl rfl <| WL_nil <| x_then <| C_ret ?_
  replace H := H.f1
  replace H := H.f1
  replace H := H.drop 2 rfl
  dsimp only [List.eraseIdx] at H
  obtain rfl := Option.some.inj hF
  exact fn_ret (l := [.tmp 2]) (vs := [.pointer (some ⟨b26, 0, none⟩)]) rfl rfl rfl ⟨b26, v27, c28, x29, rfl, rfl, r30, H⟩
theorem c_82_1 {N : Nat} {C : Cx} {w : World} {ρ : View} {hs : List Hl} {gV : Nat → Value} {v1 : Value} {v4 : Value} {c7 : List Value} {v10 : Value} {x2 : (List ((List Int) × (Int × Int × Int × Int) × Int × Int))} {x5 : (List Int)} {x8 : (List Int)} (H : Hp C w ρ (Arr v10 1 c7 :: hs)) (gle : GErrs ρ 394 errIds gV) (r3 : RdSl ρ (eP (eL (eI .i64)) (eP (eP (eI .u64) (eP (eI .u64) (eP (eI .u64) (eI .u64)))) (eP (eI .i64) (eI .i64)))) v1 x2) (r6 : RdSl ρ (eI .i64) v4 x5) (r9 : rdL (eI .i64) ρ x8 c7) {r : ((List Int) × (List Int))} (hF : F_walk_walker_closed_1 N x2 x5 x8 = some r) :
  Calls Tryz.prog 82 [.agg #[v1, v4], v10].toArray w (Rets (fun v w' => (∃ (v986 : Value) (c987 : (List Value)) (b990 : Nat) (v991 : Value) (c992 : (List Value)) (x988 : (List Int)) (x993 : (List Int)), (x988, x993) = r ∧ .pointer (some ⟨b990, 0, none⟩) = v ∧ rdL (eI .i64) ρ x988 c987 ∧ rdL (eI .u64) ρ x993 c992 ∧ Hp C w' ρ (Arr v986 1 c987 :: Box b990 [v991, .int .i64 (x2.length : Int)] :: Arr v991 1 c992 :: hs)))) := by
 unfold F_walk_walker_closed_1 at hF
 have h0 : Tryz.f82.body = some _ := rfl
 refine fn_calls' Tryz.func82 h0 (n := 38) rfl (by simp) <| C_seq <| R_nd <| ne (E_box H (vs := [v1, v4]) rfl rfl) rfl rfl ?_
 rintro _ wd996 ⟨b995, rfl, H⟩
 refine nq (Q_assign rfl) rfl rfl <| WL_nil <| x_then <| C_seq <| R_nd <| nq (v := .agg #[v1, v4]) (Q_ldB (k := 0) (cs := [v1, v4]) H.ok rfl ty135 rfl rfl rfl (fun h => nomatch h) rfl) rfl rfl ?_
 obtain ⟨q997, hq997, hF⟩ := bnd hF
 refine ne (E_call fn130 rfl (c_130 H gle  r3 r6 hq997)) rfl rfl ?_
 rintro _ wd1004 ⟨b999, v1000, c1001, x1002, rfl, rfl, r1003, H⟩
 try dsimp only at hF
 refine nq (Q_assign rfl) rfl rfl <| WL_nil <| x_then <| C_seq <| R_nd <| nq (Q_move rfl) rfl rfl <| nq (Q_assign rfl) rfl rfl <| WL_nil <| x_then ?_
 obtain ⟨o1490, ho1490, hF⟩ := bnd hF
 refine C_cut (fun a w' => ∃ (v1483 : Value) (c1484 : (List Value)) (c1487 : (List Value)) (x1485 : (List Int)) (x1488 : (List Int)), (x1485, x1488) = o1490 ∧ rdL (eI .i64) ρ x1485 c1484 ∧ rdL (eI .u64) ρ x1488 c1487 ∧ Fr 38 a [(5, .pointer (some ⟨b999, 0, none⟩))] ∧ Hp C w' ρ (Arr v1483 1 c1484 :: Box b999 [v1000, .int .i64 (x2.length : Int)] :: Arr v1000 1 c1487 :: hs)) ?_ ?_
 ·refine C_block ?_
  replace H := H.f1
  replace H := H.f1
  replace H := H.f2
  replace H := H.f3
  refine C_iter (f := fun s => F_walk_walker_closed_1_l0 N x2 s.1 s.2) ho1490 (fun s a w' => ∃ (v1649 : Value) (c1650 : (List Value)) (c1653 : (List Value)) (x1651 : (List Int)) (x1654 : (List Int)), (x1651, x1654) = s ∧ rdL (eI .i64) ρ x1651 c1650 ∧ rdL (eI .u64) ρ x1654 c1653 ∧ Fr 38 a [(2, .pointer (some ⟨b995, 0, none⟩)), (5, .pointer (some ⟨b999, 0, none⟩)), (6, v1649)] ∧ Hp C w' ρ (Arr v1649 1 c1650 :: Box b995 [v1, v4] :: Box b999 [v1000, .int .i64 (x2.length : Int)] :: Arr v1000 1 c1653 :: hs)) ?_ ?_
  ·exact fun a hf => ⟨v10, c7, c1001, x8, x1002, rfl, r9, r1003, hf.sub ⟨rfl, rfl, rfl, trivial⟩, H⟩
  ·rintro s o1814 a wd1817 ⟨v1649, c1650, c1653, x1651, x1654, rfl, r1652, r1655, hf, H⟩ hB1815 hO1816
   replace hB1815 : F_walk_walker_closed_1_l0 N x2 x1651 x1654 = some o1814 := hB1815
   unfold F_walk_walker_closed_1_l0 at hB1815
   refine CW.at hf <| C_seq <| C_seq <| R_nd <| nq (Q_move rfl) rfl rfl <| nq (Q_lenA (k := 0) H.ok rfl r1652 (by decide) Tryz.underlying23 rfl) rfl rfl <| nq (Q_gtr rfl rfl) rfl rfl <| WL_nil <| x_then ?_
   refine C_cond rfl (fun hb => ?_) (fun hb => ?_)
   ·replace hB1815 := itT hb hB1815
    refine C_skip <| x_then ?_
    obtain ⟨o1896, ho1896, hB1815⟩ := bnd hB1815
    refine C_cutQ (fun a w' => ∃ (v1889 : Value) (c1890 : (List Value)) (c1893 : (List Value)) (x1891 : (List Int)) (x1894 : (List Int)), (x1891, x1894) = o1896 ∧ rdL (eI .i64) ρ x1891 c1890 ∧ rdL (eI .u64) ρ x1894 c1893 ∧ Fr 38 a [(2, .pointer (some ⟨b995, 0, none⟩)), (5, .pointer (some ⟨b999, 0, none⟩)), (6, v1889)] ∧ Hp C w' ρ (Arr v1889 1 c1890 :: Box b995 [v1, v4] :: Box b999 [v1000, .int .i64 (x2.length : Int)] :: Arr v1000 1 c1893 :: hs)) ?_ ?_
    ·refine C_block <| C_seq <| R_nd <| nq (Q_move rfl) rfl rfl <| nq (Q_move rfl) rfl rfl <| nq (Q_lenA (k := 0) H.ok rfl r1652 (by decide) Tryz.underlying23 rfl) rfl rfl <| nq (Q_sub rfl rfl) rfl rfl ?_
     obtain ⟨x1897, hx1897, ho1896⟩ := bnd ho1896
     obtain ⟨b1898, o1899, hi1903, hc1901, ha1902⟩ := arr_at (hs := [Arr v1649 1 c1650]) (k := 0) (by decide) (H.okS (by simp)) rfl r1652 hx1897
     refine nq (Q_idx hi1903 Tryz.underlying23 ty3 rfl rfl) rfl rfl <| nq (v := .int .i64 x1897) (Q_ld (show cellsAt _ _ _ [.int .i64 x1897] from (show _ = [_] from hc1901) ▸ (ha1902 _ (Ok.subS (by simp) H.ok))) ty3 rfl (fun _ => rfl) rfl rfl) rfl rfl <| nq (Q_assign rfl) rfl rfl <| WL_nil <| x_then <| C_seq <| R_nd <| nq (Q_move rfl) rfl rfl <| nq (Q_move rfl) rfl rfl <| nq (Q_lenA (k := 0) H.ok rfl r1652 (by decide) Tryz.underlying23 rfl) rfl rfl <| nq (Q_sub rfl rfl) rfl rfl ?_
     obtain ⟨x1904, hx1904, ho1896⟩ := bnd ho1896
     obtain ⟨v1906, c1909, H, r1907, hq1910⟩ := sliceW (P := Tryz.prog) (en := (eI .i64)) (k := 0) H rfl (by decide) r1652 hx1904
     dsimp only [List.set] at H
     refine nq (v := v1906) (hq1910 _ _ _ _ _ _ _ _ _ _ _ _ _ _ _ Tryz.underlying23 ty3 rfl rfl ⟨_, rfl⟩) rfl rfl <| nq (Q_assign rfl) rfl rfl <| WL_nil <| x_then <| C_seq <| R_nd <| nq (Q_move rfl) rfl rfl <| nq (Q_move rfl) rfl rfl ?_
     replace H := H.f3
     replace H := H.f3
     obtain ⟨q1911, hq1911, ho1896⟩ := bnd ho1896
     refine ne (E_call fn29 rfl (c_29 H gle  r1655 hq1911)) rfl rfl ?_
     rintro _ wd1917 ⟨c1913, x1914, x1915, rfl, rfl, r1916, H⟩
     try dsimp only at ho1896
     refine WL_nil <| x_then ?_
     obtain ⟨o1944, ho1944, ho1896⟩ := bnd ho1896
     refine C_cutQ (fun a w' => ∃ (v1940 : Value) (c1941 : (List Value)) (x1942 : (List Int)), x1942 = o1944 ∧ rdL (eI .i64) ρ x1942 c1941 ∧ Fr 38 a [(2, .pointer (some ⟨b995, 0, none⟩)), (5, .pointer (some ⟨b999, 0, none⟩)), (6, v1940)] ∧ Hp C w' ρ (Arr v1940 1 c1941 :: Box b995 [v1, v4] :: Box b999 [v1000, .int .i64 (x2.length : Int)] :: Arr v1000 1 c1913 :: hs)) ?_ ?_
     ·refine C_cond rfl (fun hb => ?_) (fun hb => ?_)
      ·replace ho1944 := itT hb ho1944
       refine R_nd <| nq (Q_move rfl) rfl rfl <| nq (v := .pointer (some ⟨b995, 0, none⟩)) (Q_fld Tryz.underlying135 rfl ty25 (by decide) rfl rfl) rfl rfl <| nq (v := .pointer (some ⟨b995, 0, none⟩)) (Q_fld Tryz.underlying25 rfl ty22 (by decide) rfl rfl) rfl rfl <| nq (v := v1) (Q_ldB (k := 3) (cs := [v1]) H.ok rfl ty22 rfl rfl rfl (fun _ => rfl) rfl) rfl rfl <| nq (Q_move rfl) rfl rfl ?_
       obtain ⟨x1945, hx1945, ho1944⟩ := bnd ho1944
       obtain ⟨b1946, o1947, c1948, hc1949, ha1950, hi1951⟩ := idxR r3 hx1945
       refine nq (Q_idx hi1951 Tryz.underlying22 ty41 rfl rfl) rfl rfl <| nq (v := .pointer (some ⟨b1946, o1947 + 0, none⟩)) (Q_fld Tryz.underlying41 rfl ty23 (by decide) rfl (Addr.add_none _ _ _)) rfl rfl ?_
       obtain ⟨c1952, hc1953, ha1954⟩ := fstR hc1949 ha1950
       obtain ⟨v1955, he1956, r1957⟩ := (id hc1953)
       refine nq (v := v1955) (Q_ld (show cellsAt _ _ _ [v1955] from he1956 ▸ (ha1954.up H.ok.view)) ty23 rfl (fun _ => rfl) rfl rfl) rfl rfl ?_
       obtain ⟨x1958, hx1958, ho1944⟩ := bnd ho1944
       obtain ⟨ha1959a, ha1959b⟩ := app_some hx1958
       obtain ⟨c1960, r1961, hs1962⟩ := Src.ofRd H.ok r1957
       have r1964 : rdL (eI .i64) ρ x1958 (c1909 ++ c1960) := ha1959b ▸ rdL.app r1907 r1961
       refine ne (E_append (k := 2) H rfl Tryz.underlying23 ty3 rfl (by decide) (by decide) rfl rfl hs1962 (rdL.one r1961) (app_fit r1907 r1961 ha1959a)) rfl rfl ?_
       rintro v1963 wd1966 ⟨H, hc1965⟩
       dsimp only [List.set] at H
       refine nq (Q_assign rfl) rfl rfl <| WL_nil ?_
       replace H := H.f1
       replace H := H.f1
       replace H := H.f3
       replace H := H.f3
       obtain rfl := Option.some.inj ho1944
       refine x_A fun a hf => ⟨v1963, (c1909 ++ c1960), x1958, rfl, r1964, hf.sub ⟨rfl, rfl, rfl, trivial⟩, H⟩
      ·replace ho1944 := itF hb ho1944
       refine C_skip ?_
       replace H := H.f1
       replace H := H.f1
       replace H := H.f3
       replace H := H.f3
       obtain rfl := Option.some.inj ho1944
       refine x_A fun a hf => ⟨v1906, c1909, x1904, rfl, r1907, hf.sub ⟨rfl, rfl, rfl, trivial⟩, H⟩
     ·rintro a wd1967 ⟨v1940, c1941, x1942, rfl, r1943, hf, H⟩
      try dsimp only at ho1896
      refine XX.at hf <| x_block ?_
      replace H := H.f3
      replace H := H.f3
      replace H := H.f3
      replace H := H.f3
      obtain rfl := Option.some.inj ho1896
      refine x_A fun a hf => ⟨v1940, c1941, c1913, x1942, x1914, rfl, r1943, r1916, hf.sub ⟨rfl, rfl, rfl, trivial⟩, H⟩
    ·rintro a wd1968 ⟨v1889, c1890, c1893, x1891, x1894, rfl, r1892, r1895, hf, H⟩
     try dsimp only at hB1815
     refine XX.at hf ?_
     replace H := H.f3
     replace H := H.f3
     replace H := H.f3
     replace H := H.f3
     obtain rfl := Option.some.inj hB1815
     refine x_A fun a hf => ⟨_, rfl, v1889, c1890, c1893, x1891, x1894, rfl, r1892, r1895, hf.sub ⟨rfl, rfl, rfl, trivial⟩, H⟩
   ·replace hB1815 := itF hb hB1815
    refine C_exit <| x_then_exit <| x_then_exit <| x_block_exit ?_
    replace H := H.f3
    replace H := H.f3
    replace H := H.f2
    replace H := H.drop 3 rfl
    dsimp only [List.eraseIdx] at H
    obtain rfl := Option.some.inj hB1815
    obtain rfl := hO1816 _ rfl
    refine x_A fun a hf => ⟨v1649, c1650, c1653, x1651, x1654, rfl, r1652, r1655, hf.sub ⟨rfl, trivial⟩, H⟩
 ·rintro a wd1969 ⟨v1483, c1484, c1487, x1485, x1488, rfl, r1486, r1489, hf, H⟩
  try dsimp only at hF
  refine CW.at hf <| C_seq <| R_nd <| nq (Q_move rfl) rfl rfl <| nq (Q_assign rfl) rfl rfl <| WL_nil <| x_then <| C_ret ?_
  replace H := H.f2
  replace H := H.f2
  replace H := H.f2
  obtain rfl := Option.some.inj hF
  exact fn_ret (l := [.tmp 4]) (vs := [.pointer (some ⟨b999, 0, none⟩)]) rfl rfl rfl ⟨v1483, c1484, b999, v1000, c1487, x1485, x1488, rfl, rfl, r1486, r1489, H⟩
theorem c_84 {N : Nat} {C : Cx} {w : World} {ρ : View} {hs : List Hl} {gV : Nat → Value} {v1 : Value} {v4 : Value} {x2 : (List ((List Int) × (Int × Int × Int × Int) × Int × Int))} {x5 : (List Int)} {x7 : Int} (H : Hp C w ρ (hs)) (gle : GErrs ρ 394 errIds gV) (r3 : RdSl ρ (eP (eL (eI .i64)) (eP (eP (eI .u64) (eP (eI .u64) (eP (eI .u64) (eI .u64)))) (eP (eI .i64) (eI .i64)))) v1 x2) (r6 : RdSl ρ (eI .i64) v4 x5) {r : (List Int)} (hF : F_walk_walker_begin N x2 x5 x7 = some r) :
  Calls Tryz.prog 84 [.agg #[v1, v4], .int .i64 x7].toArray w (Rets (fun v w' => (∃ (b42 : Nat) (v43 : Value) (c44 : (List Value)) (x45 : (List Int)), x45 = r ∧ .pointer (some ⟨b42, 0, none⟩) = v ∧ rdL (eI .u64) ρ x45 c44 ∧ Hp C w' ρ (Box b42 [v43, .int .i64 (x2.length : Int)] :: Arr v43 1 c44 :: hs)))) := by
 unfold F_walk_walker_begin at hF
 have h0 : Tryz.f84.body = some _ := rfl
 refine fn_calls' Tryz.func84 h0 (n := 26) rfl (by simp) <| C_seq <| R_nd <| ne (E_box H (vs := [v1, v4]) rfl rfl) rfl rfl ?_
 rintro _ wd48 ⟨b47, rfl, H⟩
 refine nq (Q_assign rfl) rfl rfl <| WL_nil <| x_then <| C_seq ?_
 obtain ⟨o50, ho50, hF⟩ := bnd hF
 refine C_cut (fun a w' => ∃ (x49 : Bool), x49 = o50 ∧ Fr 26 a [(1, .int .i64 x7), (2, .pointer (some ⟨b47, 0, none⟩)), (14, .bool x49)] ∧ Hp C w' ρ (Box b47 [v1, v4] :: hs)) ?_ ?_
 ·refine R_nd <| nq (Q_move rfl) rfl rfl <| nq (Q_lss rfl rfl) rfl rfl <| nq (Q_move rfl) rfl rfl ?_
  rcases Bool.eq_false_or_eq_true (decide (x7 < 0)) with hb | hb
  ·rw [hb]
   replace ho50 := itT hb ho50
   refine gs rfl rfl rfl rfl <| gs rfl rfl rfl rfl <| gs rfl rfl rfl rfl <| gs rfl rfl rfl rfl <| gs rfl rfl rfl rfl <| gs rfl rfl rfl rfl <| nq (Q_pickT rfl rfl) rfl rfl <| WL_nil ?_
   obtain rfl := Option.some.inj ho50
   refine x_A fun a hf => ⟨true, rfl, hf.sub ⟨rfl, rfl, rfl, trivial⟩, H⟩
  ·rw [hb]
   replace ho50 := itF hb ho50
   refine gq (Q_move rfl) rfl rfl rfl <| gq (v := .pointer (some ⟨b47, 0, none⟩)) (Q_fld Tryz.underlying135 rfl ty25 (by decide) rfl rfl) rfl rfl rfl <| gq (v := .pointer (some ⟨b47, 1, none⟩)) (Q_fld Tryz.underlying25 rfl ty23 (by decide) rfl rfl) rfl rfl rfl <| gq (v := v4) (Q_ldB (k := 0) (cs := [v4]) H.ok rfl ty23 rfl rfl rfl (fun _ => rfl) rfl) rfl rfl rfl <| gq (Q_len Tryz.underlying23 rfl r6) rfl rfl rfl <| gq (Q_geq rfl rfl) rfl rfl rfl <| nq (Q_pickF rfl rfl) rfl rfl <| WL_nil ?_
   obtain rfl := Option.some.inj ho50
   refine x_A fun a hf => ⟨decide (x7 ≥ (x5.length : Int)), rfl, hf.sub ⟨rfl, rfl, rfl, trivial⟩, H⟩
 ·rintro a wd51 ⟨x49, rfl, hf, H⟩
  try dsimp only at hF
  refine CW.at hf ?_
  refine C_cond rfl (fun hb => ?_) (fun hb => ?_)
  ·replace hF := itT hb hF
   refine C_seq <| R_nd <| nq (v := .agg #[v1, v4]) (Q_ldB (k := 0) (cs := [v1, v4]) H.ok rfl ty135 rfl rfl rfl (fun h => nomatch h) rfl) rfl rfl ?_
   obtain ⟨q52, hq52, hF⟩ := bnd hF
   refine ne (E_call fn130 rfl (c_130 H gle  r3 r6 hq52)) rfl rfl ?_
   rintro _ wd59 ⟨b54, v55, c56, x57, rfl, rfl, r58, H⟩
   try dsimp only at hF
   refine nq (Q_assign rfl) rfl rfl <| WL_nil <| x_then <| C_ret <| x_then_ret ?_
   replace H := H.f1
   replace H := H.f1
   replace H := H.drop 2 rfl
   dsimp only [List.eraseIdx] at H
   obtain rfl := Option.some.inj hF
   exact fn_ret (l := [.tmp 4]) (vs := [.pointer (some ⟨b54, 0, none⟩)]) rfl rfl rfl ⟨b54, v55, c56, x57, rfl, rfl, r58, H⟩
  ·replace hF := itF hb hF
   refine C_skip <| x_then <| C_seq <| R_dr (.take 0 (.take 1 (.take 2 (.take 3 (.take 4 (.take 5 (.take 6 (.one 7 (.one 8 (.take 9 .done)))))))))) (fun w' => Ok w' ρ [Box b47 [v1, v4]]) (by kernel_rfl) (by kernel_rfl) (by kernel_rfl) (H.drew.okS (by simp)) ?_
   replace H := H.drew
   refine dq (v := .agg #[v1, v4]) rfl (fun _ hw => Q_ldB (k := 0) (cs := [v1, v4]) hw rfl ty135 rfl rfl rfl (fun h => nomatch h) rfl) rfl rfl <| dq (v := .pointer (some ⟨b47, 0, none⟩)) rfl (fun _ _ => Q_fld Tryz.underlying135 rfl ty25 (by decide) rfl rfl) rfl rfl <| dq (v := .pointer (some ⟨b47, 1, none⟩)) rfl (fun _ _ => Q_fld Tryz.underlying25 rfl ty23 (by decide) rfl rfl) rfl rfl <| dq (v := v4) rfl (fun _ hw => Q_ldB (k := 0) (cs := [v4]) hw rfl ty23 rfl rfl rfl (fun _ => rfl) rfl) rfl rfl <| dq rfl (fun _ _ => Q_move rfl) rfl rfl ?_
   obtain ⟨x60, hx60, hF⟩ := bnd hF
   obtain ⟨b61, o62, c63, hc64, ha65, hi66⟩ := idxR r6 hx60
   refine dq rfl (fun _ _ => Q_idx hi66 Tryz.underlying23 ty3 rfl rfl) rfl rfl <| dq (v := .int .i64 x60) rfl (fun _ hw => Q_ld (show cellsAt _ _ _ [.int .i64 x60] from (show _ = [_] from hc64) ▸ (ha65.up hw.view)) ty3 rfl (fun _ => rfl) rfl rfl) rfl rfl ?_
   refine d1 (de rfl (E_bslice (xs := [.tmp 23]) (vs := [.int .i64 x60]) H Tryz.underlying23 ty3 (by decide) (cs := [.int .i64 x60]) rfl (sz_cons rfl sz_nil) rfl (by simp) (by simp) rfl rfl) rfl rfl ?_)
   rintro _ wd68 ⟨b67, rfl, H⟩
   refine ⟨H.okS (by simp), ?_⟩
   obtain ⟨q69, hq69, hF⟩ := bnd hF
   refine d1 (de rfl (E_call fn82 rfl (c_82_1 H gle  r3 r6 (show rdL (eI .i64) ρ ([x60]) ([.int .i64 x60]) from ⟨([.int .i64 x60]), _, rfl, rfl, rdL.nil⟩) hq69)) rfl rfl ?_)
   rintro _ wd80 ⟨v71, c72, b73, v74, c75, x76, x77, rfl, rfl, r78, r79, H⟩
   try dsimp only at hF
   refine ⟨H.okS (by simp), ?_⟩
   refine dq rfl (fun _ _ => Q_assign rfl) rfl rfl <| DL_nil <| x_then <| C_ret ?_
   replace H := H.f2
   replace H := H.f2
   replace H := H.drop 2 rfl
   dsimp only [List.eraseIdx] at H
   replace H := H.drop 2 rfl
   dsimp only [List.eraseIdx] at H
   obtain rfl := Option.some.inj hF
   exact fn_ret (l := [.tmp 4]) (vs := [.pointer (some ⟨b73, 0, none⟩)]) rfl rfl rfl ⟨b73, v74, c75, x77, rfl, rfl, r79, H⟩
theorem c_85 {N : Nat} {C : Cx} {w : World} {ρ : View} {hs : List Hl} {gV : Nat → Value} {v1 : Value} {v4 : Value} {b7 : Nat} {c8 : List Value} {v11 : Value} {x2 : (List ((List Int) × (Int × Int × Int × Int) × Int × Int))} {x5 : (List Int)} {x9 : (List Int)} {x12 : Int} (H : Hp C w ρ (Box b7 [v11, .int .i64 x12] :: Arr v11 1 c8 :: hs)) (gle : GErrs ρ 394 errIds gV) (gl18 : GTab ρ 18 .u8 tab_math_bits_deBruijn64tab) (r3 : RdSl ρ (eP (eL (eI .i64)) (eP (eP (eI .u64) (eP (eI .u64) (eP (eI .u64) (eI .u64)))) (eP (eI .i64) (eI .i64)))) v1 x2) (_r6 : RdSl ρ (eI .i64) v4 x5) (r10 : rdL (eI .u64) ρ x9 c8) {r : Int} (hF : F_walk_walker_rule N x2 x5 x9 x12 = some r) :
  Calls Tryz.prog 85 [.agg #[v1, v4], .pointer (some ⟨b7, 0, none⟩)].toArray w (Rets (fun v w' => (∃ (x366 : Int), x366 = r ∧ .int .i64 x366 = v ∧ Hp C w' ρ (Box b7 [v11, .int .i64 x12] :: Arr v11 1 c8 :: hs)))) := by
 unfold F_walk_walker_rule at hF
 have h0 : Tryz.f85.body = some _ := rfl
 refine fn_calls' Tryz.func85 h0 (n := 43) rfl (by simp) <| C_seq <| R_nd <| ne (E_box H (vs := [v1, v4]) rfl rfl) rfl rfl ?_
 rintro _ wd368 ⟨b367, rfl, H⟩
 refine nq (Q_assign rfl) rfl rfl <| WL_nil <| x_then <| C_seq <| R_nd <| nq (Q_assign rfl) rfl rfl <| WL_nil <| x_then <| C_seq <| C_seq <| R_nd <| nq (Q_move rfl) rfl rfl ?_
 replace H := H.f2
 replace H := H.f2
 obtain ⟨q369, hq369, hF⟩ := bnd hF
 refine ne (E_call fn83 rfl (c_83 H gle gl18 r10 hq369)) rfl rfl ?_
 rintro _ wd372 ⟨x371, rfl, rfl, H⟩
 try dsimp only at hF
 refine nq (Q_assign rfl) rfl rfl <| WL_nil <| x_then ?_
 obtain ⟨o546, ho546, hF⟩ := bnd hF
 refine C_cutQ (fun a w' => ∃ (x545 : Int), x545 = o546 ∧ Fr 43 a [(5, .int .i64 x545)] ∧ Hp C w' ρ (Box b7 [v11, .int .i64 x12] :: Arr v11 1 c8 :: hs)) ?_ ?_
 ·refine C_block ?_
  replace H := H.f2
  replace H := H.f2
  replace H := H.f2
  refine C_iter (f := fun s => F_walk_walker_rule_l0 N x2 x9 x12 s.1 s.2) ho546 (fun s a w' => ∃ (x603 : Int) (x604 : Int), (x603, x604) = s ∧ Fr 43 a [(1, .pointer (some ⟨b7, 0, none⟩)), (2, .pointer (some ⟨b367, 0, none⟩)), (5, .int .i64 x603), (6, .int .i64 x604)] ∧ Hp C w' ρ (Box b7 [v11, .int .i64 x12] :: Arr v11 1 c8 :: Box b367 [v1, v4] :: hs)) ?_ ?_
  ·exact fun a hf => ⟨(-1), x371, rfl, hf.sub ⟨rfl, rfl, rfl, rfl, trivial⟩, H⟩
  ·rintro s o661 a wd664 ⟨x603, x604, rfl, hf, H⟩ hB662 hO663
   replace hB662 : F_walk_walker_rule_l0 N x2 x9 x12 x603 x604 = some o661 := hB662
   unfold F_walk_walker_rule_l0 at hB662
   refine CW.at hf <| C_seq ?_
   obtain ⟨o666, ho666, hB662⟩ := bnd hB662
   refine C_cut (fun a w' => ∃ (x665 : Bool), x665 = o666 ∧ Fr 43 a [(1, .pointer (some ⟨b7, 0, none⟩)), (2, .pointer (some ⟨b367, 0, none⟩)), (5, .int .i64 x603), (6, .int .i64 x604), (19, .bool x665)] ∧ Hp C w' ρ (Box b7 [v11, .int .i64 x12] :: Arr v11 1 c8 :: Box b367 [v1, v4] :: hs)) ?_ ?_
   ·refine R_nd <| nq (Q_move rfl) rfl rfl <| nq (Q_geq rfl rfl) rfl rfl <| nq (Q_move rfl) rfl rfl ?_
    rcases Bool.eq_false_or_eq_true (decide (x604 ≥ 0)) with hb | hb
    ·rw [hb]
     replace ho666 := itT hb ho666
     refine gq (Q_move rfl) rfl rfl rfl <| gq (v := .pointer (some ⟨b367, 0, none⟩)) (Q_fld Tryz.underlying135 rfl ty25 (by decide) rfl rfl) rfl rfl rfl <| gq (v := .pointer (some ⟨b367, 0, none⟩)) (Q_fld Tryz.underlying25 rfl ty22 (by decide) rfl rfl) rfl rfl rfl <| gq (v := v1) (Q_ldB (k := 2) (cs := [v1]) H.ok rfl ty22 rfl rfl rfl (fun _ => rfl) rfl) rfl rfl rfl <| gq (Q_len Tryz.underlying22 rfl r3) rfl rfl rfl <| gq (Q_lss rfl rfl) rfl rfl rfl <| nq (Q_pickT rfl rfl) rfl rfl <| WL_nil ?_
     replace H := H.f2
     replace H := H.f2
     replace H := H.f2
     obtain rfl := Option.some.inj ho666
     refine x_A fun a hf => ⟨decide (x604 < (x2.length : Int)), rfl, hf.sub ⟨rfl, rfl, rfl, rfl, rfl, trivial⟩, H⟩
    ·rw [hb]
     replace ho666 := itF hb ho666
     refine gs rfl rfl rfl rfl <| gs rfl rfl rfl rfl <| gs rfl rfl rfl rfl <| gs rfl rfl rfl rfl <| gs rfl rfl rfl rfl <| gs rfl rfl rfl rfl <| nq (Q_pickF rfl rfl) rfl rfl <| WL_nil ?_
     replace H := H.f2
     replace H := H.f2
     replace H := H.f2
     obtain rfl := Option.some.inj ho666
     refine x_A fun a hf => ⟨false, rfl, hf.sub ⟨rfl, rfl, rfl, rfl, rfl, trivial⟩, H⟩
   ·rintro a wd667 ⟨x665, rfl, hf, H⟩
    try dsimp only at hB662
    refine CW.at hf ?_
    refine C_cond rfl (fun hb => ?_) (fun hb => ?_)
    ·replace hB662 := itT hb hB662
     refine C_skip <| x_then ?_
     obtain ⟨o691, ho691, hB662⟩ := bnd hB662
     refine C_cut (fun a w' => ∃ (x690 : Int), x690 = o691 ∧ Fr 43 a [(1, .pointer (some ⟨b7, 0, none⟩)), (2, .pointer (some ⟨b367, 0, none⟩)), (5, .int .i64 x690), (6, .int .i64 x604)] ∧ Hp C w' ρ (Box b7 [v11, .int .i64 x12] :: Arr v11 1 c8 :: Box b367 [v1, v4] :: hs)) ?_ ?_
     ·refine C_block <| C_seq <| R_nd <| nq (v := .pointer (some ⟨b367, 0, none⟩)) (Q_fld Tryz.underlying135 rfl ty25 (by decide) rfl rfl) rfl rfl <| nq (v := .pointer (some ⟨b367, 0, none⟩)) (Q_fld Tryz.underlying25 rfl ty22 (by decide) rfl rfl) rfl rfl <| nq (v := v1) (Q_ldB (k := 2) (cs := [v1]) H.ok rfl ty22 rfl rfl rfl (fun _ => rfl) rfl) rfl rfl <| nq (Q_move rfl) rfl rfl ?_
      obtain ⟨x692, hx692, ho691⟩ := bnd ho691
      obtain ⟨b693, o694, c695, hc696, ha697, hi698⟩ := idxR r3 hx692
      refine nq (Q_idx hi698 Tryz.underlying22 ty41 rfl rfl) rfl rfl <| nq (v := .pointer (some ⟨b693, o694 + 6, none⟩)) (Q_fld Tryz.underlying41 rfl ty3 (by decide) rfl (Addr.add_none _ _ _)) rfl rfl ?_
      obtain ⟨c699, hc700, ha701⟩ := sndR hc696 ha697
      obtain ⟨c702, hc703, ha704⟩ := sndR hc700 ha701
      obtain ⟨c705, hc706, ha707⟩ := sndR hc703 ha704
      refine nq (v := .int .i64 x692.2.2.2) (Q_ld (show cellsAt _ _ _ [.int .i64 x692.2.2.2] from (show _ = [_] from hc706) ▸ (ha707.up H.ok.view)) ty3 rfl (fun _ => rfl) rfl rfl) rfl rfl <| nq (Q_assign rfl) rfl rfl <| WL_nil <| x_then ?_
      obtain ⟨o709, ho709, ho691⟩ := bnd ho691
      refine C_cut (fun a w' => ∃ (x708 : Bool), x708 = o709 ∧ Fr 43 a [(1, .pointer (some ⟨b7, 0, none⟩)), (2, .pointer (some ⟨b367, 0, none⟩)), (5, .int .i64 x603), (6, .int .i64 x604), (7, .int .i64 x692.2.2.2), (40, .bool x708)] ∧ Hp C w' ρ (Box b7 [v11, .int .i64 x12] :: Arr v11 1 c8 :: Box b367 [v1, v4] :: hs)) ?_ ?_
      ·refine R_nd <| nq (Q_move rfl) rfl rfl <| nq (Q_neq rfl rfl) rfl rfl <| nq (Q_move rfl) rfl rfl ?_
       rcases Bool.eq_false_or_eq_true (x692.2.2.2 != (-1)) with hb | hb
       ·rw [hb]
        replace ho709 := itT hb ho709
        refine gq (Q_move rfl) rfl rfl rfl <| gq (Q_eql rfl rfl) rfl rfl rfl <| gq (Q_move rfl) rfl rfl rfl ?_
        rcases Bool.eq_false_or_eq_true (x603 == (-1)) with hb | hb
        ·rw [hb]
         replace ho709 := itT hb ho709
         refine gs rfl rfl rfl rfl <| gs rfl rfl rfl rfl <| gs rfl rfl rfl rfl <| gq (Q_pickT rfl rfl) rfl rfl rfl <| nq (Q_pickT rfl rfl) rfl rfl <| WL_nil ?_
         replace H := H.f2
         replace H := H.f2
         replace H := H.f2
         obtain rfl := Option.some.inj ho709
         refine x_A fun a hf => ⟨true, rfl, hf.sub ⟨rfl, rfl, rfl, rfl, rfl, rfl, trivial⟩, H⟩
        ·rw [hb]
         replace ho709 := itF hb ho709
         refine gq (Q_move rfl) rfl rfl rfl <| gq (Q_move rfl) rfl rfl rfl <| gq (Q_lss rfl rfl) rfl rfl rfl <| gq (Q_pickF rfl rfl) rfl rfl rfl <| nq (Q_pickT rfl rfl) rfl rfl <| WL_nil ?_
         replace H := H.f2
         replace H := H.f2
         replace H := H.f2
         obtain rfl := Option.some.inj ho709
         refine x_A fun a hf => ⟨decide (x692.2.2.2 < x603), rfl, hf.sub ⟨rfl, rfl, rfl, rfl, rfl, rfl, trivial⟩, H⟩
       ·rw [hb]
        replace ho709 := itF hb ho709
        refine gs rfl rfl rfl rfl <| gs rfl rfl rfl rfl <| gs rfl rfl rfl rfl <| gsu rfl ⟨_, _, rfl, rfl, rfl⟩ rfl <| gsu rfl ⟨_, _, rfl, rfl, rfl⟩ rfl <| gsu rfl ⟨_, _, rfl, rfl, rfl⟩ rfl <| gs rfl rfl rfl rfl <| nq (Q_pickF rfl rfl) rfl rfl <| WL_nil ?_
        replace H := H.f2
        replace H := H.f2
        replace H := H.f2
        obtain rfl := Option.some.inj ho709
        refine x_A fun a hf => ⟨false, rfl, hf.sub ⟨rfl, rfl, rfl, rfl, rfl, rfl, trivial⟩, H⟩
      ·rintro a wd710 ⟨x708, rfl, hf, H⟩
       try dsimp only at ho691
       refine CW.at hf ?_
       obtain ⟨o712, ho712, ho691⟩ := bnd ho691
       refine C_cutQ (fun a w' => ∃ (x711 : Int), x711 = o712 ∧ Fr 43 a [(1, .pointer (some ⟨b7, 0, none⟩)), (2, .pointer (some ⟨b367, 0, none⟩)), (5, .int .i64 x711), (6, .int .i64 x604)] ∧ Hp C w' ρ (Box b7 [v11, .int .i64 x12] :: Arr v11 1 c8 :: Box b367 [v1, v4] :: hs)) ?_ ?_
       ·refine C_cond rfl (fun hb => ?_) (fun hb => ?_)
        ·replace ho712 := itT hb ho712
         refine R_nd <| nq (Q_move rfl) rfl rfl <| nq (Q_assign rfl) rfl rfl <| WL_nil ?_
         replace H := H.f2
         replace H := H.f2
         replace H := H.f2
         obtain rfl := Option.some.inj ho712
         refine x_A fun a hf => ⟨x692.2.2.2, rfl, hf.sub ⟨rfl, rfl, rfl, rfl, trivial⟩, H⟩
        ·replace ho712 := itF hb ho712
         refine C_skip ?_
         replace H := H.f2
         replace H := H.f2
         replace H := H.f2
         obtain rfl := Option.some.inj ho712
         refine x_A fun a hf => ⟨x603, rfl, hf.sub ⟨rfl, rfl, rfl, rfl, trivial⟩, H⟩
       ·rintro a wd713 ⟨x711, rfl, hf, H⟩
        try dsimp only at ho691
        refine XX.at hf <| x_block ?_
        replace H := H.f2
        replace H := H.f2
        replace H := H.f2
        obtain rfl := Option.some.inj ho691
        refine x_A fun a hf => ⟨x711, rfl, hf.sub ⟨rfl, rfl, rfl, rfl, trivial⟩, H⟩
     ·rintro a wd714 ⟨x690, rfl, hf, H⟩
      try dsimp only at hB662
      refine CW.at hf <| R_nd <| nq (Q_move rfl) rfl rfl <| nq (Q_move rfl) rfl rfl ?_
      replace H := H.f1
      replace H := H.f1
      obtain ⟨q715, hq715, hB662⟩ := bnd hB662
      refine ne (E_call fn83 rfl (c_83 H gle gl18 r10 hq715)) rfl rfl ?_
      rintro _ wd718 ⟨x717, rfl, rfl, H⟩
      try dsimp only at hB662
      refine nq (Q_assign rfl) rfl rfl <| WL_nil ?_
      replace H := H.f2
      replace H := H.f2
      replace H := H.f2
      obtain rfl := Option.some.inj hB662
      refine x_A fun a hf => ⟨_, rfl, x690, x717, rfl, hf.sub ⟨rfl, rfl, rfl, rfl, trivial⟩, H⟩
    ·replace hB662 := itF hb hB662
     refine C_exit <| x_then_exit <| x_then_exit <| x_block_exit ?_
     replace H := H.f1
     replace H := H.f1
     replace H := H.drop 2 rfl
     dsimp only [List.eraseIdx] at H
     obtain rfl := Option.some.inj hB662
     obtain rfl := hO663 _ rfl
     refine x_A fun a hf => ⟨x603, rfl, hf.sub ⟨rfl, trivial⟩, H⟩
 ·rintro a wd719 ⟨x545, rfl, hf, H⟩
  try dsimp only at hF
  refine XX.at hf <| x_then <| C_seq <| R_nd <| nq (Q_move rfl) rfl rfl <| nq (Q_assign rfl) rfl rfl <| WL_nil <| x_then <| C_ret ?_
  replace H := H.f1
  replace H := H.f1
  obtain rfl := Option.some.inj hF
  exact fn_ret (l := [.tmp 4]) (vs := [.int .i64 x545]) rfl rfl rfl ⟨x545, rfl, rfl, H⟩
theorem c_133 {N : Nat} {C : Cx} {w : World} {ρ : View} {hs : List Hl} {gV : Nat → Value} {x1 : Int} {x2 : Int} {x3 : Int} {x4 : Int} {x5 : Int} (H : Hp C w ρ (hs)) (_gle : GErrs ρ 394 errIds gV) {r : Bool} (hF : F_sets_Set_Has N x1 x2 x3 x4 x5 = some r) :
  Calls Tryz.prog 133 [.agg #[.int .u64 x1, .int .u64 x2, .int .u64 x3, .int .u64 x4], .int .u8 x5].toArray w (Rets (fun v w' => (∃ (x11 : Bool), x11 = r ∧ .bool x11 = v ∧ Hp C w' ρ (hs)))) := by
 unfold F_sets_Set_Has at hF
 have h0 : Tryz.f133.body = some _ := rfl
 refine fn_calls' Tryz.func133 h0 (n := 14) rfl (by simp) <| C_seq <| R_nd <| ne (E_box H (vs := [.int .u64 x1, .int .u64 x2, .int .u64 x3, .int .u64 x4]) rfl rfl) rfl rfl ?_
 rintro _ wd13 ⟨b12, rfl, H⟩
 refine nq (Q_assign rfl) rfl rfl <| WL_nil <| x_then <| C_seq <| R_nd <| nq (Q_move rfl) rfl rfl <| nq (Q_quo rfl rfl (by decide)) rfl rfl ?_
 obtain ⟨x14, hx14, hF⟩ := bnd hF
 have hn15 := idx_lt (N := 4) (xs := [x1, x2, x3, x4]) rfl hx14
 refine nq (v := .pointer (some ⟨b12, 0 + (IntKind.wrap .u8 (x5.tdiv 64)).toNat * 1, none⟩)) (Q_idxA hn15.1 hn15.2 Tryz.underlying39 ty37 rfl rfl) rfl rfl <| nq (v := .int .u64 x14) (Q_ldX (j := 0) (o := 0) (k := .u64) (xs := [x1, x2, x3, x4]) H.ok rfl ty37 rfl rfl hx14) rfl rfl <| nq (Q_move rfl) rfl rfl <| nq (Q_rem rfl rfl (by decide)) rfl rfl ?_
 obtain ⟨x16, hx16, hF⟩ := bnd hF
 refine nq (Q_shr rfl rfl (nn_some hx16)) rfl rfl <| nq (Q_and rfl rfl) rfl rfl <| nq (Q_eql rfl rfl) rfl rfl <| nq (Q_assign rfl) rfl rfl <| WL_nil <| x_then <| C_ret ?_
 replace H := H.drop 0 rfl
 dsimp only [List.eraseIdx] at H
 obtain rfl := Option.some.inj hF
 exact fn_ret (l := [.tmp 4]) (vs := [.bool ((iand .u64 (shrI .u64 x14 (x5.tmod 64)) 1) == 1)]) rfl rfl rfl ⟨(iand .u64 (shrI .u64 x14 (x5.tmod 64)) 1) == 1, rfl, rfl, H⟩
theorem c_86 {N : Nat} {C : Cx} {w : World} {ρ : View} {hs : List Hl} {gV : Nat → Value} {v1 : Value} {v4 : Value} {b7 : Nat} {c8 : List Value} {v11 : Value} {x2 : (List ((List Int) × (Int × Int × Int × Int) × Int × Int))} {x5 : (List Int)} {x9 : (List Int)} {x12 : Int} {x13 : Int} (H : Hp C w ρ (Box b7 [v11, .int .i64 x12] :: Arr v11 1 c8 :: hs)) (gle : GErrs ρ 394 errIds gV) (gl18 : GTab ρ 18 .u8 tab_math_bits_deBruijn64tab) (r3 : RdSl ρ (eP (eL (eI .i64)) (eP (eP (eI .u64) (eP (eI .u64) (eP (eI .u64) (eI .u64)))) (eP (eI .i64) (eI .i64)))) v1 x2) (r6 : RdSl ρ (eI .i64) v4 x5) (r10 : rdL (eI .u64) ρ x9 c8) {r : (List Int)} (hF : F_walk_walker_step N x2 x5 x9 x12 x13 = some r) :
  Calls Tryz.prog 86 [.agg #[v1, v4], .pointer (some ⟨b7, 0, none⟩), .int .u8 x13].toArray w (Rets (fun v w' => (∃ (b982 : Nat) (v983 : Value) (c984 : (List Value)) (x985 : (List Int)), x985 = r ∧ .pointer (some ⟨b982, 0, none⟩) = v ∧ rdL (eI .u64) ρ x985 c984 ∧ Hp C w' ρ (Box b7 [v11, .int .i64 x12] :: Arr v11 1 c8 :: Box b982 [v983, .int .i64 (x2.length : Int)] :: Arr v983 1 c984 :: hs)))) := by
 unfold F_walk_walker_step at hF
 have h0 : Tryz.f86.body = some _ := rfl
 refine fn_calls' Tryz.func86 h0 (n := 43) rfl (by simp) <| C_seq <| R_nd <| ne (E_box H (vs := [v1, v4]) rfl rfl) rfl rfl ?_
 rintro _ wd988 ⟨b987, rfl, H⟩
 refine nq (Q_assign rfl) rfl rfl <| WL_nil <| x_then <| C_seq <| R_nd <| nq (Q_assign rfl) rfl rfl <| WL_nil <| x_then <| C_seq <| C_seq <| R_nd <| nq (Q_move rfl) rfl rfl ?_
 replace H := H.f2
 replace H := H.f2
 obtain ⟨q989, hq989, hF⟩ := bnd hF
 refine ne (E_call fn83 rfl (c_83 H gle gl18 r10 hq989)) rfl rfl ?_
 rintro _ wd992 ⟨x991, rfl, rfl, H⟩
 try dsimp only at hF
 refine nq (Q_assign rfl) rfl rfl <| WL_nil <| x_then ?_
 obtain ⟨o1469, ho1469, hF⟩ := bnd hF
 refine C_cutQ (fun a w' => ∃ (v1465 : Value) (c1466 : (List Value)) (x1467 : (List Int)), x1467 = o1469 ∧ rdL (eI .i64) ρ x1467 c1466 ∧ Fr 43 a [(3, .pointer (some ⟨b987, 0, none⟩)), (7, v1465)] ∧ Hp C w' ρ (Box b7 [v11, .int .i64 x12] :: Arr v11 1 c8 :: Box b987 [v1, v4] :: Arr v1465 1 c1466 :: hs)) ?_ ?_
 ·refine C_block ?_
  have H := H.nilArr 1
  replace H := H.f3
  replace H := H.f3
  replace H := H.f3
  refine C_iter (f := fun s => F_walk_walker_step_l0 N x2 x9 x12 x13 s.1 s.2) ho1469 (fun s a w' => ∃ (v1626 : Value) (c1627 : (List Value)) (x1628 : (List Int)) (x1630 : Int), (x1628, x1630) = s ∧ rdL (eI .i64) ρ x1628 c1627 ∧ Fr 43 a [(1, .pointer (some ⟨b7, 0, none⟩)), (2, .int .u8 x13), (3, .pointer (some ⟨b987, 0, none⟩)), (7, v1626), (8, .int .i64 x1630)] ∧ Hp C w' ρ (Box b7 [v11, .int .i64 x12] :: Arr v11 1 c8 :: Box b987 [v1, v4] :: Arr v1626 1 c1627 :: hs)) ?_ ?_
  ·exact fun a hf => ⟨(.slice none 0 0), [], [], x991, rfl, rdL.nil, hf.sub ⟨rfl, rfl, rfl, rfl, rfl, trivial⟩, H⟩
  ·rintro s o1787 a wd1790 ⟨v1626, c1627, x1628, x1630, rfl, r1629, hf, H⟩ hB1788 hO1789
   replace hB1788 : F_walk_walker_step_l0 N x2 x9 x12 x13 x1628 x1630 = some o1787 := hB1788
   unfold F_walk_walker_step_l0 at hB1788
   refine CW.at hf <| C_seq ?_
   obtain ⟨o1792, ho1792, hB1788⟩ := bnd hB1788
   refine C_cut (fun a w' => ∃ (x1791 : Bool), x1791 = o1792 ∧ Fr 43 a [(1, .pointer (some ⟨b7, 0, none⟩)), (2, .int .u8 x13), (3, .pointer (some ⟨b987, 0, none⟩)), (7, v1626), (8, .int .i64 x1630), (21, .bool x1791)] ∧ Hp C w' ρ (Box b7 [v11, .int .i64 x12] :: Arr v11 1 c8 :: Box b987 [v1, v4] :: Arr v1626 1 c1627 :: hs)) ?_ ?_
   ·refine R_nd <| nq (Q_move rfl) rfl rfl <| nq (Q_geq rfl rfl) rfl rfl <| nq (Q_move rfl) rfl rfl ?_
    rcases Bool.eq_false_or_eq_true (decide (x1630 ≥ 0)) with hb | hb
    ·rw [hb]
     replace ho1792 := itT hb ho1792
     refine gq (Q_move rfl) rfl rfl rfl <| gq (v := .pointer (some ⟨b987, 0, none⟩)) (Q_fld Tryz.underlying135 rfl ty25 (by decide) rfl rfl) rfl rfl rfl <| gq (v := .pointer (some ⟨b987, 0, none⟩)) (Q_fld Tryz.underlying25 rfl ty22 (by decide) rfl rfl) rfl rfl rfl <| gq (v := v1) (Q_ldB (k := 2) (cs := [v1]) H.ok rfl ty22 rfl rfl rfl (fun _ => rfl) rfl) rfl rfl rfl <| gq (Q_len Tryz.underlying22 rfl r3) rfl rfl rfl <| gq (Q_lss rfl rfl) rfl rfl rfl <| nq (Q_pickT rfl rfl) rfl rfl <| WL_nil ?_
     replace H := H.f3
     replace H := H.f3
     replace H := H.f3
     replace H := H.f3
     obtain rfl := Option.some.inj ho1792
     refine x_A fun a hf => ⟨decide (x1630 < (x2.length : Int)), rfl, hf.sub ⟨rfl, rfl, rfl, rfl, rfl, rfl, trivial⟩, H⟩
    ·rw [hb]
     replace ho1792 := itF hb ho1792
     refine gs rfl rfl rfl rfl <| gs rfl rfl rfl rfl <| gs rfl rfl rfl rfl <| gs rfl rfl rfl rfl <| gs rfl rfl rfl rfl <| gs rfl rfl rfl rfl <| nq (Q_pickF rfl rfl) rfl rfl <| WL_nil ?_
     replace H := H.f3
     replace H := H.f3
     replace H := H.f3
     replace H := H.f3
     obtain rfl := Option.some.inj ho1792
     refine x_A fun a hf => ⟨false, rfl, hf.sub ⟨rfl, rfl, rfl, rfl, rfl, rfl, trivial⟩, H⟩
   ·rintro a wd1793 ⟨x1791, rfl, hf, H⟩
    try dsimp only at hB1788
    refine CW.at hf ?_
    refine C_cond rfl (fun hb => ?_) (fun hb => ?_)
    ·replace hB1788 := itT hb hB1788
     refine C_skip <| x_then ?_
     obtain ⟨o1867, ho1867, hB1788⟩ := bnd hB1788
     refine C_cut (fun a w' => ∃ (v1863 : Value) (c1864 : (List Value)) (x1865 : (List Int)), x1865 = o1867 ∧ rdL (eI .i64) ρ x1865 c1864 ∧ Fr 43 a [(1, .pointer (some ⟨b7, 0, none⟩)), (2, .int .u8 x13), (3, .pointer (some ⟨b987, 0, none⟩)), (7, v1863), (8, .int .i64 x1630)] ∧ Hp C w' ρ (Box b7 [v11, .int .i64 x12] :: Arr v11 1 c8 :: Box b987 [v1, v4] :: Arr v1863 1 c1864 :: hs)) ?_ ?_
     ·refine C_block <| C_seq <| R_nd <| nq (v := .pointer (some ⟨b987, 0, none⟩)) (Q_fld Tryz.underlying135 rfl ty25 (by decide) rfl rfl) rfl rfl <| nq (v := .pointer (some ⟨b987, 0, none⟩)) (Q_fld Tryz.underlying25 rfl ty22 (by decide) rfl rfl) rfl rfl <| nq (v := v1) (Q_ldB (k := 2) (cs := [v1]) H.ok rfl ty22 rfl rfl rfl (fun _ => rfl) rfl) rfl rfl <| nq (Q_move rfl) rfl rfl ?_
      obtain ⟨x1868, hx1868, ho1867⟩ := bnd ho1867
      obtain ⟨b1869, o1870, c1871, hc1872, ha1873, hi1874⟩ := idxR r3 hx1868
      refine nq (Q_idx hi1874 Tryz.underlying22 ty41 rfl rfl) rfl rfl ?_
      obtain ⟨c1875, c1876, he1877, hc1878, hc1879⟩ := (id hc1872)
      obtain ⟨v1880, he1881, r1882⟩ := hc1878
      obtain ⟨c1883, c1884, he1885, hc1886, hc1887⟩ := hc1879
      obtain ⟨c1888, c1889, he1890, hc1891, hc1892⟩ := hc1886
      obtain ⟨c1893, c1894, he1895, hc1896, hc1897⟩ := hc1892
      obtain ⟨c1898, c1899, he1900, hc1901, hc1902⟩ := hc1897
      obtain ⟨c1903, c1904, he1905, hc1906, hc1907⟩ := hc1887
      refine nq (v := .agg #[v1880, .int .u64 x1868.2.1.1, .int .u64 x1868.2.1.2.1, .int .u64 x1868.2.1.2.2.1, .int .u64 x1868.2.1.2.2.2, .int .i64 x1868.2.2.1, .int .i64 x1868.2.2.2]) (Q_ld (show cellsAt _ _ _ [v1880, .int .u64 x1868.2.1.1, .int .u64 x1868.2.1.2.1, .int .u64 x1868.2.1.2.2.1, .int .u64 x1868.2.1.2.2.2, .int .i64 x1868.2.2.1, .int .i64 x1868.2.2.2] from cellsAt.cg (cat2 he1877 he1881 (cat2 he1885 (cat2 he1890 (rdI hc1891) (cat2 he1895 (rdI hc1896) (cat2 he1900 (rdI hc1901) (rdI hc1902)))) (cat2 he1905 (rdI hc1906) (rdI hc1907)))) (ha1873.up H.ok.view)) ty41 rfl (fun h => nomatch h) rfl rfl) rfl rfl <| ne (E_alloc H ty41 (zs := [.slice none 0 0, .int .u64 0, .int .u64 0, .int .u64 0, .int .u64 0, .int .i64 0, .int .i64 0]) rfl) rfl rfl ?_
      rintro _ wd1909 ⟨b1908, rfl, H⟩
      refine ne (E_stB (k := 0) (cs := [v1880, .int .u64 x1868.2.1.1, .int .u64 x1868.2.1.2.1, .int .u64 x1868.2.1.2.2.1, .int .u64 x1868.2.1.2.2.2, .int .i64 x1868.2.2.1, .int .i64 x1868.2.2.2]) (vs' := [v1880, .int .u64 x1868.2.1.1, .int .u64 x1868.2.1.2.1, .int .u64 x1868.2.1.2.2.1, .int .u64 x1868.2.1.2.2.2, .int .i64 x1868.2.2.1, .int .i64 x1868.2.2.2]) H rfl ty41 rfl rfl rfl rfl (one_cons (RdSl.one r1882) (one_cons rfl (one_cons rfl (one_cons rfl (one_cons rfl (one_cons rfl (one_cons rfl one_nil))))))) (by simp) rfl) rfl rfl ?_
      rintro _ wd1910 H
      dsimp only [List.set] at H
      refine WL_nil <| x_then <| C_seq <| R_nd <| nq (v := .pointer (some ⟨b1908, 1, none⟩)) (Q_fld Tryz.underlying41 rfl ty39 (by decide) rfl rfl) rfl rfl <| nq (v := .agg #[.int .u64 x1868.2.1.1, .int .u64 x1868.2.1.2.1, .int .u64 x1868.2.1.2.2.1, .int .u64 x1868.2.1.2.2.2]) (Q_ldB (k := 0) (cs := [.int .u64 x1868.2.1.1, .int .u64 x1868.2.1.2.1, .int .u64 x1868.2.1.2.2.1, .int .u64 x1868.2.1.2.2.2]) H.ok rfl ty39 rfl rfl rfl (fun h => nomatch h) rfl) rfl rfl <| nq (Q_move rfl) rfl rfl ?_
      obtain ⟨q1911, hq1911, ho1867⟩ := bnd ho1867
      refine ne (E_call fn133 rfl (c_133 H gle   hq1911)) rfl rfl ?_
      rintro _ wd1914 ⟨x1913, rfl, rfl, H⟩
      try dsimp only at ho1867
      refine WL_nil <| x_then ?_
      obtain ⟨o1927, ho1927, ho1867⟩ := bnd ho1867
      refine C_cutQ (fun a w' => ∃ (v1923 : Value) (c1924 : (List Value)) (x1925 : (List Int)), x1925 = o1927 ∧ rdL (eI .i64) ρ x1925 c1924 ∧ Fr 43 a [(1, .pointer (some ⟨b7, 0, none⟩)), (2, .int .u8 x13), (3, .pointer (some ⟨b987, 0, none⟩)), (7, v1923), (8, .int .i64 x1630)] ∧ Hp C w' ρ (Box b7 [v11, .int .i64 x12] :: Arr v11 1 c8 :: Box b987 [v1, v4] :: Arr v1923 1 c1924 :: hs)) ?_ ?_
      ·refine C_cond rfl (fun hb => ?_) (fun hb => ?_)
       ·replace ho1927 := itT hb ho1927
        refine R_nd <| nq (Q_move rfl) rfl rfl <| nq (v := .pointer (some ⟨b1908, 5, none⟩)) (Q_fld Tryz.underlying41 rfl ty3 (by decide) rfl rfl) rfl rfl <| nq (v := .int .i64 x1868.2.2.1) (Q_ldB (k := 0) (cs := [.int .i64 x1868.2.2.1]) H.ok rfl ty3 rfl rfl rfl (fun _ => rfl) rfl) rfl rfl <| ne (E_bslice (xs := [.tmp 37]) (vs := [.int .i64 x1868.2.2.1]) H Tryz.underlying23 ty3 (by decide) (cs := [.int .i64 x1868.2.2.1]) rfl (sz_cons rfl sz_nil) rfl (by simp) (by simp) rfl rfl) rfl rfl ?_
        rintro _ wd1929 ⟨b1928, rfl, H⟩
        obtain ⟨x1930, hx1930, ho1927⟩ := bnd ho1927
        obtain ⟨ha1931a, ha1931b⟩ := app_some hx1930
        have r1933 : rdL (eI .i64) ρ x1930 (c1627 ++ ([.int .i64 x1868.2.2.1])) := ha1931b ▸ rdL.app r1629 (show rdL (eI .i64) ρ ([x1868.2.2.1]) ([.int .i64 x1868.2.2.1]) from ⟨([.int .i64 x1868.2.2.1]), _, rfl, rfl, rdL.nil⟩)
        refine ne (E_append (k := 5) H rfl Tryz.underlying23 ty3 rfl (by decide) (by decide) rfl rfl (Src.ofArr (k := 0) H.ok rfl) (rdL.one (show rdL (eI .i64) ρ ([x1868.2.2.1]) ([.int .i64 x1868.2.2.1]) from ⟨([.int .i64 x1868.2.2.1]), _, rfl, rfl, rdL.nil⟩)) (app_fit r1629 (show rdL (eI .i64) ρ ([x1868.2.2.1]) ([.int .i64 x1868.2.2.1]) from ⟨([.int .i64 x1868.2.2.1]), _, rfl, rfl, rdL.nil⟩) ha1931a)) rfl rfl ?_
        rintro v1932 wd1935 ⟨H, hc1934⟩
        dsimp only [List.set] at H
        refine nq (Q_assign rfl) rfl rfl <| WL_nil ?_
        replace H := H.f5
        replace H := H.f5
        replace H := H.f5
        replace H := H.f5
        replace H := H.drop 4 rfl
        dsimp only [List.eraseIdx] at H
        replace H := H.drop 4 rfl
        dsimp only [List.eraseIdx] at H
        obtain rfl := Option.some.inj ho1927
        refine x_A fun a hf => ⟨v1932, (c1627 ++ ([.int .i64 x1868.2.2.1])), x1930, rfl, r1933, hf.sub ⟨rfl, rfl, rfl, rfl, rfl, trivial⟩, H⟩
       ·replace ho1927 := itF hb ho1927
        refine C_skip ?_
        replace H := H.f4
        replace H := H.f4
        replace H := H.f4
        replace H := H.f4
        replace H := H.drop 4 rfl
        dsimp only [List.eraseIdx] at H
        obtain rfl := Option.some.inj ho1927
        refine x_A fun a hf => ⟨v1626, c1627, x1628, rfl, r1629, hf.sub ⟨rfl, rfl, rfl, rfl, rfl, trivial⟩, H⟩
      ·rintro a wd1936 ⟨v1923, c1924, x1925, rfl, r1926, hf, H⟩
       try dsimp only at ho1867
       refine XX.at hf <| x_block ?_
       replace H := H.f3
       replace H := H.f3
       replace H := H.f3
       replace H := H.f3
       obtain rfl := Option.some.inj ho1867
       refine x_A fun a hf => ⟨v1923, c1924, x1925, rfl, r1926, hf.sub ⟨rfl, rfl, rfl, rfl, rfl, trivial⟩, H⟩
     ·rintro a wd1937 ⟨v1863, c1864, x1865, rfl, r1866, hf, H⟩
      try dsimp only at hB1788
      refine CW.at hf <| R_nd <| nq (Q_move rfl) rfl rfl <| nq (Q_move rfl) rfl rfl ?_
      replace H := H.f1
      replace H := H.f1
      obtain ⟨q1938, hq1938, hB1788⟩ := bnd hB1788
      refine ne (E_call fn83 rfl (c_83 H gle gl18 r10 hq1938)) rfl rfl ?_
      rintro _ wd1941 ⟨x1940, rfl, rfl, H⟩
      try dsimp only at hB1788
      refine nq (Q_assign rfl) rfl rfl <| WL_nil ?_
      replace H := H.f3
      replace H := H.f3
      replace H := H.f3
      replace H := H.f3
      obtain rfl := Option.some.inj hB1788
      refine x_A fun a hf => ⟨_, rfl, v1863, c1864, x1865, x1940, rfl, r1866, hf.sub ⟨rfl, rfl, rfl, rfl, rfl, trivial⟩, H⟩
    ·replace hB1788 := itF hb hB1788
     refine C_exit <| x_then_exit <| x_then_exit <| x_block_exit ?_
     replace H := H.f3
     replace H := H.f3
     replace H := H.f3
     replace H := H.f3
     obtain rfl := Option.some.inj hB1788
     obtain rfl := hO1789 _ rfl
     refine x_A fun a hf => ⟨v1626, c1627, x1628, rfl, r1629, hf.sub ⟨rfl, rfl, trivial⟩, H⟩
 ·rintro a wd1942 ⟨v1465, c1466, x1467, rfl, r1468, hf, H⟩
  try dsimp only at hF
  refine XX.at hf <| x_then <| C_seq <| R_nd <| nq (v := .agg #[v1, v4]) (Q_ldB (k := 2) (cs := [v1, v4]) H.ok rfl ty135 rfl rfl rfl (fun h => nomatch h) rfl) rfl rfl <| nq (Q_move rfl) rfl rfl ?_
  replace H := H.f3
  obtain ⟨q1943, hq1943, hF⟩ := bnd hF
  refine ne (E_call fn82 rfl (c_82_1 H gle  r3 r6 r1468 hq1943)) rfl rfl ?_
  rintro _ wd1954 ⟨v1945, c1946, b1947, v1948, c1949, x1950, x1951, rfl, rfl, r1952, r1953, H⟩
  try dsimp only at hF
  refine nq (Q_assign rfl) rfl rfl <| WL_nil <| x_then <| C_ret ?_
  replace H := H.f2
  replace H := H.f2
  replace H := H.f4
  replace H := H.f4
  replace H := H.drop 4 rfl
  dsimp only [List.eraseIdx] at H
  replace H := H.drop 4 rfl
  dsimp only [List.eraseIdx] at H
  obtain rfl := Option.some.inj hF
  exact fn_ret (l := [.tmp 6]) (vs := [.pointer (some ⟨b1947, 0, none⟩)]) rfl rfl rfl ⟨b1947, v1948, c1949, x1951, rfl, rfl, r1953, H⟩
theorem c_80 {N : Nat} {C : Cx} {w : World} {ρ : View} {hs : List Hl} {gV : Nat → Value} {v1 : Value} {v4 : Value} {v8 : Value} {x2 : (List ((List Int) × (Int × Int × Int × Int) × Int × Int))} {x5 : (List Int)} {x7 : Int} {x9 : (List Int)} (H : Hp C w ρ (hs)) (_gle : GErrs ρ 394 errIds gV) (_r3 : RdSl ρ (eP (eL (eI .i64)) (eP (eP (eI .u64) (eP (eI .u64) (eP (eI .u64) (eI .u64)))) (eP (eI .i64) (eI .i64)))) v1 x2) (_r6 : RdSl ρ (eI .i64) v4 x5) (r10 : RdSl ρ (eI .u8) v8 x9) {r : Unit} (hF : F_walk_walker_run N x2 x5 x7 x9 = some r) :
  Calls Tryz.prog 80 [.agg #[v1, v4], .int .i64 x7, v8].toArray w (Rets (fun v w' => (∃ (b17 : Nat) (b18 : Nat) (b19 : Nat), () = r ∧ .func (.func 129) #[] [.pointer (some ⟨b17, 0, none⟩), .pointer (some ⟨b18, 0, none⟩), .pointer (some ⟨b19, 0, none⟩)].toArray = v ∧ Hp C w' ρ (Box b17 [v1, v4] :: Box b18 [.int .i64 x7] :: Box b19 [v8] :: hs)))) := by
 unfold F_walk_walker_run at hF
 have h0 : Tryz.f80.body = some _ := rfl
 refine fn_calls' Tryz.func80 h0 (n := 8) rfl (by simp) <| C_seq <| R_nd <| ne (E_box H (vs := [v1, v4]) rfl rfl) rfl rfl ?_
 rintro _ wd21 ⟨b20, rfl, H⟩
 refine ne (E_box H (vs := [.int .i64 x7]) rfl rfl) rfl rfl ?_
 rintro _ wd23 ⟨b22, rfl, H⟩
 refine ne (E_box H (vs := [v8]) rfl (RdSl.cells r10)) rfl rfl ?_
 rintro _ wd25 ⟨b24, rfl, H⟩
 refine nq (Q_assign rfl) rfl rfl <| WL_nil <| x_then <| C_seq <| R_nd <| nq (v := .func (.func 129) #[] [.pointer (some ⟨b20, 0, none⟩), .pointer (some ⟨b22, 0, none⟩), .pointer (some ⟨b24, 0, none⟩)].toArray) (Q_func rfl) rfl rfl <| nq (Q_assign rfl) rfl rfl <| WL_nil <| x_then <| C_ret ?_
 replace H := H.f1
 replace H := H.f2
 obtain rfl := Option.some.inj hF
 exact fn_ret (l := [.tmp 6]) (vs := [.func (.func 129) #[] [.pointer (some ⟨b20, 0, none⟩), .pointer (some ⟨b22, 0, none⟩), .pointer (some ⟨b24, 0, none⟩)].toArray]) rfl rfl rfl ⟨b20, b22, b24, rfl, rfl, H⟩
theorem c_129 {N : Nat} {C : Cx} {w : World} {ρ : View} {hs : List Hl} {gV : Nat → Value} {σ : Type} {I : View → σ → Hl → Prop} {l : Nat} {rec : Bool → σ → Loop} {A0 : Hl} {b1 : Nat} {v2 : Value} {v5 : Value} {b8 : Nat} {b10 : Nat} {v11 : Value} {Y : (Int × Int) → σ → Option (σ × Bool)} {s0 : σ} {x3 : (List ((List Int) × (Int × Int × Int × Int) × Int × Int))} {x6 : (List Int)} {x9 : Int} {x12 : (List Int)} (H : Hp C w ρ (Yd l (rec true s0) A0 :: Box b1 [v2, v5] :: Box b8 [.int .i64 x9] :: Box b10 [v11] :: hs)) (gle : GErrs ρ 394 errIds gV) (gl18 : GTab ρ 18 .u8 tab_math_bits_deBruijn64tab) (hY : YC Tryz.prog l rec I (fun _ x args => args = #[.int .i64 x.1, .int .i64 x.2]) Y ρ) (hI0 : I ρ s0 A0) (_hImono : ∀ {ρ1 ρ2 : View} {s : σ} {A : Hl}, View.le ρ1 ρ2 → I ρ1 s A → I ρ2 s A) (r4 : RdSl ρ (eP (eL (eI .i64)) (eP (eP (eI .u64) (eP (eI .u64) (eP (eI .u64) (eI .u64)))) (eP (eI .i64) (eI .i64)))) v2 x3) (r7 : RdSl ρ (eI .i64) v5 x6) (r13 : RdSl ρ (eI .u8) v11 x12) {r : (σ × Bool)} (hF : F_walk_walker_run_1 N Y s0 x3 x6 x9 x12 = some r) :
  Calls Tryz.prog 129 [.func (.yield l) #[] #[], .pointer (some ⟨b1, 0, none⟩), .pointer (some ⟨b8, 0, none⟩), .pointer (some ⟨b10, 0, none⟩)].toArray w (Rets (fun v w' => (∃ (ρ' : View) (A237 : Hl) (x238 : σ) (x239 : Bool), (x238, x239) = r ∧ .tuple [].toArray = v ∧ View.le ρ ρ' ∧ I ρ' x238 A237 ∧ Hp C w' ρ' (Yd l (rec x239 x238) A237 :: hs)))) := by
 unfold F_walk_walker_run_1 at hF
 have h0 : Tryz.f129.body = some _ := rfl
 refine fn_calls' Tryz.func129 h0 (n := 31) rfl (by simp) <| C_seq <| R_nd <| nq (v := .agg #[v2, v5]) (Q_ldB (k := 1) (cs := [v2, v5]) H.ok rfl ty135 rfl rfl rfl (fun h => nomatch h) rfl) rfl rfl <| nq (v := .int .i64 x9) (Q_ldB (k := 2) (cs := [.int .i64 x9]) H.ok rfl ty3 rfl rfl rfl (fun _ => rfl) rfl) rfl rfl ?_
 obtain ⟨q241, hq241, hF⟩ := bnd hF
 refine ne (E_call fn84 rfl (c_84 H gle  r4 r7 hq241)) rfl rfl ?_
 rintro _ wd248 ⟨b243, v244, c245, x246, rfl, rfl, r247, H⟩
 try dsimp only at hF
 refine nq (Q_assign rfl) rfl rfl <| WL_nil <| x_then <| C_seq <| R_nd <| nq (Q_assign rfl) rfl rfl <| WL_nil <| x_then ?_
 obtain ⟨o357, ho357, hF⟩ := bnd hF
 refine C_cutQ (fun a w' => ∃ (ρ' : View) (A353 : Hl) (x354 : σ) (x355 : Bool), View.le ρ ρ' ∧ (x354, x355) = o357 ∧ I ρ' x354 A353 ∧ Fr 31 a [] ∧ Hp C w' ρ' (Yd l (rec x355 x354) A353 :: Box b1 [v2, v5] :: Box b8 [.int .i64 x9] :: Box b10 [v11] :: hs)) ?_ ?_
 ·refine C_block ?_
  replace H := H.f1
  replace H := H.f1
  replace H := H.f5
  replace H := H.f5
  replace H := H.f5
  replace H := H.f5
  refine C_iter (f := fun s => F_walk_walker_run_1_l0 N Y x3 x6 x12 s.1 s.2.1 s.2.2) ho357 (fun s a w' => ∃ (ρ' : View) (A391 : Hl) (b394 : Nat) (v395 : Value) (c396 : (List Value)) (x392 : σ) (x397 : (List Int)) (x399 : Int), View.le ρ ρ' ∧ (x392, x397, x399) = s ∧ I ρ' x392 A391 ∧ rdL (eI .u64) ρ' x397 c396 ∧ Fr 31 a [(0, .func (.yield l) #[] #[]), (1, .pointer (some ⟨b1, 0, none⟩)), (3, .pointer (some ⟨b10, 0, none⟩)), (5, .pointer (some ⟨b394, 0, none⟩)), (6, .int .i64 x399)] ∧ Hp C w' ρ' (Yd l (rec true x392) A391 :: Box b1 [v2, v5] :: Box b8 [.int .i64 x9] :: Box b10 [v11] :: Box b394 [v395, .int .i64 (x3.length : Int)] :: Arr v395 1 c396 :: hs)) ?_ ?_
  ·exact fun a hf => ⟨ρ, A0, b243, v244, c245, s0, x246, 0, (View.le_refl _), rfl, hI0, r247, hf.sub ⟨rfl, rfl, rfl, rfl, rfl, trivial⟩, H⟩
  ·rintro s o433 a wd436 ⟨ρ, A391, b394, v395, c396, x392, x397, x399, lw437, rfl, hI393, r398, hf, H⟩ hB434 hO435
   replace hB434 : F_walk_walker_run_1_l0 N Y x3 x6 x12 x392 x397 x399 = some o433 := hB434
   unfold F_walk_walker_run_1_l0 at hB434
   refine CW.at hf ?_
   replace r4 := RdSl.up lw437 r4
   replace r7 := RdSl.up lw437 r7
   replace r13 := RdSl.up lw437 r13
   replace gle := GErrs.up lw437 gle
   replace gl18 := GTab.up lw437 gl18
   refine C_seq <| C_seq <| R_nd <| nq (Q_move rfl) rfl rfl <| nq (Q_move rfl) rfl rfl <| nq (v := .agg #[v2, v5]) (Q_ldB (k := 1) (cs := [v2, v5]) H.ok rfl ty135 rfl rfl rfl (fun h => nomatch h) rfl) rfl rfl <| nq (Q_move rfl) rfl rfl ?_
   replace H := H.f5
   replace H := H.f5
   obtain ⟨q438, hq438, hB434⟩ := bnd hB434
   refine ne (E_call fn85 rfl (c_85 H gle gl18 r4 r7 r398 hq438)) rfl rfl ?_
   rintro _ wd441 ⟨x440, rfl, rfl, H⟩
   try dsimp only at hB434
   replace H := H.f2
   obtain ⟨q442, hq442, hB434⟩ := bnd hB434
   refine neI (E_yield (x := (x399, x440)) (vs := [.int .i64 x399, .int .i64 x440]) hY lw437 hI393 H rfl hq442 rfl rfl) rfl rfl ?_
   rintro _ wd443 ⟨rfl, ρ, A444, lw445, hI446, H⟩
   replace r4 := RdSl.up lw445 r4
   replace r7 := RdSl.up lw445 r7
   replace r13 := RdSl.up lw445 r13
   replace r398 := rdL.up lw445 r398
   replace gle := GErrs.up lw445 gle
   replace gl18 := GTab.up lw445 gl18
   refine nq (Q_move rfl) rfl rfl ?_
   rcases Bool.eq_false_or_eq_true q442.2 with hb | hb
   ·rw [hb]
    replace hB434 := itT hb hB434
    rw [hb] at H
    refine gq (Q_move rfl) rfl rfl rfl <| gq (v := v11) (Q_ldB (k := 5) (cs := [v11]) H.ok rfl ty42 rfl rfl rfl (fun _ => rfl) rfl) rfl rfl rfl <| gq (Q_len Tryz.underlying42 rfl r13) rfl rfl rfl <| gq (Q_lss rfl rfl) rfl rfl rfl <| nq (Q_pickT rfl rfl) rfl rfl <| WL_nil <| x_then ?_
    refine C_cond rfl (fun hb => ?_) (fun hb => ?_)
    ·replace hB434 := itT hb hB434
     refine C_skip <| x_then <| C_seq <| C_block <| R_dr (.take 0 (.take 1 (.take 2 (.take 3 (.take 4 (.take 5 (.one 6 (.take 7 .done)))))))) (fun w' => Ok w' ρ [Yd l (rec true q442.1) A444, Box b394 [v395, .int .i64 (x3.length : Int)], Arr v395 1 c396, Box b1 [v2, v5], Box b8 [.int .i64 x9], Box b10 [v11]]) (by kernel_rfl) (by kernel_rfl) (by kernel_rfl) (H.drew.okS (by simp)) ?_
     replace H := H.drew
     refine dq (v := .agg #[v2, v5]) rfl (fun _ hw => Q_ldB (k := 3) (cs := [v2, v5]) hw rfl ty135 rfl rfl rfl (fun h => nomatch h) rfl) rfl rfl <| dq rfl (fun _ _ => Q_move rfl) rfl rfl <| dq (v := v11) rfl (fun _ hw => Q_ldB (k := 5) (cs := [v11]) hw rfl ty42 rfl rfl rfl (fun _ => rfl) rfl) rfl rfl <| dq rfl (fun _ _ => Q_move rfl) rfl rfl ?_
     obtain ⟨x447, hx447, hB434⟩ := bnd hB434
     obtain ⟨b448, o449, c450, hc451, ha452, hi453⟩ := idxR r13 hx447
     refine dq rfl (fun _ _ => Q_idx hi453 Tryz.underlying42 ty5 rfl rfl) rfl rfl <| dq (v := .int .u8 x447) rfl (fun _ hw => Q_ld (show cellsAt _ _ _ [.int .u8 x447] from (show _ = [_] from hc451) ▸ (ha452.up hw.view)) ty5 rfl (fun _ => rfl) rfl rfl) rfl rfl ?_
     replace H := H.f2
     replace H := H.f2
     obtain ⟨q454, hq454, hB434⟩ := bnd hB434
     refine d1 (de rfl (E_call fn86 rfl (c_86 H gle gl18 r4 r7 r398 hq454)) rfl rfl ?_)
     rintro _ wd461 ⟨b456, v457, c458, x459, rfl, rfl, r460, H⟩
     try dsimp only at hB434
     refine ⟨H.okS (by simp), ?_⟩
     refine dq rfl (fun _ _ => Q_assign rfl) rfl rfl <| DL_nil <| x_block <| x_then <| R_nd <| nq (Q_move rfl) rfl rfl <| nq (Q_add rfl rfl) rfl rfl <| nq (Q_assign rfl) rfl rfl <| WL_nil ?_
     replace H := H.f3
     replace H := H.f3
     replace H := H.f7
     replace H := H.f7
     replace H := H.f7
     replace H := H.f7
     replace H := H.drop 6 rfl
     dsimp only [List.eraseIdx] at H
     replace H := H.drop 6 rfl
     dsimp only [List.eraseIdx] at H
     obtain rfl := Option.some.inj hB434
     refine x_A fun a hf => ⟨_, rfl, ρ, A444, b456, v457, c458, q442.1, x459, w64 (x399 + 1), (View.le_trans lw437 lw445), rfl, hI446, r460, hf.sub ⟨rfl, rfl, rfl, rfl, rfl, trivial⟩, H⟩
    ·replace hB434 := itF hb hB434
     refine C_exit <| x_then_exit <| x_then_exit <| x_block_exit ?_
     replace H := H.f5
     replace H := H.f5
     replace H := H.f5
     replace H := H.f3
     replace H := H.drop 4 rfl
     dsimp only [List.eraseIdx] at H
     replace H := H.drop 4 rfl
     dsimp only [List.eraseIdx] at H
     obtain rfl := Option.some.inj hB434
     obtain rfl := hO435 _ rfl
     refine x_A fun a hf => ⟨ρ, A444, q442.1, true, (View.le_trans lw437 lw445), rfl, hI446, hf.sub trivial, H⟩
   ·rw [hb]
    replace hB434 := itF hb hB434
    rw [hb] at H
    refine gs rfl rfl rfl rfl <| gs rfl rfl rfl rfl <| gs rfl rfl rfl rfl <| gs rfl rfl rfl rfl <| nq (Q_pickF rfl rfl) rfl rfl <| WL_nil <| x_then ?_
    refine C_cond rfl (fun h => nomatch h) (fun _ => ?_)
    refine C_exit <| x_then_exit <| x_then_exit <| x_block_exit ?_
    replace H := H.f5
    replace H := H.f5
    replace H := H.f5
    replace H := H.f3
    replace H := H.drop 4 rfl
    dsimp only [List.eraseIdx] at H
    replace H := H.drop 4 rfl
    dsimp only [List.eraseIdx] at H
    obtain rfl := Option.some.inj hB434
    obtain rfl := hO435 _ rfl
    refine x_A fun a hf => ⟨ρ, A444, q442.1, false, (View.le_trans lw437 lw445), rfl, hI446, hf.sub trivial, H⟩
 ·rintro a wd462 ⟨ρ, A353, x354, x355, lw463, rfl, hI356, hf, H⟩
  try dsimp only at hF
  replace r4 := RdSl.up lw463 r4
  replace r7 := RdSl.up lw463 r7
  replace r13 := RdSl.up lw463 r13
  replace gle := GErrs.up lw463 gle
  replace gl18 := GTab.up lw463 gl18
  refine XX.at hf ?_
  replace H := H.drop 1 rfl
  dsimp only [List.eraseIdx] at H
  replace H := H.drop 1 rfl
  dsimp only [List.eraseIdx] at H
  replace H := H.drop 1 rfl
  dsimp only [List.eraseIdx] at H
  obtain rfl := Option.some.inj hF
  exact fn_end (l := []) (vs := []) rfl rfl rfl ⟨ρ, A353, x354, x355, rfl, rfl, lw463, hI356, H⟩
theorem c_26 {N : Nat} {C : Cx} {w : World} {ρ : View} {hs : List Hl} {gV : Nat → Value} {v1 : Value} {v4 : Value} {v8 : Value} {x2 : (List ((List Int) × (Int × Int × Int × Int) × Int × Int))} {x5 : (List Int)} {x7 : Int} {x9 : (List Int)} (H : Hp C w ρ (hs)) (gle : GErrs ρ 394 errIds gV) (gl18 : GTab ρ 18 .u8 tab_math_bits_deBruijn64tab) (r3 : RdSl ρ (eP (eL (eI .i64)) (eP (eP (eI .u64) (eP (eI .u64) (eP (eI .u64) (eI .u64)))) (eP (eI .i64) (eI .i64)))) v1 x2) (r6 : RdSl ρ (eI .i64) v4 x5) (r10 : RdSl ρ (eI .u8) v8 x9) {r : (List Int)} (hF : F_walk_Trace N x2 x5 x7 x9 = some r) :
  Calls Tryz.prog 26 [.agg #[v1, v4], .int .i64 x7, v8].toArray w (Rets (fun v w' => (∃ (ρ' : View) (v75 : Value) (c76 : (List Value)) (x77 : (List Int)), x77 = r ∧ v75 = v ∧ View.le ρ ρ' ∧ rdL (eI .i64) ρ' x77 c76 ∧ Hp C w' ρ' (Arr v75 1 c76 :: hs)))) := by
 unfold F_walk_Trace at hF
 have h0 : Tryz.f26.body = some _ := rfl
 refine fn_callsM Tryz.func26 h0 (n := 25) rfl (by simp) <| C_seq <| R_nd <| ne (E_box H (vs := [v1, v4]) rfl rfl) rfl rfl ?_
 rintro _ wd80 ⟨b79, rfl, H⟩
 refine nq (Q_assign rfl) rfl rfl <| WL_nil <| x_then <| C_seq <| C_seq <| R_nd <| nq (v := .agg #[v1, v4]) (Q_ldB (k := 0) (cs := [v1, v4]) H.ok rfl ty25 rfl rfl rfl (fun h => nomatch h) rfl) rfl rfl ?_
 obtain ⟨q81, hq81, hF⟩ := bnd hF
 refine ne (E_call fn18 rfl (c_18 H gle  r3 r6 hq81)) rfl rfl ?_
 rintro _ wd84 ⟨x83, rfl, rfl, H⟩
 try dsimp only at hF
 refine nq (Q_not rfl) rfl rfl <| WL_nil <| x_then ?_
 refine C_cond rfl (fun hb => ?_) (fun hb => ?_)
 ·replace hF := itT hb hF
  refine C_seq <| R_nd <| nq (Q_assign rfl) rfl rfl <| WL_nil <| x_then <| C_ret <| x_then_ret ?_
  have H := H.nilArr 1
  have hRV : RV Tryz.prog wd84 [(6, .slice none 0 0)] [.tmp 6] [(.slice none 0 0)] := ⟨rfl, trivial⟩
  replace H := H.drop 1 rfl
  dsimp only [List.eraseIdx] at H
  obtain rfl := Option.some.inj hF
  exact fn_retM (rs := [.tmp 6]) (vs := [(.slice none 0 0)]) rfl hRV ⟨ρ, (.slice none 0 0), [], [], rfl, rfl, (View.le_refl _), rdL.nil, H⟩
 ·replace hF := itF hb hF
  refine C_skip <| x_then <| C_seq <| R_nd <| ne (E_alloc H ty23 (zs := [.slice none 0 0]) rfl) rfl rfl ?_
  rintro _ wd86 ⟨b85, rfl, H⟩
  refine WL_nil <| x_then <| C_seq <| C_seq <| R_nd <| nq (v := .agg #[v1, v4]) (Q_ldB (k := 1) (cs := [v1, v4]) H.ok rfl ty25 rfl rfl rfl (fun h => nomatch h) rfl) rfl rfl <| nq (v := .agg #[v1, v4]) (Q_buildS st135.choose_spec (ps := [(0, [v1, v4])]) rfl ⟨rfl, rfl, by simp, trivial⟩ rfl) rfl rfl <| nq (Q_move rfl) rfl rfl <| nq (Q_move rfl) rfl rfl ?_
  obtain ⟨q87, hq87, hF⟩ := bnd hF
  refine ne (E_call fn80 rfl (c_80 H gle  r3 r6 r10 hq87)) rfl rfl ?_
  rintro _ wd92 ⟨b89, b90, b91, rfl, rfl, H⟩
  try dsimp only at hF
  refine WL_nil <| x_then <| C_block ?_
  have H := H.nilArr 1
  replace H := H.f3
  replace H := H.f3
  replace H := H.f3
  replace H := H.f3
  replace H := H.f4
  replace H := H.drop 5 rfl
  dsimp only [List.eraseIdx] at H
  obtain ⟨q125, hq125, hF⟩ := bnd hF
  obtain ⟨q1251_, b126⟩ := q125
  refine C_range (σ := (List Int)) (α := (Int × Int)) (s0 := []) (r := (q1251_, b126)) (I := (fun ρ (s : (List Int)) A => ∃ (v108 : Value) (c109 : (List Value)) (x110 : (List Int)), x110 = s ∧ A = Star [Box b85 [v108], Arr v108 1 c109] ∧ rdL (eI .i64) ρ x110 c109)) (R := (fun _ x args => args = #[.int .i64 x.1, .int .i64 x.2])) (Y := (fun x s => F_walk_Trace_r0 N x.1 x.2 s)) [Box b89 [v1, v4], Box b90 [.int .i64 x7], Box b91 [v8]] (fun _ => .ret) rfl fn129 (Hp.star (L := [Box b85 [.slice none 0 0], Arr (.slice none 0 0) 1 ([])]) H) ⟨(.slice none 0 0), [], [], rfl, rfl, rdL.nil⟩ rfl ?_ ?_ ?_
  ·intro a_ hfa l fn_ D
   refine ⟨?_⟩
   intro C w ρ hs s A x args r127 hle hIx hA129 H hF128
   obtain ⟨x93, x94⟩ := x
   obtain ⟨v108, c109, x110, rfl, rfl, r111⟩ := hIx
   obtain rfl := hA129
   replace gle := GErrs.up hle gle
   replace gl18 := GTab.up hle gl18
   replace hF128 : F_walk_Trace_r0 N x93 x94 x110 = some r127 := hF128
   unfold F_walk_Trace_r0 at hF128
   refine yieldAt (n := 25) (E := ((19, .int .i64 x94) :: ((18, .int .i64 x93) :: [(6, .slice none 0 0), (7, .pointer (some ⟨b85, 0, none⟩))]))) (ps := [18, 19]) (vs := [.int .i64 x93, .int .i64 x94]) H rfl rfl rfl rfl rfl rfl rfl ?_ (Fr.params (E := [(6, .slice none 0 0), (7, .pointer (some ⟨b85, 0, none⟩))]) ⟨hfa.size, rfl, (hfa.sub (E' := [(6, .slice none 0 0), (7, .pointer (some ⟨b85, 0, none⟩))]) ⟨rfl, rfl, trivial⟩).slots⟩ (by decide) rfl)
   obtain ⟨o, ho, H⟩ := H.ydOpen
   dsimp only [List.cons_append, List.nil_append] at H
   refine R_nd <| nq (Q_assign rfl) rfl rfl <| WL_nil <| x_begin (by rw [ho]; rfl) H ?_
   intro wd130 H
   refine C_block <| R_nd <| nq (v := v108) (Q_ldB (k := 1) (cs := [v108]) H.ok rfl ty23 rfl rfl rfl (fun _ => rfl) rfl) rfl rfl <| nq (Q_move rfl) rfl rfl <| ne (E_bslice (xs := [.tmp 21]) (vs := [.int .i64 x94]) H Tryz.underlying23 ty3 (by decide) (cs := [.int .i64 x94]) rfl (sz_cons rfl sz_nil) rfl (by simp) (by simp) rfl rfl) rfl rfl ?_
   rintro _ wd132 ⟨b131, rfl, H⟩
   obtain ⟨x133, hx133, hF128⟩ := bnd hF128
   obtain ⟨ha134a, ha134b⟩ := app_some hx133
   have r136 : rdL (eI .i64) ρ x133 (c109 ++ ([.int .i64 x94])) := ha134b ▸ rdL.app r111 (show rdL (eI .i64) ρ ([x94]) ([.int .i64 x94]) from ⟨([.int .i64 x94]), _, rfl, rfl, rdL.nil⟩)
   refine ne (E_append (k := 3) H rfl Tryz.underlying23 ty3 rfl (by decide) (by decide) rfl rfl (Src.ofArr (k := 0) H.ok rfl) (rdL.one (show rdL (eI .i64) ρ ([x94]) ([.int .i64 x94]) from ⟨([.int .i64 x94]), _, rfl, rfl, rdL.nil⟩)) (app_fit r111 (show rdL (eI .i64) ρ ([x94]) ([.int .i64 x94]) from ⟨([.int .i64 x94]), _, rfl, rfl, rdL.nil⟩) ha134a)) rfl rfl ?_
   rintro v135 wd138 ⟨H, hc137⟩
   dsimp only [List.set] at H
   refine ne (E_stB (k := 2) (cs := [v135]) (vs' := [v135]) H rfl ty23 rfl rfl (arr_cells (H.ok.get (k := 3) rfl)).1 rfl (one_cons (arr_cells (H.ok.get (k := 3) rfl)).2 one_nil) (by simp) rfl) rfl rfl ?_
   rintro _ wd139 H
   dsimp only [List.set] at H
   refine WL_nil <| x_block ?_
   replace H := H.f1
   replace H := H.f3
   replace H := H.f3
   replace H := H.drop 3 rfl
   dsimp only [List.eraseIdx] at H
   replace H := H.f2
   obtain rfl := Option.some.inj hF128
   subst ho
   refine x_round H (fun w_ H => ?_)
   exact ⟨rfl, ρ, _, (View.le_refl _), ⟨v135, (c109 ++ ([.int .i64 x94])), x133, rfl, rfl, r136⟩, Hp.ydClose (L := [Box b85 [v135], Arr v135 1 (c109 ++ ([.int .i64 x94]))]) H⟩
  ·intro l rec W hs' hY H
   refine (c_129 H gle gl18 hY ⟨(.slice none 0 0), [], [], rfl, rfl, rdL.nil⟩ (fun hl h => by obtain ⟨v108, c109, x110, e1_, e2_, r111⟩ := h; exact ⟨v108, c109, x110, e1_, e2_, rdL.up hl r111⟩) r3 r6 r10 hq125).mono fun e w' he => ?_
   obtain ⟨v, rfl, ρ', A', x, b, hr_, _, h1, h2, h3⟩ := he
   cases hr_
   exact ⟨_, rfl, ρ', A', h1, h2, h3⟩
  ·intro D140 wd141 ρ A' lw142 hIx H
   obtain ⟨v108, c109, x110, rfl, rfl, r111⟩ := hIx
   replace H := Hp.unstar H
   dsimp only [List.cons_append, List.nil_append] at H
   replace gle := GErrs.up lw142 gle
   replace gl18 := GTab.up lw142 gl18
   refine ⟨fun hb => ?_, fun hb => ?_⟩
   ·subst hb
    try dsimp only at hF
    refine x_block <| x_then <| C_seq <| R_nd <| nq (v := v108) (Q_ldB (k := 0) (cs := [v108]) H.ok rfl ty23 rfl rfl rfl (fun _ => rfl) rfl) rfl rfl <| nq (Q_assign rfl) rfl rfl <| WL_nil <| x_then <| C_ret ?_
    replace H := H.f2
    refine x_take H ?_
    intro wd143 H
    have hRV : RV Tryz.prog wd143 [(6, v108)] [.tmp 6] [v108] := ⟨rfl, trivial⟩
    replace H := H.f1
    replace H := H.drop 1 rfl
    dsimp only [List.eraseIdx] at H
    obtain rfl := Option.some.inj hF
    exact fn_retM (rs := [.tmp 6]) (vs := [v108]) rfl hRV ⟨ρ, v108, c109, x110, rfl, rfl, lw142, r111, H⟩
   ·subst hb
    try dsimp only at hF
    cases hF
theorem c_27 {N : Nat} {C : Cx} {w : World} {ρ : View} {hs : List Hl} {gV : Nat → Value} {v1 : Value} {v4 : Value} {v8 : Value} {x2 : (List ((List Int) × (Int × Int × Int × Int) × Int × Int))} {x5 : (List Int)} {x7 : Int} {x9 : (List Int)} (H : Hp C w ρ (hs)) (gle : GErrs ρ 394 errIds gV) (gl18 : GTab ρ 18 .u8 tab_math_bits_deBruijn64tab) (r3 : RdSl ρ (eP (eL (eI .i64)) (eP (eP (eI .u64) (eP (eI .u64) (eP (eI .u64) (eI .u64)))) (eP (eI .i64) (eI .i64)))) v1 x2) (r6 : RdSl ρ (eI .i64) v4 x5) (r10 : RdSl ρ (eI .u8) v8 x9) {r : Int} (hF : F_walk_Run N x2 x5 x7 x9 = some r) :
  Calls Tryz.prog 27 [.agg #[v1, v4], .int .i64 x7, v8].toArray w (Rets (fun v w' => (∃ (ρ' : View) (x86 : Int), x86 = r ∧ .int .i64 x86 = v ∧ View.le ρ ρ' ∧ Hp C w' ρ' (hs)))) := by
 unfold F_walk_Run at hF
 have h0 : Tryz.f27.body = some _ := rfl
 refine fn_calls' Tryz.func27 h0 (n := 22) rfl (by simp) <| C_seq <| R_nd <| ne (E_box H (vs := [v1, v4]) rfl rfl) rfl rfl ?_
 rintro _ wd88 ⟨b87, rfl, H⟩
 refine nq (Q_assign rfl) rfl rfl <| WL_nil <| x_then <| C_seq <| R_nd <| nq (Q_assign rfl) rfl rfl <| WL_nil <| x_then <| C_seq <| C_seq <| R_nd <| nq (v := .agg #[v1, v4]) (Q_ldB (k := 0) (cs := [v1, v4]) H.ok rfl ty25 rfl rfl rfl (fun h => nomatch h) rfl) rfl rfl <| nq (Q_move rfl) rfl rfl <| nq (Q_move rfl) rfl rfl ?_
 obtain ⟨q89, hq89, hF⟩ := bnd hF
 refine ne (E_call fn26 rfl (c_26 H gle gl18 r3 r6 r10 hq89)) rfl rfl ?_
 rintro _ wd96 ⟨ρ, v91, c92, x93, rfl, rfl, lw94, r95, H⟩
 try dsimp only at hF
 replace r10 := RdSl.up lw94 r10
 replace r3 := RdSl.up lw94 r3
 replace r6 := RdSl.up lw94 r6
 replace gle := GErrs.up lw94 gle
 replace gl18 := GTab.up lw94 gl18
 refine nq (Q_lenA (k := 0) H.ok rfl r95 (by decide) Tryz.underlying23 rfl) rfl rfl <| nq (Q_move rfl) rfl rfl <| WL_nil <| x_then ?_
 obtain ⟨o129, ho129, hF⟩ := bnd hF
 refine C_cutQ (fun a w' => ∃ (x128 : Int), x128 = o129 ∧ Fr 22 a [(7, .int .i64 x128)] ∧ Hp C w' ρ (hs)) ?_ ?_
 ·refine C_block ?_
  replace H := H.drop 1 rfl
  dsimp only [List.eraseIdx] at H
  refine C_iter (f := fun s => F_walk_Run_l0 N x93 s.1 s.2) ho129 (fun s a w' => ∃ (x139 : Int) (x140 : Int), (x139, x140) = s ∧ Fr 22 a [(7, .int .i64 x140), (13, v91), (14, .int .i64 (x93.length : Int)), (15, .int .i64 x139)] ∧ Hp C w' ρ (Arr v91 1 c92 :: hs)) ?_ ?_
  ·exact fun a hf => ⟨0, (-1), rfl, hf.sub ⟨rfl, rfl, rfl, rfl, trivial⟩, H⟩
  ·rintro s o150 a wd153 ⟨x139, x140, rfl, hf, H⟩ hB151 hO152
   replace hB151 : F_walk_Run_l0 N x93 x139 x140 = some o150 := hB151
   unfold F_walk_Run_l0 at hB151
   refine CW.at hf <| C_seq <| R_nd <| nq (Q_lss rfl rfl) rfl rfl <| WL_nil <| x_then <| C_seq ?_
   refine C_cond rfl (fun hb => ?_) (fun hb => ?_)
   ·replace hB151 := itT hb hB151
    refine C_skip <| x_then <| C_seq <| C_block <| C_seq <| R_nd ?_
    obtain ⟨x154, hx154, hB151⟩ := bnd hB151
    obtain ⟨b155, o156, hi160, hc158, ha159⟩ := arr_at (hs := [Arr v91 1 c92]) (k := 0) (by decide) (H.okS (by simp)) rfl r95 hx154
    refine nq (Q_idx hi160 Tryz.underlying23 ty3 rfl rfl) rfl rfl <| nq (v := .int .i64 x154) (Q_ld (show cellsAt _ _ _ [.int .i64 x154] from (show _ = [_] from hc158) ▸ (ha159 _ (Ok.subS (by simp) H.ok))) ty3 rfl (fun _ => rfl) rfl rfl) rfl rfl <| nq (Q_assign rfl) rfl rfl <| WL_nil <| x_then <| R_nd <| nq (Q_move rfl) rfl rfl <| nq (Q_assign rfl) rfl rfl <| WL_nil <| x_block <| x_then <| R_nd <| nq (Q_add rfl rfl) rfl rfl <| nq (Q_move rfl) rfl rfl ?_
    refine WL_nil ?_
    obtain rfl := Option.some.inj hB151
    refine x_A fun a hf => ⟨_, rfl, w64 (x139 + 1), x154, rfl, hf.sub ⟨rfl, rfl, rfl, rfl, trivial⟩, H⟩
   ·replace hB151 := itF hb hB151
    refine C_exit <| x_then_exit <| x_then_exit <| x_block_exit ?_
    replace H := H.drop 0 rfl
    dsimp only [List.eraseIdx] at H
    obtain rfl := Option.some.inj hB151
    obtain rfl := hO152 _ rfl
    refine x_A fun a hf => ⟨x140, rfl, hf.sub ⟨rfl, trivial⟩, H⟩
 ·rintro a wd161 ⟨x128, rfl, hf, H⟩
  try dsimp only at hF
  refine XX.at hf <| x_then <| C_seq <| R_nd <| nq (Q_move rfl) rfl rfl <| nq (Q_assign rfl) rfl rfl <| WL_nil <| x_then <| C_ret ?_
  obtain rfl := Option.some.inj hF
  exact fn_ret (l := [.tmp 6]) (vs := [.int .i64 x128]) rfl rfl rfl ⟨ρ, x128, rfl, rfl, lw94, H⟩
theorem c_39 {N : Nat} {C : Cx} {w : World} {ρ : View} {hs : List Hl} {gV : Nat → Value} {v1 : Value} {v4 : Value} {v7 : Value} {x2 : (List ((List Int) × (Int × Int × Int × Int) × Int × Int))} {x5 : (List Int)} {x8 : (List Bool)} (H : Hp C w ρ (hs)) (_gle : GErrs ρ 394 errIds gV) (r3 : RdSl ρ (eP (eL (eI .i64)) (eP (eP (eI .u64) (eP (eI .u64) (eP (eI .u64) (eI .u64)))) (eP (eI .i64) (eI .i64)))) v1 x2) (_r6 : RdSl ρ (eI .i64) v4 x5) (r9 : RdSl ρ eB v7 x8) {r : (List Bool)} (hF : F_dofferref16_Closed N x2 x5 x8 = some r) :
  Calls Tryz.prog 39 [.agg #[v1, v4], v7].toArray w (Rets (fun v w' => (∃ (v33264 : Value) (c33265 : (List Value)) (x33266 : (List Bool)), x33266 = r ∧ v33264 = v ∧ rdL eB ρ x33266 c33265 ∧ Hp C w' ρ (Arr v33264 1 c33265 :: hs)))) := by
 unfold F_dofferref16_Closed at hF
 have h0 : Tryz.f39.body = some _ := rfl
 refine fn_calls' Tryz.func39 h0 (n := 47) rfl (by simp) <| C_seq <| R_nd <| ne (E_box H (vs := [v1, v4]) rfl rfl) rfl rfl ?_
 rintro _ wd33269 ⟨b33268, rfl, H⟩
 refine nq (Q_assign rfl) rfl rfl <| WL_nil <| x_then <| C_seq <| R_nd <| ne (E_bslice0 H Tryz.underlying65 ty4) rfl rfl ?_
 rintro _ wd33271 ⟨b33270, rfl, H⟩
 refine nq (Q_move rfl) rfl rfl ?_
 obtain ⟨x33272, hx33272, hF⟩ := bnd hF
 obtain ⟨ha33273a, ha33273b⟩ := app_some hx33272
 obtain ⟨c33274, r33275, hs33276⟩ := Src.ofRd H.ok r9
 have r33278 : rdL eB ρ x33272 (([]) ++ c33274) := ha33273b ▸ rdL.app rdL.nil r33275
 refine ne (E_append (k := 0) H rfl Tryz.underlying65 ty4 rfl (by decide) (by decide) rfl rfl hs33276 (rdL.one r33275) (app_fit rdL.nil r33275 ha33273a)) rfl rfl ?_
 rintro v33277 wd33280 ⟨H, hc33279⟩
 dsimp only [List.set] at H
 refine nq (Q_assign rfl) rfl rfl <| WL_nil <| x_then <| C_seq <| C_seq <| R_nd <| nq (Q_assign rfl) rfl rfl <| WL_nil <| x_then ?_
 obtain ⟨o49902, ho49902, hF⟩ := bnd hF
 refine C_cutQ (fun a w' => ∃ (c49899 : (List Value)) (x49900 : (List Bool)), x49900 = o49902 ∧ rdL eB ρ x49900 c49899 ∧ Fr 47 a [(5, v33277)] ∧ Hp C w' ρ (Arr v33277 1 c49899 :: hs)) ?_ ?_
 ·refine C_block ?_
  replace H := H.f1
  refine C_iter (f := fun s => F_dofferref16_Closed_l0 N x2 s.1 s.2) ho49902 (fun s a w' => ∃ (c55441 : (List Value)) (x55442 : (List Bool)) (x55444 : Bool), (x55442, x55444) = s ∧ rdL eB ρ x55442 c55441 ∧ Fr 47 a [(2, .pointer (some ⟨b33268, 0, none⟩)), (5, v33277), (6, .bool x55444)] ∧ Hp C w' ρ (Box b33268 [v1, v4] :: Arr v33277 1 c55441 :: hs)) ?_ ?_
  ·exact fun a hf => ⟨(([]) ++ c33274), x33272, true, rfl, r33278, hf.sub ⟨rfl, rfl, rfl, trivial⟩, H⟩
  ·rintro s o60983 a wd60986 ⟨c55441, x55442, x55444, rfl, r55443, hf, H⟩ hB60984 hO60985
   replace hB60984 : F_dofferref16_Closed_l0 N x2 x55442 x55444 = some o60983 := hB60984
   unfold F_dofferref16_Closed_l0 at hB60984
   refine CW.at hf <| C_seq <| C_seq <| R_nd <| nq (Q_move rfl) rfl rfl <| WL_nil <| x_then ?_
   refine C_cond rfl (fun hb => ?_) (fun hb => ?_)
   ·replace hB60984 := itT hb hB60984
    refine C_skip <| x_then <| C_block <| C_seq <| R_nd <| nq (Q_assign rfl) rfl rfl <| WL_nil <| x_then <| C_seq <| R_nd <| nq (v := .pointer (some ⟨b33268, 0, none⟩)) (Q_fld Tryz.underlying29 rfl ty27 (by decide) rfl rfl) rfl rfl <| nq (v := v1) (Q_ldB (k := 0) (cs := [v1]) H.ok rfl ty27 rfl rfl rfl (fun _ => rfl) rfl) rfl rfl <| nq (Q_len Tryz.underlying27 rfl r3) rfl rfl <| nq (Q_move rfl) rfl rfl ?_
    refine WL_nil <| x_then ?_
    obtain ⟨o63755, ho63755, hB60984⟩ := bnd hB60984
    refine C_cutQ (fun a w' => ∃ (c63751 : (List Value)) (x63752 : (List Bool)) (x63754 : Bool), (x63752, x63754) = o63755 ∧ rdL eB ρ x63752 c63751 ∧ Fr 47 a [(2, .pointer (some ⟨b33268, 0, none⟩)), (5, v33277), (6, .bool x63754)] ∧ Hp C w' ρ (Box b33268 [v1, v4] :: Arr v33277 1 c63751 :: hs)) ?_ ?_
    ·refine C_block ?_
     replace H := H.f1
     replace H := H.f1
     refine C_iter (f := fun s => F_dofferref16_Closed_l1 N x2 s.1 s.2.1 s.2.2) ho63755 (fun s a w' => ∃ (c64677 : (List Value)) (x64676 : Int) (x64678 : (List Bool)) (x64680 : Bool), (x64676, x64678, x64680) = s ∧ rdL eB ρ x64678 c64677 ∧ Fr 47 a [(2, .pointer (some ⟨b33268, 0, none⟩)), (5, v33277), (6, .bool x64680), (16, v1), (17, .int .i64 (x2.length : Int)), (18, .int .i64 x64676)] ∧ Hp C w' ρ (Box b33268 [v1, v4] :: Arr v33277 1 c64677 :: hs)) ?_ ?_
     ·exact fun a hf => ⟨c55441, 0, x55442, false, rfl, r55443, hf.sub ⟨rfl, rfl, rfl, rfl, rfl, rfl, trivial⟩, H⟩
     ·rintro s o65601 a wd65604 ⟨c64677, x64676, x64678, x64680, rfl, r64679, hf, H⟩ hB65602 hO65603
      replace hB65602 : F_dofferref16_Closed_l1 N x2 x64676 x64678 x64680 = some o65601 := hB65602
      unfold F_dofferref16_Closed_l1 at hB65602
      refine CW.at hf <| C_seq <| R_nd <| nq (Q_lss rfl rfl) rfl rfl <| WL_nil <| x_then <| C_seq ?_
      refine C_cond rfl (fun hb => ?_) (fun hb => ?_)
      ·replace hB65602 := itT hb hB65602
       refine C_skip <| x_then <| C_seq <| C_block <| C_seq <| R_nd <| nq (Q_move rfl) rfl rfl ?_
       obtain ⟨x65605, hx65605, hB65602⟩ := bnd hB65602
       obtain ⟨b65606, o65607, c65608, hc65609, ha65610, hi65611⟩ := idxR r3 hx65605
       refine nq (Q_idx hi65611 Tryz.underlying27 ty126 rfl rfl) rfl rfl ?_
       obtain ⟨c65612, c65613, he65614, hc65615, hc65616⟩ := (id hc65609)
       obtain ⟨v65617, he65618, r65619⟩ := hc65615
       obtain ⟨c65620, c65621, he65622, hc65623, hc65624⟩ := hc65616
       obtain ⟨c65625, c65626, he65627, hc65628, hc65629⟩ := hc65623
       obtain ⟨c65630, c65631, he65632, hc65633, hc65634⟩ := hc65629
       obtain ⟨c65635, c65636, he65637, hc65638, hc65639⟩ := hc65634
       obtain ⟨c65640, c65641, he65642, hc65643, hc65644⟩ := hc65624
       refine nq (v := .agg #[v65617, .int .u64 x65605.2.1.1, .int .u64 x65605.2.1.2.1, .int .u64 x65605.2.1.2.2.1, .int .u64 x65605.2.1.2.2.2, .int .i64 x65605.2.2.1, .int .i64 x65605.2.2.2]) (Q_ld (show cellsAt _ _ _ [v65617, .int .u64 x65605.2.1.1, .int .u64 x65605.2.1.2.1, .int .u64 x65605.2.1.2.2.1, .int .u64 x65605.2.1.2.2.2, .int .i64 x65605.2.2.1, .int .i64 x65605.2.2.2] from cellsAt.cg (cat2 he65614 he65618 (cat2 he65622 (cat2 he65627 (rdI hc65628) (cat2 he65632 (rdI hc65633) (cat2 he65637 (rdI hc65638) (rdI hc65639)))) (cat2 he65642 (rdI hc65643) (rdI hc65644)))) (ha65610.up H.ok.view)) ty126 rfl (fun h => nomatch h) rfl rfl) rfl rfl <| ne (E_alloc H ty126 (zs := [.slice none 0 0, .int .u64 0, .int .u64 0, .int .u64 0, .int .u64 0, .int .i64 0, .int .i64 0]) rfl) rfl rfl ?_
       rintro _ wd65646 ⟨b65645, rfl, H⟩
       refine nq (Q_assign rfl) rfl rfl <| ne (E_stB (k := 0) (cs := [v65617, .int .u64 x65605.2.1.1, .int .u64 x65605.2.1.2.1, .int .u64 x65605.2.1.2.2.1, .int .u64 x65605.2.1.2.2.2, .int .i64 x65605.2.2.1, .int .i64 x65605.2.2.2]) (vs' := [v65617, .int .u64 x65605.2.1.1, .int .u64 x65605.2.1.2.1, .int .u64 x65605.2.1.2.2.1, .int .u64 x65605.2.1.2.2.2, .int .i64 x65605.2.2.1, .int .i64 x65605.2.2.2]) H rfl ty126 rfl rfl rfl rfl (one_cons (RdSl.one r65619) (one_cons rfl (one_cons rfl (one_cons rfl (one_cons rfl (one_cons rfl (one_cons rfl one_nil))))))) (by simp) rfl) rfl rfl ?_
       rintro _ wd65647 H
       dsimp only [List.set] at H
       refine WL_nil <| x_then <| C_seq <| R_nd <| nq (v := .pointer (some ⟨b65645, 0, none⟩)) (Q_fld Tryz.underlying126 rfl ty23 (by decide) rfl rfl) rfl rfl <| nq (v := v65617) (Q_ldB (k := 0) (cs := [v65617]) H.ok rfl ty23 rfl rfl rfl (fun _ => rfl) rfl) rfl rfl <| nq (Q_len Tryz.underlying23 rfl r65619) rfl rfl <| nq (Q_move rfl) rfl rfl <| WL_nil <| x_then ?_
       obtain ⟨o66085, ho66085, hB65602⟩ := bnd hB65602
       refine C_cutQ (fun a w' => ∃ (c66081 : (List Value)) (x66082 : (List Bool)) (x66084 : Bool), (x66082, x66084) = o66085 ∧ rdL eB ρ x66082 c66081 ∧ Fr 47 a [(2, .pointer (some ⟨b33268, 0, none⟩)), (5, v33277), (6, .bool x66084), (16, v1), (17, .int .i64 (x2.length : Int)), (18, .int .i64 x64676)] ∧ Hp C w' ρ (Box b33268 [v1, v4] :: Arr v33277 1 c66081 :: hs)) ?_ ?_
       ·refine C_block ?_
        replace H := H.f2
        replace H := H.f2
        replace H := H.drop 2 rfl
        dsimp only [List.eraseIdx] at H
        refine C_iter (f := fun s => F_dofferref16_Closed_l2 N x64676 x65605 s.1 s.2.1 s.2.2) ho66085 (fun s a w' => ∃ (c66230 : (List Value)) (x66229 : Int) (x66231 : (List Bool)) (x66233 : Bool), (x66229, x66231, x66233) = s ∧ rdL eB ρ x66231 c66230 ∧ Fr 47 a [(2, .pointer (some ⟨b33268, 0, none⟩)), (5, v33277), (6, .bool x66233), (7, .int .i64 x64676), (16, v1), (17, .int .i64 (x2.length : Int)), (18, .int .i64 x64676), (24, v65617), (25, .int .i64 (x65605.1.length : Int)), (26, .int .i64 x66229)] ∧ Hp C w' ρ (Box b33268 [v1, v4] :: Arr v33277 1 c66230 :: hs)) ?_ ?_
        ·exact fun a hf => ⟨c64677, 0, x64678, x64680, rfl, r64679, hf.sub ⟨rfl, rfl, rfl, rfl, rfl, rfl, rfl, rfl, rfl, rfl, trivial⟩, H⟩
        ·rintro s o66377 a wd66380 ⟨c66230, x66229, x66231, x66233, rfl, r66232, hf, H⟩ hB66378 hO66379
         replace hB66378 : F_dofferref16_Closed_l2 N x64676 x65605 x66229 x66231 x66233 = some o66377 := hB66378
         unfold F_dofferref16_Closed_l2 at hB66378
         refine CW.at hf <| C_seq <| R_nd <| nq (Q_lss rfl rfl) rfl rfl <| WL_nil <| x_then <| C_seq ?_
         refine C_cond rfl (fun hb => ?_) (fun hb => ?_)
         ·replace hB66378 := itT hb hB66378
          refine C_skip <| x_then ?_
          obtain ⟨o66451, ho66451, hB66378⟩ := bnd hB66378
          refine C_cut (fun a w' => ∃ (c66447 : (List Value)) (x66448 : (List Bool)) (x66450 : Bool), (x66448, x66450) = o66451 ∧ rdL eB ρ x66448 c66447 ∧ Fr 47 a [(2, .pointer (some ⟨b33268, 0, none⟩)), (5, v33277), (6, .bool x66450), (7, .int .i64 x64676), (16, v1), (17, .int .i64 (x2.length : Int)), (18, .int .i64 x64676), (24, v65617), (25, .int .i64 (x65605.1.length : Int)), (26, .int .i64 x66229)] ∧ Hp C w' ρ (Box b33268 [v1, v4] :: Arr v33277 1 c66447 :: hs)) ?_ ?_
          ·refine C_block <| C_seq <| R_nd ?_
           obtain ⟨x66452, hx66452, ho66451⟩ := bnd ho66451
           obtain ⟨b66453, o66454, c66455, hc66456, ha66457, hi66458⟩ := idxR r65619 hx66452
           refine nq (Q_idx hi66458 Tryz.underlying23 ty3 rfl rfl) rfl rfl <| nq (v := .int .i64 x66452) (Q_ld (show cellsAt _ _ _ [.int .i64 x66452] from (show _ = [_] from hc66456) ▸ (ha66457.up H.ok.view)) ty3 rfl (fun _ => rfl) rfl rfl) rfl rfl <| nq (Q_assign rfl) rfl rfl <| WL_nil <| x_then ?_
           obtain ⟨o66474, ho66474, ho66451⟩ := bnd ho66451
           refine C_cut (fun a w' => ∃ (x66473 : Bool), x66473 = o66474 ∧ Fr 47 a [(2, .pointer (some ⟨b33268, 0, none⟩)), (5, v33277), (6, .bool x66233), (7, .int .i64 x64676), (10, .int .i64 x66452), (16, v1), (17, .int .i64 (x2.length : Int)), (18, .int .i64 x64676), (24, v65617), (25, .int .i64 (x65605.1.length : Int)), (26, .int .i64 x66229), (40, .bool x66473)] ∧ Hp C w' ρ (Box b33268 [v1, v4] :: Arr v33277 1 c66230 :: hs)) ?_ ?_
           ·refine R_nd <| nq (Q_move rfl) rfl rfl <| nq (Q_move rfl) rfl rfl ?_
            obtain ⟨x66475, hx66475, ho66474⟩ := bnd ho66474
            obtain ⟨b66476, o66477, hi66481, hc66479, ha66480⟩ := arr_at (hs := [Arr v33277 1 c66230]) (k := 0) (by decide) (H.okS (by simp)) rfl r66232 hx66475
            refine nq (Q_idx hi66481 Tryz.underlying65 ty4 rfl rfl) rfl rfl <| nq (v := .bool x66475) (Q_ld (show cellsAt _ _ _ [.bool x66475] from (show _ = [_] from hc66479) ▸ (ha66480 _ (Ok.subS (by simp) H.ok))) ty4 rfl (fun _ => rfl) rfl rfl) rfl rfl <| nq (Q_move rfl) rfl rfl ?_
            rcases Bool.eq_false_or_eq_true x66475 with hb | hb
            ·rw [hb]
             replace ho66474 := itT hb ho66474
             refine gq (Q_move rfl) rfl rfl rfl <| gq (Q_move rfl) rfl rfl rfl ?_
             obtain ⟨x66482, hx66482, ho66474⟩ := bnd ho66474
             obtain ⟨b66483, o66484, hi66488, hc66486, ha66487⟩ := arr_at (hs := [Arr v33277 1 c66230]) (k := 0) (by decide) (H.okS (by simp)) rfl r66232 hx66482
             refine gq (Q_idx hi66488 Tryz.underlying65 ty4 rfl rfl) rfl rfl rfl <| gq (v := .bool x66482) (Q_ld (show cellsAt _ _ _ [.bool x66482] from (show _ = [_] from hc66486) ▸ (ha66487 _ (Ok.subS (by simp) H.ok))) ty4 rfl (fun _ => rfl) rfl rfl) rfl rfl rfl <| gq (Q_not rfl) rfl rfl rfl <| nq (Q_pickT rfl rfl) rfl rfl <| WL_nil ?_
             replace H := H.f1
             replace H := H.f1
             obtain rfl := Option.some.inj ho66474
             refine x_A fun a hf => ⟨!x66482, rfl, hf.sub ⟨rfl, rfl, rfl, rfl, rfl, rfl, rfl, rfl, rfl, rfl, rfl, rfl, trivial⟩, H⟩
            ·rw [hb]
             replace ho66474 := itF hb ho66474
             refine gs rfl rfl rfl rfl <| gs rfl rfl rfl rfl <| gs rfl rfl rfl rfl <| gs rfl rfl rfl rfl <| gs rfl rfl rfl rfl <| nq (Q_pickF rfl rfl) rfl rfl <| WL_nil ?_
             replace H := H.f1
             replace H := H.f1
             obtain rfl := Option.some.inj ho66474
             refine x_A fun a hf => ⟨false, rfl, hf.sub ⟨rfl, rfl, rfl, rfl, rfl, rfl, rfl, rfl, rfl, rfl, rfl, rfl, trivial⟩, H⟩
           ·rintro a wd66489 ⟨x66473, rfl, hf, H⟩
            try dsimp only at ho66451
            refine CW.at hf ?_
            obtain ⟨o66505, ho66505, ho66451⟩ := bnd ho66451
            refine C_cutQ (fun a w' => ∃ (c66501 : (List Value)) (x66502 : (List Bool)) (x66504 : Bool), (x66502, x66504) = o66505 ∧ rdL eB ρ x66502 c66501 ∧ Fr 47 a [(2, .pointer (some ⟨b33268, 0, none⟩)), (5, v33277), (6, .bool x66504), (7, .int .i64 x64676), (16, v1), (17, .int .i64 (x2.length : Int)), (18, .int .i64 x64676), (24, v65617), (25, .int .i64 (x65605.1.length : Int)), (26, .int .i64 x66229)] ∧ Hp C w' ρ (Box b33268 [v1, v4] :: Arr v33277 1 c66501 :: hs)) ?_ ?_
            ·refine C_cond rfl (fun hb => ?_) (fun hb => ?_)
             ·replace ho66505 := itT hb ho66505
              refine C_seq <| R_nd <| nq (Q_move rfl) rfl rfl <| nq (Q_move rfl) rfl rfl ?_
              obtain ⟨x66506, hx66506, ho66505⟩ := bnd ho66505
              obtain ⟨b66507, o66508, hi66512, hc66510, ha66511⟩ := arr_at (hs := [Arr v33277 1 c66230]) (k := 0) (by decide) (H.okS (by simp)) rfl r66232 hx66506
              refine nq (Q_idx hi66512 Tryz.underlying65 ty4 rfl rfl) rfl rfl ?_
              obtain ⟨x66513, hx66513, ho66505⟩ := bnd ho66505
              obtain ⟨hs66514a, hs66514b, hs66514c⟩ := setI_some hx66513
              have r66515 : rdL eB ρ x66513 (setC c66230 (x66452.toNat * 1 + 0) [.bool true]) := hs66514c ▸ rdL.set r66232 hs66514b (rfl)
              refine ne (E_stA (k := 1) (j := 0) (c := [.bool true]) H rfl ty4 hi66512 rfl rfl rfl rfl (one_cons rfl one_nil) (by decide)) rfl rfl ?_
              rintro _ wd66516 H
              dsimp only [List.set] at H
              refine WL_nil <| x_then <| R_nd <| nq (Q_assign rfl) rfl rfl <| WL_nil ?_
              replace H := H.f1
              replace H := H.f1
              obtain rfl := Option.some.inj ho66505
              refine x_A fun a hf => ⟨(setC c66230 (x66452.toNat * 1 + 0) [.bool true]), x66513, true, rfl, r66515, hf.sub ⟨rfl, rfl, rfl, rfl, rfl, rfl, rfl, rfl, rfl, rfl, trivial⟩, H⟩
             ·replace ho66505 := itF hb ho66505
              refine C_skip ?_
              replace H := H.f1
              replace H := H.f1
              obtain rfl := Option.some.inj ho66505
              refine x_A fun a hf => ⟨c66230, x66231, x66233, rfl, r66232, hf.sub ⟨rfl, rfl, rfl, rfl, rfl, rfl, rfl, rfl, rfl, rfl, trivial⟩, H⟩
            ·rintro a wd66517 ⟨c66501, x66502, x66504, rfl, r66503, hf, H⟩
             try dsimp only at ho66451
             refine XX.at hf <| x_block ?_
             replace H := H.f1
             replace H := H.f1
             obtain rfl := Option.some.inj ho66451
             refine x_A fun a hf => ⟨c66501, x66502, x66504, rfl, r66503, hf.sub ⟨rfl, rfl, rfl, rfl, rfl, rfl, rfl, rfl, rfl, rfl, trivial⟩, H⟩
          ·rintro a wd66518 ⟨c66447, x66448, x66450, rfl, r66449, hf, H⟩
           try dsimp only at hB66378
           refine CW.at hf <| R_nd <| nq (Q_add rfl rfl) rfl rfl <| nq (Q_move rfl) rfl rfl <| WL_nil ?_
           replace H := H.f1
           replace H := H.f1
           obtain rfl := Option.some.inj hB66378
           refine x_A fun a hf => ⟨_, rfl, c66447, w64 (x66229 + 1), x66448, x66450, rfl, r66449, hf.sub ⟨rfl, rfl, rfl, rfl, rfl, rfl, rfl, rfl, rfl, rfl, trivial⟩, H⟩
         ·replace hB66378 := itF hb hB66378
          refine C_exit <| x_then_exit <| x_then_exit <| x_block_exit ?_
          replace H := H.f1
          replace H := H.f1
          obtain rfl := Option.some.inj hB66378
          obtain rfl := hO66379 _ rfl
          refine x_A fun a hf => ⟨c66230, x66231, x66233, rfl, r66232, hf.sub ⟨rfl, rfl, rfl, rfl, rfl, rfl, trivial⟩, H⟩
       ·rintro a wd66519 ⟨c66081, x66082, x66084, rfl, r66083, hf, H⟩
        try dsimp only at hB65602
        refine XX.at hf <| x_block <| x_then <| R_nd <| nq (Q_add rfl rfl) rfl rfl <| nq (Q_move rfl) rfl rfl <| WL_nil ?_
        replace H := H.f1
        replace H := H.f1
        obtain rfl := Option.some.inj hB65602
        refine x_A fun a hf => ⟨_, rfl, c66081, w64 (x64676 + 1), x66082, x66084, rfl, r66083, hf.sub ⟨rfl, rfl, rfl, rfl, rfl, rfl, trivial⟩, H⟩
      ·replace hB65602 := itF hb hB65602
       refine C_exit <| x_then_exit <| x_then_exit <| x_block_exit ?_
       replace H := H.f1
       replace H := H.f1
       obtain rfl := Option.some.inj hB65602
       obtain rfl := hO65603 _ rfl
       refine x_A fun a hf => ⟨c64677, x64678, x64680, rfl, r64679, hf.sub ⟨rfl, rfl, rfl, trivial⟩, H⟩
    ·rintro a wd66520 ⟨c63751, x63752, x63754, rfl, r63753, hf, H⟩
     try dsimp only at hB60984
     refine XX.at hf <| x_block ?_
     replace H := H.f1
     replace H := H.f1
     obtain rfl := Option.some.inj hB60984
     refine x_A fun a hf => ⟨_, rfl, c63751, x63752, x63754, rfl, r63753, hf.sub ⟨rfl, rfl, rfl, trivial⟩, H⟩
   ·replace hB60984 := itF hb hB60984
    refine C_exit <| x_then_exit <| x_then_exit <| x_block_exit ?_
    replace H := H.f1
    replace H := H.drop 1 rfl
    dsimp only [List.eraseIdx] at H
    obtain rfl := Option.some.inj hB60984
    obtain rfl := hO60985 _ rfl
    refine x_A fun a hf => ⟨c55441, x55442, rfl, r55443, hf.sub ⟨rfl, trivial⟩, H⟩
 ·rintro a wd66521 ⟨c49899, x49900, rfl, r49901, hf, H⟩
  try dsimp only at hF
  refine XX.at hf <| x_then <| C_seq <| R_nd <| nq (Q_move rfl) rfl rfl <| nq (Q_assign rfl) rfl rfl <| WL_nil <| x_then <| C_ret ?_
  obtain rfl := Option.some.inj hF
  exact fn_ret (l := [.tmp 4]) (vs := [v33277]) rfl rfl rfl ⟨v33277, c49899, x49900, rfl, rfl, r49901, H⟩
theorem c_40 {N : Nat} {C : Cx} {w : World} {ρ : View} {hs : List Hl} {gV : Nat → Value} {v1 : Value} {v4 : Value} {v7 : Value} {x2 : (List ((List Int) × (Int × Int × Int × Int) × Int × Int))} {x5 : (List Int)} {x8 : (List Bool)} (H : Hp C w ρ (hs)) (_gle : GErrs ρ 394 errIds gV) (r3 : RdSl ρ (eP (eL (eI .i64)) (eP (eP (eI .u64) (eP (eI .u64) (eP (eI .u64) (eI .u64)))) (eP (eI .i64) (eI .i64)))) v1 x2) (_r6 : RdSl ρ (eI .i64) v4 x5) (r9 : RdSl ρ eB v7 x8) {r : Int} (hF : F_dofferref16_Rule N x2 x5 x8 = some r) :
  Calls Tryz.prog 40 [.agg #[v1, v4], v7].toArray w (Rets (fun v w' => (∃ (x809 : Int), x809 = r ∧ .int .i64 x809 = v ∧ Hp C w' ρ (hs)))) := by
 unfold F_dofferref16_Rule at hF
 have h0 : Tryz.f40.body = some _ := rfl
 refine fn_calls' Tryz.func40 h0 (n := 39) rfl (by simp) <| C_seq <| R_nd <| ne (E_box H (vs := [v1, v4]) rfl rfl) rfl rfl ?_
 rintro _ wd811 ⟨b810, rfl, H⟩
 refine nq (Q_assign rfl) rfl rfl <| WL_nil <| x_then <| C_seq <| R_nd <| nq (Q_assign rfl) rfl rfl <| WL_nil <| x_then <| C_seq <| C_seq <| R_nd <| nq (v := .pointer (some ⟨b810, 0, none⟩)) (Q_fld Tryz.underlying29 rfl ty27 (by decide) rfl rfl) rfl rfl <| nq (v := v1) (Q_ldB (k := 0) (cs := [v1]) H.ok rfl ty27 rfl rfl rfl (fun _ => rfl) rfl) rfl rfl <| nq (Q_len Tryz.underlying27 rfl r3) rfl rfl ?_
 refine nq (Q_move rfl) rfl rfl <| WL_nil <| x_then ?_
 obtain ⟨o1210, ho1210, hF⟩ := bnd hF
 refine C_cutQ (fun a w' => ∃ (x1209 : Int), x1209 = o1210 ∧ Fr 39 a [(5, .int .i64 x1209)] ∧ Hp C w' ρ (hs)) ?_ ?_
 ·refine C_block ?_
  replace H := H.drop 0 rfl
  dsimp only [List.eraseIdx] at H
  refine C_iter (f := fun s => F_dofferref16_Rule_l0 N x2 x8 s.1 s.2) ho1210 (fun s a w' => ∃ (x1342 : Int) (x1343 : Int), (x1342, x1343) = s ∧ Fr 39 a [(1, v7), (5, .int .i64 x1343), (9, v1), (10, .int .i64 (x2.length : Int)), (11, .int .i64 x1342)] ∧ Hp C w' ρ (hs)) ?_ ?_
  ·exact fun a hf => ⟨0, (-1), rfl, hf.sub ⟨rfl, rfl, rfl, rfl, rfl, trivial⟩, H⟩
  ·rintro s o1475 a wd1478 ⟨x1342, x1343, rfl, hf, H⟩ hB1476 hO1477
   replace hB1476 : F_dofferref16_Rule_l0 N x2 x8 x1342 x1343 = some o1475 := hB1476
   unfold F_dofferref16_Rule_l0 at hB1476
   refine CW.at hf <| C_seq <| R_nd <| nq (Q_lss rfl rfl) rfl rfl <| WL_nil <| x_then <| C_seq ?_
   refine C_cond rfl (fun hb => ?_) (fun hb => ?_)
   ·replace hB1476 := itT hb hB1476
    refine C_skip <| x_then ?_
    obtain ⟨o1543, ho1543, hB1476⟩ := bnd hB1476
    refine C_cut (fun a w' => ∃ (x1542 : Int), x1542 = o1543 ∧ Fr 39 a [(1, v7), (5, .int .i64 x1542), (9, v1), (10, .int .i64 (x2.length : Int)), (11, .int .i64 x1342)] ∧ Hp C w' ρ (hs)) ?_ ?_
    ·refine C_block <| C_seq <| R_nd <| nq (Q_move rfl) rfl rfl ?_
     obtain ⟨x1544, hx1544, ho1543⟩ := bnd ho1543
     obtain ⟨b1545, o1546, c1547, hc1548, ha1549, hi1550⟩ := idxR r3 hx1544
     refine nq (Q_idx hi1550 Tryz.underlying27 ty126 rfl rfl) rfl rfl ?_
     obtain ⟨c1551, c1552, he1553, hc1554, hc1555⟩ := (id hc1548)
     obtain ⟨v1556, he1557, r1558⟩ := hc1554
     obtain ⟨c1559, c1560, he1561, hc1562, hc1563⟩ := hc1555
     obtain ⟨c1564, c1565, he1566, hc1567, hc1568⟩ := hc1562
     obtain ⟨c1569, c1570, he1571, hc1572, hc1573⟩ := hc1568
     obtain ⟨c1574, c1575, he1576, hc1577, hc1578⟩ := hc1573
     obtain ⟨c1579, c1580, he1581, hc1582, hc1583⟩ := hc1563
     refine nq (v := .agg #[v1556, .int .u64 x1544.2.1.1, .int .u64 x1544.2.1.2.1, .int .u64 x1544.2.1.2.2.1, .int .u64 x1544.2.1.2.2.2, .int .i64 x1544.2.2.1, .int .i64 x1544.2.2.2]) (Q_ld (show cellsAt _ _ _ [v1556, .int .u64 x1544.2.1.1, .int .u64 x1544.2.1.2.1, .int .u64 x1544.2.1.2.2.1, .int .u64 x1544.2.1.2.2.2, .int .i64 x1544.2.2.1, .int .i64 x1544.2.2.2] from cellsAt.cg (cat2 he1553 he1557 (cat2 he1561 (cat2 he1566 (rdI hc1567) (cat2 he1571 (rdI hc1572) (cat2 he1576 (rdI hc1577) (rdI hc1578)))) (cat2 he1581 (rdI hc1582) (rdI hc1583)))) (ha1549.up H.ok.view)) ty126 rfl (fun h => nomatch h) rfl rfl) rfl rfl <| ne (E_alloc H ty126 (zs := [.slice none 0 0, .int .u64 0, .int .u64 0, .int .u64 0, .int .u64 0, .int .i64 0, .int .i64 0]) rfl) rfl rfl ?_
     rintro _ wd1585 ⟨b1584, rfl, H⟩
     refine nq (Q_assign rfl) rfl rfl <| ne (E_stB (k := 0) (cs := [v1556, .int .u64 x1544.2.1.1, .int .u64 x1544.2.1.2.1, .int .u64 x1544.2.1.2.2.1, .int .u64 x1544.2.1.2.2.2, .int .i64 x1544.2.2.1, .int .i64 x1544.2.2.2]) (vs' := [v1556, .int .u64 x1544.2.1.1, .int .u64 x1544.2.1.2.1, .int .u64 x1544.2.1.2.2.1, .int .u64 x1544.2.1.2.2.2, .int .i64 x1544.2.2.1, .int .i64 x1544.2.2.2]) H rfl ty126 rfl rfl rfl rfl (one_cons (RdSl.one r1558) (one_cons rfl (one_cons rfl (one_cons rfl (one_cons rfl (one_cons rfl (one_cons rfl one_nil))))))) (by simp) rfl) rfl rfl ?_
     rintro _ wd1586 H
     dsimp only [List.set] at H
     refine WL_nil <| x_then ?_
     obtain ⟨o1595, ho1595, ho1543⟩ := bnd ho1543
     refine C_cut (fun a w' => ∃ (x1594 : Bool), x1594 = o1595 ∧ Fr 39 a [(1, v7), (5, .int .i64 x1343), (7, .pointer (some ⟨b1584, 0, none⟩)), (9, v1), (10, .int .i64 (x2.length : Int)), (11, .int .i64 x1342), (34, .bool x1594)] ∧ Hp C w' ρ (Box b1584 [v1556, .int .u64 x1544.2.1.1, .int .u64 x1544.2.1.2.1, .int .u64 x1544.2.1.2.2.1, .int .u64 x1544.2.1.2.2.2, .int .i64 x1544.2.2.1, .int .i64 x1544.2.2.2] :: hs)) ?_ ?_
     ·refine R_nd <| nq (Q_move rfl) rfl rfl <| nq (Q_move rfl) rfl rfl ?_
      obtain ⟨x1596, hx1596, ho1595⟩ := bnd ho1595
      obtain ⟨b1597, o1598, c1599, hc1600, ha1601, hi1602⟩ := idxR r9 hx1596
      refine nq (Q_idx hi1602 Tryz.underlying65 ty4 rfl rfl) rfl rfl <| nq (v := .bool x1596) (Q_ld (show cellsAt _ _ _ [.bool x1596] from (show _ = [_] from hc1600) ▸ (ha1601.up H.ok.view)) ty4 rfl (fun _ => rfl) rfl rfl) rfl rfl <| nq (Q_move rfl) rfl rfl ?_
      rcases Bool.eq_false_or_eq_true x1596 with hb | hb
      ·rw [hb]
       replace ho1595 := itT hb ho1595
       refine gq (v := .pointer (some ⟨b1584, 6, none⟩)) (Q_fld Tryz.underlying126 rfl ty3 (by decide) rfl rfl) rfl rfl rfl <| gq (v := .int .i64 x1544.2.2.2) (Q_ldB (k := 0) (cs := [.int .i64 x1544.2.2.2]) H.ok rfl ty3 rfl rfl rfl (fun _ => rfl) rfl) rfl rfl rfl <| gq (Q_geq rfl rfl) rfl rfl rfl <| nq (Q_pickT rfl rfl) rfl rfl <| nq (Q_move rfl) rfl rfl ?_
       rcases Bool.eq_false_or_eq_true (decide (x1544.2.2.2 ≥ 0)) with hb | hb
       ·rw [hb]
        replace ho1595 := itT hb ho1595
        refine gq (Q_move rfl) rfl rfl rfl <| gq (Q_lss rfl rfl) rfl rfl rfl <| gq (Q_move rfl) rfl rfl rfl ?_
        rcases Bool.eq_false_or_eq_true (decide (x1343 < 0)) with hb | hb
        ·rw [hb]
         replace ho1595 := itT hb ho1595
         refine gs rfl rfl rfl rfl <| gs rfl rfl rfl rfl <| gs rfl rfl rfl rfl <| gs rfl rfl rfl rfl <| gq (Q_pickT rfl rfl) rfl rfl rfl <| nq (Q_pickT rfl rfl) rfl rfl <| WL_nil ?_
         obtain rfl := Option.some.inj ho1595
         refine x_A fun a hf => ⟨true, rfl, hf.sub ⟨rfl, rfl, rfl, rfl, rfl, rfl, rfl, trivial⟩, H⟩
        ·rw [hb]
         replace ho1595 := itF hb ho1595
         refine gq (v := .pointer (some ⟨b1584, 6, none⟩)) (Q_fld Tryz.underlying126 rfl ty3 (by decide) rfl rfl) rfl rfl rfl <| gq (v := .int .i64 x1544.2.2.2) (Q_ldB (k := 0) (cs := [.int .i64 x1544.2.2.2]) H.ok rfl ty3 rfl rfl rfl (fun _ => rfl) rfl) rfl rfl rfl <| gq (Q_move rfl) rfl rfl rfl <| gq (Q_lss rfl rfl) rfl rfl rfl <| gq (Q_pickF rfl rfl) rfl rfl rfl <| nq (Q_pickT rfl rfl) rfl rfl <| WL_nil ?_
         obtain rfl := Option.some.inj ho1595
         refine x_A fun a hf => ⟨decide (x1544.2.2.2 < x1343), rfl, hf.sub ⟨rfl, rfl, rfl, rfl, rfl, rfl, rfl, trivial⟩, H⟩
       ·rw [hb]
        replace ho1595 := itF hb ho1595
        refine gs rfl rfl rfl rfl <| gs rfl rfl rfl rfl <| gs rfl rfl rfl rfl <| gsu rfl ⟨_, _, rfl, rfl, rfl⟩ rfl <| gsu rfl ⟨_, _, rfl, rfl, rfl⟩ rfl <| gsu rfl ⟨_, _, rfl, rfl, rfl⟩ rfl <| gsu rfl ⟨_, _, rfl, rfl, rfl⟩ rfl <| gs rfl rfl rfl rfl <| nq (Q_pickF rfl rfl) rfl rfl <| WL_nil ?_
        obtain rfl := Option.some.inj ho1595
        refine x_A fun a hf => ⟨false, rfl, hf.sub ⟨rfl, rfl, rfl, rfl, rfl, rfl, rfl, trivial⟩, H⟩
      ·rw [hb]
       replace ho1595 := itF hb ho1595
       refine gs rfl rfl rfl rfl <| gs rfl rfl rfl rfl <| gs rfl rfl rfl rfl <| nq (Q_pickF rfl rfl) rfl rfl <| nq (Q_move rfl) rfl rfl <| gs rfl rfl rfl rfl <| gs rfl rfl rfl rfl <| gs rfl rfl rfl rfl <| gsu rfl ⟨_, _, rfl, rfl, rfl⟩ rfl <| gsu rfl ⟨_, _, rfl, rfl, rfl⟩ rfl <| gsu rfl ⟨_, _, rfl, rfl, rfl⟩ rfl <| gsu rfl ⟨_, _, rfl, rfl, rfl⟩ rfl <| gs rfl rfl rfl rfl <| nq (Q_pickF rfl rfl) rfl rfl ?_
       refine WL_nil ?_
       obtain rfl := Option.some.inj ho1595
       refine x_A fun a hf => ⟨false, rfl, hf.sub ⟨rfl, rfl, rfl, rfl, rfl, rfl, rfl, trivial⟩, H⟩
     ·rintro a wd1603 ⟨x1594, rfl, hf, H⟩
      try dsimp only at ho1543
      refine CW.at hf ?_
      obtain ⟨o1605, ho1605, ho1543⟩ := bnd ho1543
      refine C_cutQ (fun a w' => ∃ (x1604 : Int), x1604 = o1605 ∧ Fr 39 a [(1, v7), (5, .int .i64 x1604), (9, v1), (10, .int .i64 (x2.length : Int)), (11, .int .i64 x1342)] ∧ Hp C w' ρ (hs)) ?_ ?_
      ·refine C_cond rfl (fun hb => ?_) (fun hb => ?_)
       ·replace ho1605 := itT hb ho1605
        refine R_nd <| nq (v := .pointer (some ⟨b1584, 6, none⟩)) (Q_fld Tryz.underlying126 rfl ty3 (by decide) rfl rfl) rfl rfl <| nq (v := .int .i64 x1544.2.2.2) (Q_ldB (k := 0) (cs := [.int .i64 x1544.2.2.2]) H.ok rfl ty3 rfl rfl rfl (fun _ => rfl) rfl) rfl rfl <| nq (Q_assign rfl) rfl rfl <| WL_nil ?_
        replace H := H.drop 0 rfl
        dsimp only [List.eraseIdx] at H
        obtain rfl := Option.some.inj ho1605
        refine x_A fun a hf => ⟨x1544.2.2.2, rfl, hf.sub ⟨rfl, rfl, rfl, rfl, rfl, trivial⟩, H⟩
       ·replace ho1605 := itF hb ho1605
        refine C_skip ?_
        replace H := H.drop 0 rfl
        dsimp only [List.eraseIdx] at H
        obtain rfl := Option.some.inj ho1605
        refine x_A fun a hf => ⟨x1343, rfl, hf.sub ⟨rfl, rfl, rfl, rfl, rfl, trivial⟩, H⟩
      ·rintro a wd1606 ⟨x1604, rfl, hf, H⟩
       try dsimp only at ho1543
       refine XX.at hf <| x_block ?_
       obtain rfl := Option.some.inj ho1543
       refine x_A fun a hf => ⟨x1604, rfl, hf.sub ⟨rfl, rfl, rfl, rfl, rfl, trivial⟩, H⟩
    ·rintro a wd1607 ⟨x1542, rfl, hf, H⟩
     try dsimp only at hB1476
     refine CW.at hf <| R_nd <| nq (Q_add rfl rfl) rfl rfl <| nq (Q_move rfl) rfl rfl <| WL_nil ?_
     obtain rfl := Option.some.inj hB1476
     refine x_A fun a hf => ⟨_, rfl, w64 (x1342 + 1), x1542, rfl, hf.sub ⟨rfl, rfl, rfl, rfl, rfl, trivial⟩, H⟩
   ·replace hB1476 := itF hb hB1476
    refine C_exit <| x_then_exit <| x_then_exit <| x_block_exit ?_
    obtain rfl := Option.some.inj hB1476
    obtain rfl := hO1477 _ rfl
    refine x_A fun a hf => ⟨x1343, rfl, hf.sub ⟨rfl, trivial⟩, H⟩
 ·rintro a wd1608 ⟨x1209, rfl, hf, H⟩
  try dsimp only at hF
  refine XX.at hf <| x_then <| C_seq <| R_nd <| nq (Q_move rfl) rfl rfl <| nq (Q_assign rfl) rfl rfl <| WL_nil <| x_then <| C_ret ?_
  obtain rfl := Option.some.inj hF
  exact fn_ret (l := [.tmp 4]) (vs := [.int .i64 x1209]) rfl rfl rfl ⟨x1209, rfl, rfl, H⟩
theorem c_41 {N : Nat} {C : Cx} {w : World} {ρ : View} {hs : List Hl} {gV : Nat → Value} {v1 : Value} {v4 : Value} {x2 : (List ((List Int) × (Int × Int × Int × Int) × Int × Int))} {x5 : (List Int)} {x7 : Int} (H : Hp C w ρ (hs)) (gle : GErrs ρ 394 errIds gV) (r3 : RdSl ρ (eP (eL (eI .i64)) (eP (eP (eI .u64) (eP (eI .u64) (eP (eI .u64) (eI .u64)))) (eP (eI .i64) (eI .i64)))) v1 x2) (r6 : RdSl ρ (eI .i64) v4 x5) {r : (List Bool)} (hF : F_dofferref16_Begin N x2 x5 x7 = some r) :
  Calls Tryz.prog 41 [.agg #[v1, v4], .int .i64 x7].toArray w (Rets (fun v w' => (∃ (v65 : Value) (c66 : (List Value)) (x67 : (List Bool)), x67 = r ∧ v65 = v ∧ rdL eB ρ x67 c66 ∧ Hp C w' ρ (Arr v65 1 c66 :: hs)))) := by
 unfold F_dofferref16_Begin at hF
 have h0 : Tryz.f41.body = some _ := rfl
 refine fn_calls' Tryz.func41 h0 (n := 29) rfl (by simp) <| C_seq <| R_nd <| ne (E_box H (vs := [v1, v4]) rfl rfl) rfl rfl ?_
 rintro _ wd70 ⟨b69, rfl, H⟩
 refine nq (Q_assign rfl) rfl rfl <| WL_nil <| x_then <| C_seq <| R_nd <| nq (v := .pointer (some ⟨b69, 0, none⟩)) (Q_fld Tryz.underlying29 rfl ty27 (by decide) rfl rfl) rfl rfl <| nq (v := v1) (Q_ldB (k := 0) (cs := [v1]) H.ok rfl ty27 rfl rfl rfl (fun _ => rfl) rfl) rfl rfl <| nq (Q_len Tryz.underlying27 rfl r3) rfl rfl ?_
 obtain ⟨x71, hx71, hF⟩ := bnd hF
 obtain ⟨hm73a, hm73b, hm73c⟩ := mk_some hx71
 refine ne (E_make H Tryz.underlying65 ty4 (zs := [.bool false]) rfl rfl (by decide) (by decide) rfl hm73a hm73b) rfl rfl ?_
 rintro _ wd74 ⟨b72, rfl, H⟩
 refine nq (Q_assign rfl) rfl rfl <| WL_nil <| x_then <| C_seq ?_
 obtain ⟨o76, ho76, hF⟩ := bnd hF
 refine C_cut (fun a w' => ∃ (x75 : Bool), x75 = o76 ∧ Fr 29 a [(1, .int .i64 x7), (2, .pointer (some ⟨b69, 0, none⟩)), (5, (.slice (some ⟨b72, 0, none⟩) (x2.length : Int).toNat (x2.length : Int).toNat)), (18, .bool x75)] ∧ Hp C w' ρ (Box b69 [v1, v4] :: Arr (.slice (some ⟨b72, 0, none⟩) (x2.length : Int).toNat (x2.length : Int).toNat) 1 (repC (x2.length : Int).toNat [.bool false]) :: hs)) ?_ ?_
 ·refine R_nd <| nq (Q_move rfl) rfl rfl <| nq (Q_geq rfl rfl) rfl rfl <| nq (Q_move rfl) rfl rfl ?_
  rcases Bool.eq_false_or_eq_true (decide (x7 ≥ 0)) with hb | hb
  ·rw [hb]
   replace ho76 := itT hb ho76
   refine gq (Q_move rfl) rfl rfl rfl <| gq (v := .pointer (some ⟨b69, 1, none⟩)) (Q_fld Tryz.underlying29 rfl ty23 (by decide) rfl rfl) rfl rfl rfl <| gq (v := v4) (Q_ldB (k := 1) (cs := [v4]) H.ok rfl ty23 rfl rfl rfl (fun _ => rfl) rfl) rfl rfl rfl <| gq (Q_len Tryz.underlying23 rfl r6) rfl rfl rfl <| gq (Q_lss rfl rfl) rfl rfl rfl <| nq (Q_pickT rfl rfl) rfl rfl <| WL_nil ?_
   replace H := H.f1
   obtain rfl := Option.some.inj ho76
   refine x_A fun a hf => ⟨decide (x7 < (x5.length : Int)), rfl, hf.sub ⟨rfl, rfl, rfl, rfl, trivial⟩, H⟩
  ·rw [hb]
   replace ho76 := itF hb ho76
   refine gs rfl rfl rfl rfl <| gs rfl rfl rfl rfl <| gs rfl rfl rfl rfl <| gs rfl rfl rfl rfl <| gs rfl rfl rfl rfl <| nq (Q_pickF rfl rfl) rfl rfl <| WL_nil ?_
   replace H := H.f1
   obtain rfl := Option.some.inj ho76
   refine x_A fun a hf => ⟨false, rfl, hf.sub ⟨rfl, rfl, rfl, rfl, trivial⟩, H⟩
 ·rintro a wd77 ⟨x75, rfl, hf, H⟩
  try dsimp only at hF
  refine CW.at hf ?_
  obtain ⟨o99, ho99, hF⟩ := bnd hF
  refine C_cutQ (fun a w' => ∃ (c96 : (List Value)) (x97 : (List Bool)), x97 = o99 ∧ rdL eB ρ x97 c96 ∧ Fr 29 a [(2, .pointer (some ⟨b69, 0, none⟩)), (5, (.slice (some ⟨b72, 0, none⟩) (x2.length : Int).toNat (x2.length : Int).toNat))] ∧ Hp C w' ρ (Box b69 [v1, v4] :: Arr (.slice (some ⟨b72, 0, none⟩) (x2.length : Int).toNat (x2.length : Int).toNat) 1 c96 :: hs)) ?_ ?_
  ·refine C_cond rfl (fun hb => ?_) (fun hb => ?_)
   ·replace ho99 := itT hb ho99
    refine R_nd <| nq (Q_move rfl) rfl rfl <| nq (v := .pointer (some ⟨b69, 1, none⟩)) (Q_fld Tryz.underlying29 rfl ty23 (by decide) rfl rfl) rfl rfl <| nq (v := v4) (Q_ldB (k := 0) (cs := [v4]) H.ok rfl ty23 rfl rfl rfl (fun _ => rfl) rfl) rfl rfl <| nq (Q_move rfl) rfl rfl ?_
    obtain ⟨x100, hx100, ho99⟩ := bnd ho99
    obtain ⟨b101, o102, c103, hc104, ha105, hi106⟩ := idxR r6 hx100
    refine nq (Q_idx hi106 Tryz.underlying23 ty3 rfl rfl) rfl rfl <| nq (v := .int .i64 x100) (Q_ld (show cellsAt _ _ _ [.int .i64 x100] from (show _ = [_] from hc104) ▸ (ha105.up H.ok.view)) ty3 rfl (fun _ => rfl) rfl rfl) rfl rfl ?_
    obtain ⟨x107, hx107, ho99⟩ := bnd ho99
    obtain ⟨b108, o109, hi113, hc111, ha112⟩ := arr_at (en := eB) (hs := [Arr (.slice (some ⟨b72, 0, none⟩) (x2.length : Int).toNat (x2.length : Int).toNat) 1 (repC (x2.length : Int).toNat [.bool false])]) (k := 0) (by decide) (H.okS (by simp)) rfl (hm73c ▸ rdL_rep (e := eB) (ρ := ρ) (rfl) _) hx107
    refine nq (Q_idx hi113 Tryz.underlying65 ty4 rfl rfl) rfl rfl ?_
    obtain ⟨x114, hx114, ho99⟩ := bnd ho99
    obtain ⟨hs115a, hs115b, hs115c⟩ := setI_some hx114
    have r116 : rdL eB ρ x114 (setC (repC (x2.length : Int).toNat [.bool false]) (x100.toNat * 1 + 0) [.bool true]) := hs115c ▸ rdL.set (hm73c ▸ rdL_rep (e := eB) (ρ := ρ) (rfl) _) hs115b (rfl)
    refine ne (E_stA (k := 1) (j := 0) (c := [.bool true]) H rfl ty4 hi113 rfl rfl rfl rfl (one_cons rfl one_nil) (by decide)) rfl rfl ?_
    rintro _ wd117 H
    dsimp only [List.set] at H
    refine WL_nil ?_
    replace H := H.f1
    replace H := H.f1
    obtain rfl := Option.some.inj ho99
    refine x_A fun a hf => ⟨(setC (repC (x2.length : Int).toNat [.bool false]) (x100.toNat * 1 + 0) [.bool true]), x114, rfl, r116, hf.sub ⟨rfl, rfl, trivial⟩, H⟩
   ·replace ho99 := itF hb ho99
    refine C_skip ?_
    replace H := H.f1
    replace H := H.f1
    obtain rfl := Option.some.inj ho99
    refine x_A fun a hf => ⟨(repC (x2.length : Int).toNat [.bool false]), x71, rfl, (hm73c ▸ rdL_rep (e := eB) (ρ := ρ) (rfl) _), hf.sub ⟨rfl, rfl, trivial⟩, H⟩
  ·rintro a wd118 ⟨c96, x97, rfl, r98, hf, H⟩
   try dsimp only at hF
   refine XX.at hf <| x_then <| C_seq <| R_nd <| nq (v := .agg #[v1, v4]) (Q_ldB (k := 0) (cs := [v1, v4]) H.ok rfl ty29 rfl rfl rfl (fun h => nomatch h) rfl) rfl rfl <| nq (Q_move rfl) rfl rfl ?_
   replace H := H.f1
   obtain ⟨q119, hq119, hF⟩ := bnd hF
   obtain ⟨C', ρ', hl120, HA, hL, hback⟩ := Hp.lend (A := []) (L := [Arr (.slice (some ⟨b72, 0, none⟩) (x2.length : Int).toNat (x2.length : Int).toNat) 1 c96]) (F := Box b69 [v1, v4] :: hs) H
   refine ne (E_call fn39 rfl (c_39 HA (gle.up hl120)  (r3.up hl120) (r6.up hl120) (arr_rd (by decide) hl120 (hL (Arr (.slice (some ⟨b72, 0, none⟩) (x2.length : Int).toNat (x2.length : Int).toNat) 1 c96) (by simp)) r98) hq119)) rfl rfl ?_
   rintro _ wd125 ⟨v121, c122, x123, rfl, rfl, r124, H⟩
   try dsimp only at hF
   replace H := hback H
   replace r124 := rdL.flat (ρ := ρ') (ρ' := ρ) flat_B r124
   dsimp only [List.cons_append, List.nil_append] at H
   refine nq (Q_assign rfl) rfl rfl <| WL_nil <| x_then <| C_ret ?_
   replace H := H.drop 1 rfl
   dsimp only [List.eraseIdx] at H
   replace H := H.drop 1 rfl
   dsimp only [List.eraseIdx] at H
   obtain rfl := Option.some.inj hF
   exact fn_ret (l := [.tmp 4]) (vs := [v121]) rfl rfl rfl ⟨v121, c122, x123, rfl, rfl, r124, H⟩
theorem c_42 {N : Nat} {C : Cx} {w : World} {ρ : View} {hs : List Hl} {gV : Nat → Value} {v1 : Value} {v4 : Value} {v7 : Value} {x2 : (List ((List Int) × (Int × Int × Int × Int) × Int × Int))} {x5 : (List Int)} {x8 : (List Bool)} {x10 : Int} (H : Hp C w ρ (hs)) (gle : GErrs ρ 394 errIds gV) (r3 : RdSl ρ (eP (eL (eI .i64)) (eP (eP (eI .u64) (eP (eI .u64) (eP (eI .u64) (eI .u64)))) (eP (eI .i64) (eI .i64)))) v1 x2) (r6 : RdSl ρ (eI .i64) v4 x5) (r9 : RdSl ρ eB v7 x8) {r : (List Bool)} (hF : F_dofferref16_Step N x2 x5 x8 x10 = some r) :
  Calls Tryz.prog 42 [.agg #[v1, v4], v7, .int .u8 x10].toArray w (Rets (fun v w' => (∃ (v1207 : Value) (c1208 : (List Value)) (x1209 : (List Bool)), x1209 = r ∧ v1207 = v ∧ rdL eB ρ x1209 c1208 ∧ Hp C w' ρ (Arr v1207 1 c1208 :: hs)))) := by
 unfold F_dofferref16_Step at hF
 have h0 : Tryz.f42.body = some _ := rfl
 refine fn_calls' Tryz.func42 h0 (n := 51) rfl (by simp) <| C_seq <| R_nd <| ne (E_box H (vs := [v1, v4]) rfl rfl) rfl rfl ?_
 rintro _ wd1212 ⟨b1211, rfl, H⟩
 refine nq (Q_assign rfl) rfl rfl <| WL_nil <| x_then <| C_seq <| R_nd <| nq (v := .pointer (some ⟨b1211, 0, none⟩)) (Q_fld Tryz.underlying29 rfl ty27 (by decide) rfl rfl) rfl rfl <| nq (v := v1) (Q_ldB (k := 0) (cs := [v1]) H.ok rfl ty27 rfl rfl rfl (fun _ => rfl) rfl) rfl rfl <| nq (Q_len Tryz.underlying27 rfl r3) rfl rfl ?_
 obtain ⟨x1213, hx1213, hF⟩ := bnd hF
 obtain ⟨hm1215a, hm1215b, hm1215c⟩ := mk_some hx1213
 refine ne (E_make H Tryz.underlying65 ty4 (zs := [.bool false]) rfl rfl (by decide) (by decide) rfl hm1215a hm1215b) rfl rfl ?_
 rintro _ wd1216 ⟨b1214, rfl, H⟩
 refine nq (Q_assign rfl) rfl rfl <| WL_nil <| x_then <| C_seq <| C_seq <| R_nd <| nq (v := .pointer (some ⟨b1211, 0, none⟩)) (Q_fld Tryz.underlying29 rfl ty27 (by decide) rfl rfl) rfl rfl <| nq (v := v1) (Q_ldB (k := 1) (cs := [v1]) H.ok rfl ty27 rfl rfl rfl (fun _ => rfl) rfl) rfl rfl <| nq (Q_len Tryz.underlying27 rfl r3) rfl rfl <| nq (Q_move rfl) rfl rfl <| WL_nil <| x_then ?_
 obtain ⟨o1809, ho1809, hF⟩ := bnd hF
 refine C_cutQ (fun a w' => ∃ (c1806 : (List Value)) (x1807 : (List Bool)), x1807 = o1809 ∧ rdL eB ρ x1807 c1806 ∧ Fr 51 a [(3, .pointer (some ⟨b1211, 0, none⟩)), (7, (.slice (some ⟨b1214, 0, none⟩) (x2.length : Int).toNat (x2.length : Int).toNat))] ∧ Hp C w' ρ (Box b1211 [v1, v4] :: Arr (.slice (some ⟨b1214, 0, none⟩) (x2.length : Int).toNat (x2.length : Int).toNat) 1 c1806 :: hs)) ?_ ?_
 ·refine C_block ?_
  replace H := H.f1
  refine C_iter (f := fun s => F_dofferref16_Step_l0 N x2 x8 x10 s.1 s.2) ho1809 (fun s a w' => ∃ (c2006 : (List Value)) (x2005 : Int) (x2007 : (List Bool)), (x2005, x2007) = s ∧ rdL eB ρ x2007 c2006 ∧ Fr 51 a [(1, v7), (2, .int .u8 x10), (3, .pointer (some ⟨b1211, 0, none⟩)), (7, (.slice (some ⟨b1214, 0, none⟩) (x2.length : Int).toNat (x2.length : Int).toNat)), (15, v1), (16, .int .i64 (x2.length : Int)), (17, .int .i64 x2005)] ∧ Hp C w' ρ (Box b1211 [v1, v4] :: Arr (.slice (some ⟨b1214, 0, none⟩) (x2.length : Int).toNat (x2.length : Int).toNat) 1 c2006 :: hs)) ?_ ?_
  ·exact fun a hf => ⟨(repC (x2.length : Int).toNat [.bool false]), 0, x1213, rfl, (hm1215c ▸ rdL_rep (e := eB) (ρ := ρ) (rfl) _), hf.sub ⟨rfl, rfl, rfl, rfl, rfl, rfl, rfl, trivial⟩, H⟩
  ·rintro s o2204 a wd2207 ⟨c2006, x2005, x2007, rfl, r2008, hf, H⟩ hB2205 hO2206
   replace hB2205 : F_dofferref16_Step_l0 N x2 x8 x10 x2005 x2007 = some o2204 := hB2205
   unfold F_dofferref16_Step_l0 at hB2205
   refine CW.at hf <| C_seq <| R_nd <| nq (Q_lss rfl rfl) rfl rfl <| WL_nil <| x_then <| C_seq ?_
   refine C_cond rfl (fun hb => ?_) (fun hb => ?_)
   ·replace hB2205 := itT hb hB2205
    refine C_skip <| x_then ?_
    obtain ⟨o2304, ho2304, hB2205⟩ := bnd hB2205
    refine C_cut (fun a w' => ∃ (c2301 : (List Value)) (x2302 : (List Bool)), x2302 = o2304 ∧ rdL eB ρ x2302 c2301 ∧ Fr 51 a [(1, v7), (2, .int .u8 x10), (3, .pointer (some ⟨b1211, 0, none⟩)), (7, (.slice (some ⟨b1214, 0, none⟩) (x2.length : Int).toNat (x2.length : Int).toNat)), (15, v1), (16, .int .i64 (x2.length : Int)), (17, .int .i64 x2005)] ∧ Hp C w' ρ (Box b1211 [v1, v4] :: Arr (.slice (some ⟨b1214, 0, none⟩) (x2.length : Int).toNat (x2.length : Int).toNat) 1 c2301 :: hs)) ?_ ?_
    ·refine C_block <| C_seq <| R_nd <| nq (Q_move rfl) rfl rfl ?_
     obtain ⟨x2305, hx2305, ho2304⟩ := bnd ho2304
     obtain ⟨b2306, o2307, c2308, hc2309, ha2310, hi2311⟩ := idxR r3 hx2305
     refine nq (Q_idx hi2311 Tryz.underlying27 ty126 rfl rfl) rfl rfl ?_
     obtain ⟨c2312, c2313, he2314, hc2315, hc2316⟩ := (id hc2309)
     obtain ⟨v2317, he2318, r2319⟩ := hc2315
     obtain ⟨c2320, c2321, he2322, hc2323, hc2324⟩ := hc2316
     obtain ⟨c2325, c2326, he2327, hc2328, hc2329⟩ := hc2323
     obtain ⟨c2330, c2331, he2332, hc2333, hc2334⟩ := hc2329
     obtain ⟨c2335, c2336, he2337, hc2338, hc2339⟩ := hc2334
     obtain ⟨c2340, c2341, he2342, hc2343, hc2344⟩ := hc2324
     refine nq (v := .agg #[v2317, .int .u64 x2305.2.1.1, .int .u64 x2305.2.1.2.1, .int .u64 x2305.2.1.2.2.1, .int .u64 x2305.2.1.2.2.2, .int .i64 x2305.2.2.1, .int .i64 x2305.2.2.2]) (Q_ld (show cellsAt _ _ _ [v2317, .int .u64 x2305.2.1.1, .int .u64 x2305.2.1.2.1, .int .u64 x2305.2.1.2.2.1, .int .u64 x2305.2.1.2.2.2, .int .i64 x2305.2.2.1, .int .i64 x2305.2.2.2] from cellsAt.cg (cat2 he2314 he2318 (cat2 he2322 (cat2 he2327 (rdI hc2328) (cat2 he2332 (rdI hc2333) (cat2 he2337 (rdI hc2338) (rdI hc2339)))) (cat2 he2342 (rdI hc2343) (rdI hc2344)))) (ha2310.up H.ok.view)) ty126 rfl (fun h => nomatch h) rfl rfl) rfl rfl <| ne (E_alloc H ty126 (zs := [.slice none 0 0, .int .u64 0, .int .u64 0, .int .u64 0, .int .u64 0, .int .i64 0, .int .i64 0]) rfl) rfl rfl ?_
     rintro _ wd2346 ⟨b2345, rfl, H⟩
     refine nq (Q_assign rfl) rfl rfl <| ne (E_stB (k := 0) (cs := [v2317, .int .u64 x2305.2.1.1, .int .u64 x2305.2.1.2.1, .int .u64 x2305.2.1.2.2.1, .int .u64 x2305.2.1.2.2.2, .int .i64 x2305.2.2.1, .int .i64 x2305.2.2.2]) (vs' := [v2317, .int .u64 x2305.2.1.1, .int .u64 x2305.2.1.2.1, .int .u64 x2305.2.1.2.2.1, .int .u64 x2305.2.1.2.2.2, .int .i64 x2305.2.2.1, .int .i64 x2305.2.2.2]) H rfl ty126 rfl rfl rfl rfl (one_cons (RdSl.one r2319) (one_cons rfl (one_cons rfl (one_cons rfl (one_cons rfl (one_cons rfl (one_cons rfl one_nil))))))) (by simp) rfl) rfl rfl ?_
     rintro _ wd2347 H
     dsimp only [List.set] at H
     refine WL_nil <| x_then ?_
     obtain ⟨o2359, ho2359, ho2304⟩ := bnd ho2304
     refine C_cut (fun a w' => ∃ (x2358 : Bool), x2358 = o2359 ∧ Fr 51 a [(1, v7), (2, .int .u8 x10), (3, .pointer (some ⟨b1211, 0, none⟩)), (7, (.slice (some ⟨b1214, 0, none⟩) (x2.length : Int).toNat (x2.length : Int).toNat)), (9, .pointer (some ⟨b2345, 0, none⟩)), (15, v1), (16, .int .i64 (x2.length : Int)), (17, .int .i64 x2005), (42, .bool x2358)] ∧ Hp C w' ρ (Box b1211 [v1, v4] :: Arr (.slice (some ⟨b1214, 0, none⟩) (x2.length : Int).toNat (x2.length : Int).toNat) 1 c2006 :: Box b2345 [v2317, .int .u64 x2305.2.1.1, .int .u64 x2305.2.1.2.1, .int .u64 x2305.2.1.2.2.1, .int .u64 x2305.2.1.2.2.2, .int .i64 x2305.2.2.1, .int .i64 x2305.2.2.2] :: hs)) ?_ ?_
     ·refine R_nd <| nq (Q_move rfl) rfl rfl <| nq (Q_move rfl) rfl rfl ?_
      obtain ⟨x2360, hx2360, ho2359⟩ := bnd ho2359
      obtain ⟨b2361, o2362, c2363, hc2364, ha2365, hi2366⟩ := idxR r9 hx2360
      refine nq (Q_idx hi2366 Tryz.underlying65 ty4 rfl rfl) rfl rfl <| nq (v := .bool x2360) (Q_ld (show cellsAt _ _ _ [.bool x2360] from (show _ = [_] from hc2364) ▸ (ha2365.up H.ok.view)) ty4 rfl (fun _ => rfl) rfl rfl) rfl rfl <| nq (Q_move rfl) rfl rfl ?_
      rcases Bool.eq_false_or_eq_true x2360 with hb | hb
      ·rw [hb]
       replace ho2359 := itT hb ho2359
       refine gq (v := .pointer (some ⟨b2345, 5, none⟩)) (Q_fld Tryz.underlying126 rfl ty3 (by decide) rfl rfl) rfl rfl rfl <| gq (v := .int .i64 x2305.2.2.1) (Q_ldB (k := 0) (cs := [.int .i64 x2305.2.2.1]) H.ok rfl ty3 rfl rfl rfl (fun _ => rfl) rfl) rfl rfl rfl <| gq (Q_geq rfl rfl) rfl rfl rfl <| nq (Q_pickT rfl rfl) rfl rfl <| nq (Q_move rfl) rfl rfl ?_
       rcases Bool.eq_false_or_eq_true (decide (x2305.2.2.1 ≥ 0)) with hb | hb
       ·rw [hb]
        replace ho2359 := itT hb ho2359
        refine gq (Q_move rfl) rfl rfl rfl <| gq (Q_quo rfl rfl (by decide)) rfl rfl rfl <| gq (v := .pointer (some ⟨b2345, 1, none⟩)) (Q_fld Tryz.underlying126 rfl ty38 (by decide) rfl rfl) rfl rfl rfl ?_
        obtain ⟨x2367, hx2367, ho2359⟩ := bnd ho2359
        have hn2368 := idx_lt (N := 4) (xs := [x2305.2.1.1, x2305.2.1.2.1, x2305.2.1.2.2.1, x2305.2.1.2.2.2]) rfl hx2367
        refine gq (v := .pointer (some ⟨b2345, 1 + (IntKind.wrap .u8 (x10.tdiv 64)).toNat * 1, none⟩)) (Q_idxA hn2368.1 hn2368.2 Tryz.underlying38 ty37 rfl rfl) rfl rfl rfl <| gq (v := .int .u64 x2367) (Q_ldX (j := 0) (o := 1) (k := .u64) (xs := [x2305.2.1.1, x2305.2.1.2.1, x2305.2.1.2.2.1, x2305.2.1.2.2.2]) H.ok rfl ty37 rfl rfl hx2367) rfl rfl rfl <| gq (Q_move rfl) rfl rfl rfl <| gq (Q_rem rfl rfl (by decide)) rfl rfl rfl ?_
        obtain ⟨x2369, hx2369, ho2359⟩ := bnd ho2359
        refine gq (Q_shr rfl rfl (nn_some hx2369)) rfl rfl rfl <| gq (Q_rem rfl rfl (by decide)) rfl rfl rfl <| gq (Q_eql rfl rfl) rfl rfl rfl <| nq (Q_pickT rfl rfl) rfl rfl <| WL_nil ?_
        replace H := H.f2
        replace H := H.f2
        obtain rfl := Option.some.inj ho2359
        refine x_A fun a hf => ⟨((shrI .u64 x2367 (x10.tmod 64)).tmod 2) == 1, rfl, hf.sub ⟨rfl, rfl, rfl, rfl, rfl, rfl, rfl, rfl, rfl, trivial⟩, H⟩
       ·rw [hb]
        replace ho2359 := itF hb ho2359
        refine gs rfl rfl rfl rfl <| gs rfl rfl rfl rfl <| gs rfl rfl rfl rfl <| gs rfl rfl rfl rfl <| gs rfl rfl rfl rfl <| gs rfl rfl rfl rfl <| gs rfl rfl rfl rfl <| gs rfl rfl rfl rfl <| gs rfl rfl rfl rfl <| gs rfl rfl rfl rfl <| nq (Q_pickF rfl rfl) rfl rfl <| WL_nil ?_
        replace H := H.f2
        replace H := H.f2
        obtain rfl := Option.some.inj ho2359
        refine x_A fun a hf => ⟨false, rfl, hf.sub ⟨rfl, rfl, rfl, rfl, rfl, rfl, rfl, rfl, rfl, trivial⟩, H⟩
      ·rw [hb]
       replace ho2359 := itF hb ho2359
       refine gs rfl rfl rfl rfl <| gs rfl rfl rfl rfl <| gs rfl rfl rfl rfl <| nq (Q_pickF rfl rfl) rfl rfl <| nq (Q_move rfl) rfl rfl <| gs rfl rfl rfl rfl <| gs rfl rfl rfl rfl <| gs rfl rfl rfl rfl <| gs rfl rfl rfl rfl <| gs rfl rfl rfl rfl <| gs rfl rfl rfl rfl <| gs rfl rfl rfl rfl <| gs rfl rfl rfl rfl <| gs rfl rfl rfl rfl ?_
       refine gs rfl rfl rfl rfl <| nq (Q_pickF rfl rfl) rfl rfl <| WL_nil ?_
       replace H := H.f2
       replace H := H.f2
       obtain rfl := Option.some.inj ho2359
       refine x_A fun a hf => ⟨false, rfl, hf.sub ⟨rfl, rfl, rfl, rfl, rfl, rfl, rfl, rfl, rfl, trivial⟩, H⟩
     ·rintro a wd2370 ⟨x2358, rfl, hf, H⟩
      try dsimp only at ho2304
      refine CW.at hf ?_
      obtain ⟨o2385, ho2385, ho2304⟩ := bnd ho2304
      refine C_cutQ (fun a w' => ∃ (c2382 : (List Value)) (x2383 : (List Bool)), x2383 = o2385 ∧ rdL eB ρ x2383 c2382 ∧ Fr 51 a [(1, v7), (2, .int .u8 x10), (3, .pointer (some ⟨b1211, 0, none⟩)), (7, (.slice (some ⟨b1214, 0, none⟩) (x2.length : Int).toNat (x2.length : Int).toNat)), (15, v1), (16, .int .i64 (x2.length : Int)), (17, .int .i64 x2005)] ∧ Hp C w' ρ (Box b1211 [v1, v4] :: Arr (.slice (some ⟨b1214, 0, none⟩) (x2.length : Int).toNat (x2.length : Int).toNat) 1 c2382 :: hs)) ?_ ?_
      ·refine C_cond rfl (fun hb => ?_) (fun hb => ?_)
       ·replace ho2385 := itT hb ho2385
        refine R_nd <| nq (Q_move rfl) rfl rfl <| nq (v := .pointer (some ⟨b2345, 5, none⟩)) (Q_fld Tryz.underlying126 rfl ty3 (by decide) rfl rfl) rfl rfl <| nq (v := .int .i64 x2305.2.2.1) (Q_ldB (k := 2) (cs := [.int .i64 x2305.2.2.1]) H.ok rfl ty3 rfl rfl rfl (fun _ => rfl) rfl) rfl rfl ?_
        obtain ⟨x2386, hx2386, ho2385⟩ := bnd ho2385
        obtain ⟨b2387, o2388, hi2392, hc2390, ha2391⟩ := arr_at (hs := [Arr (.slice (some ⟨b1214, 0, none⟩) (x2.length : Int).toNat (x2.length : Int).toNat) 1 c2006]) (k := 0) (by decide) (H.okS (by simp)) rfl r2008 hx2386
        refine nq (Q_idx hi2392 Tryz.underlying65 ty4 rfl rfl) rfl rfl ?_
        obtain ⟨x2393, hx2393, ho2385⟩ := bnd ho2385
        obtain ⟨hs2394a, hs2394b, hs2394c⟩ := setI_some hx2393
        have r2395 : rdL eB ρ x2393 (setC c2006 (x2305.2.2.1.toNat * 1 + 0) [.bool true]) := hs2394c ▸ rdL.set r2008 hs2394b (rfl)
        refine ne (E_stA (k := 1) (j := 0) (c := [.bool true]) H rfl ty4 hi2392 rfl rfl rfl rfl (one_cons rfl one_nil) (by decide)) rfl rfl ?_
        rintro _ wd2396 H
        dsimp only [List.set] at H
        refine WL_nil ?_
        replace H := H.f1
        replace H := H.f1
        replace H := H.drop 2 rfl
        dsimp only [List.eraseIdx] at H
        obtain rfl := Option.some.inj ho2385
        refine x_A fun a hf => ⟨(setC c2006 (x2305.2.2.1.toNat * 1 + 0) [.bool true]), x2393, rfl, r2395, hf.sub ⟨rfl, rfl, rfl, rfl, rfl, rfl, rfl, trivial⟩, H⟩
       ·replace ho2385 := itF hb ho2385
        refine C_skip ?_
        replace H := H.f1
        replace H := H.f1
        replace H := H.drop 2 rfl
        dsimp only [List.eraseIdx] at H
        obtain rfl := Option.some.inj ho2385
        refine x_A fun a hf => ⟨c2006, x2007, rfl, r2008, hf.sub ⟨rfl, rfl, rfl, rfl, rfl, rfl, rfl, trivial⟩, H⟩
      ·rintro a wd2397 ⟨c2382, x2383, rfl, r2384, hf, H⟩
       try dsimp only at ho2304
       refine XX.at hf <| x_block ?_
       replace H := H.f1
       replace H := H.f1
       obtain rfl := Option.some.inj ho2304
       refine x_A fun a hf => ⟨c2382, x2383, rfl, r2384, hf.sub ⟨rfl, rfl, rfl, rfl, rfl, rfl, rfl, trivial⟩, H⟩
    ·rintro a wd2398 ⟨c2301, x2302, rfl, r2303, hf, H⟩
     try dsimp only at hB2205
     refine CW.at hf <| R_nd <| nq (Q_add rfl rfl) rfl rfl <| nq (Q_move rfl) rfl rfl <| WL_nil ?_
     replace H := H.f1
     replace H := H.f1
     obtain rfl := Option.some.inj hB2205
     refine x_A fun a hf => ⟨_, rfl, c2301, w64 (x2005 + 1), x2302, rfl, r2303, hf.sub ⟨rfl, rfl, rfl, rfl, rfl, rfl, rfl, trivial⟩, H⟩
   ·replace hB2205 := itF hb hB2205
    refine C_exit <| x_then_exit <| x_then_exit <| x_block_exit ?_
    replace H := H.f1
    replace H := H.f1
    obtain rfl := Option.some.inj hB2205
    obtain rfl := hO2206 _ rfl
    refine x_A fun a hf => ⟨c2006, x2007, rfl, r2008, hf.sub ⟨rfl, rfl, trivial⟩, H⟩
 ·rintro a wd2399 ⟨c1806, x1807, rfl, r1808, hf, H⟩
  try dsimp only at hF
  refine XX.at hf <| x_then <| C_seq <| R_nd <| nq (v := .agg #[v1, v4]) (Q_ldB (k := 0) (cs := [v1, v4]) H.ok rfl ty29 rfl rfl rfl (fun h => nomatch h) rfl) rfl rfl <| nq (Q_move rfl) rfl rfl ?_
  replace H := H.f1
  obtain ⟨q2400, hq2400, hF⟩ := bnd hF
  obtain ⟨C', ρ', hl2401, HA, hL, hback⟩ := Hp.lend (A := []) (L := [Arr (.slice (some ⟨b1214, 0, none⟩) (x2.length : Int).toNat (x2.length : Int).toNat) 1 c1806]) (F := Box b1211 [v1, v4] :: hs) H
  refine ne (E_call fn39 rfl (c_39 HA (gle.up hl2401)  (r3.up hl2401) (r6.up hl2401) (arr_rd (by decide) hl2401 (hL (Arr (.slice (some ⟨b1214, 0, none⟩) (x2.length : Int).toNat (x2.length : Int).toNat) 1 c1806) (by simp)) r1808) hq2400)) rfl rfl ?_
  rintro _ wd2406 ⟨v2402, c2403, x2404, rfl, rfl, r2405, H⟩
  try dsimp only at hF
  replace H := hback H
  replace r2405 := rdL.flat (ρ := ρ') (ρ' := ρ) flat_B r2405
  dsimp only [List.cons_append, List.nil_append] at H
  refine nq (Q_assign rfl) rfl rfl <| WL_nil <| x_then <| C_ret ?_
  replace H := H.drop 1 rfl
  dsimp only [List.eraseIdx] at H
  replace H := H.drop 1 rfl
  dsimp only [List.eraseIdx] at H
  obtain rfl := Option.some.inj hF
  exact fn_ret (l := [.tmp 6]) (vs := [v2402]) rfl rfl rfl ⟨v2402, c2403, x2404, rfl, rfl, r2405, H⟩
theorem c_23 {N : Nat} {C : Cx} {w : World} {ρ : View} {hs : List Hl} {gV : Nat → Value} {v1 : Value} {v4 : Value} {v8 : Value} {x2 : (List ((List Int) × (Int × Int × Int × Int) × Int × Int))} {x5 : (List Int)} {x7 : Int} {x9 : (List Int)} {x11 : Int} {x12 : Int} (H : Hp C w ρ (hs)) (gle : GErrs ρ 394 errIds gV) (gl18 : GTab ρ 18 .u8 tab_math_bits_deBruijn64tab) (r3 : RdSl ρ (eP (eL (eI .i64)) (eP (eP (eI .u64) (eP (eI .u64) (eP (eI .u64) (eI .u64)))) (eP (eI .i64) (eI .i64)))) v1 x2) (r6 : RdSl ρ (eI .i64) v4 x5) (r10 : RdSl ρ (eI .u8) v8 x9) {r : (Int × Int)} (hF : F_walk_Longest N x2 x5 x7 x9 x11 x12 = some r) :
  Calls Tryz.prog 23 [.agg #[v1, v4], .int .i64 x7, v8, .int .i64 x11, .int .i64 x12].toArray w (Rets (fun v w' => (∃ (ρ' : View) (x142 : Int) (x143 : Int), (x142, x143) = r ∧ .tuple [.int .i64 x142, .int .i64 x143].toArray = v ∧ View.le ρ ρ' ∧ Hp C w' ρ' (hs)))) := by
 unfold F_walk_Longest at hF
 have h0 : Tryz.f23.body = some _ := rfl
 refine fn_callsM Tryz.func23 h0 (n := 53) rfl (by simp) <| C_seq <| R_nd <| ne (E_box H (vs := [v1, v4]) rfl rfl) rfl rfl ?_
 rintro _ wd145 ⟨b144, rfl, H⟩
 refine ne (E_box H (vs := [.int .i64 x12]) rfl rfl) rfl rfl ?_
 rintro _ wd147 ⟨b146, rfl, H⟩
 refine nq (Q_assign rfl) rfl rfl <| nq (Q_assign rfl) rfl rfl <| WL_nil <| x_then <| C_seq <| R_nd <| ne (E_alloc H ty3 (zs := [.int .i64 0]) rfl) rfl rfl ?_
 rintro _ wd149 ⟨b148, rfl, H⟩
 refine ne (E_alloc H ty3 (zs := [.int .i64 0]) rfl) rfl rfl ?_
 rintro _ wd151 ⟨b150, rfl, H⟩
 refine ne (E_stB (k := 1) (cs := [.int .i64 0]) (vs' := [.int .i64 0]) H rfl ty3 rfl rfl rfl rfl (one_cons rfl one_nil) (by simp) rfl) rfl rfl ?_
 rintro _ wd152 H
 dsimp only [List.set] at H
 refine ne (E_stB (k := 0) (cs := [.int .i64 (-1)]) (vs' := [.int .i64 (-1)]) H rfl ty3 rfl rfl rfl rfl (one_cons rfl one_nil) (by simp) rfl) rfl rfl ?_
 rintro _ wd153 H
 dsimp only [List.set] at H
 refine WL_nil <| x_then <| C_seq ?_
 obtain ⟨o159, ho159, hF⟩ := bnd hF
 refine C_cut (fun a w' => ∃ (x158 : Bool), x158 = o159 ∧ Fr 53 a [(1, .int .i64 x7), (2, v8), (3, .int .i64 x11), (5, .pointer (some ⟨b144, 0, none⟩)), (9, .pointer (some ⟨b146, 0, none⟩)), (10, .int .i64 0), (11, .int .i64 0), (12, .pointer (some ⟨b148, 0, none⟩)), (13, .pointer (some ⟨b150, 0, none⟩)), (28, .bool x158)] ∧ Hp C w' ρ (Box b148 [.int .i64 0] :: Box b150 [.int .i64 (-1)] :: Box b144 [v1, v4] :: Box b146 [.int .i64 x12] :: hs)) ?_ ?_
 ·refine R_nd <| nq (Q_move rfl) rfl rfl <| nq (Q_lss rfl rfl) rfl rfl <| nq (Q_move rfl) rfl rfl ?_
  rcases Bool.eq_false_or_eq_true (decide (x11 < 0)) with hb | hb
  ·rw [hb]
   replace ho159 := itT hb ho159
   refine gs rfl rfl rfl rfl <| gs rfl rfl rfl rfl <| gs rfl rfl rfl rfl <| gs rfl rfl rfl rfl <| nq (Q_pickT rfl rfl) rfl rfl <| nq (Q_move rfl) rfl rfl <| gs rfl rfl rfl rfl <| gs rfl rfl rfl rfl <| gs rfl rfl rfl rfl <| nq (Q_pickT rfl rfl) rfl rfl <| WL_nil ?_
   replace H := H.f2
   replace H := H.f3
   replace H := H.f2
   replace H := H.f3
   obtain rfl := Option.some.inj ho159
   refine x_A fun a hf => ⟨true, rfl, hf.sub ⟨rfl, rfl, rfl, rfl, rfl, rfl, rfl, rfl, rfl, rfl, trivial⟩, H⟩
  ·rw [hb]
   replace ho159 := itF hb ho159
   refine gq (Q_move rfl) rfl rfl rfl <| gq (Q_move rfl) rfl rfl rfl <| gq (Q_len Tryz.underlying42 rfl r10) rfl rfl rfl <| gq (Q_gtr rfl rfl) rfl rfl rfl <| nq (Q_pickF rfl rfl) rfl rfl <| nq (Q_move rfl) rfl rfl ?_
   rcases Bool.eq_false_or_eq_true (decide (x11 > (x9.length : Int))) with hb | hb
   ·rw [hb]
    replace ho159 := itT hb ho159
    refine gs rfl rfl rfl rfl <| gs rfl rfl rfl rfl <| gs rfl rfl rfl rfl <| nq (Q_pickT rfl rfl) rfl rfl <| WL_nil ?_
    replace H := H.f2
    replace H := H.f3
    replace H := H.f2
    replace H := H.f3
    obtain rfl := Option.some.inj ho159
    refine x_A fun a hf => ⟨true, rfl, hf.sub ⟨rfl, rfl, rfl, rfl, rfl, rfl, rfl, rfl, rfl, rfl, trivial⟩, H⟩
   ·rw [hb]
    replace ho159 := itF hb ho159
    refine gq (v := .agg #[v1, v4]) (Q_ldB (k := 3) (cs := [v1, v4]) H.ok rfl ty25 rfl rfl rfl (fun h => nomatch h) rfl) rfl rfl rfl ?_
    obtain ⟨q160, hq160, ho159⟩ := bnd ho159
    refine ge (E_call fn18 rfl (c_18 H gle  r3 r6 hq160)) rfl rfl rfl ?_
    rintro _ wd163 ⟨x162, rfl, rfl, H⟩
    try dsimp only at ho159
    refine gq (Q_not rfl) rfl rfl rfl <| nq (Q_pickF rfl rfl) rfl rfl <| WL_nil ?_
    replace H := H.f2
    replace H := H.f3
    replace H := H.f2
    replace H := H.f3
    obtain rfl := Option.some.inj ho159
    refine x_A fun a hf => ⟨!x162, rfl, hf.sub ⟨rfl, rfl, rfl, rfl, rfl, rfl, rfl, rfl, rfl, rfl, trivial⟩, H⟩
 ·rintro a wd164 ⟨x158, rfl, hf, H⟩
  try dsimp only at hF
  refine CW.at hf ?_
  refine C_cond rfl (fun hb => ?_) (fun hb => ?_)
  ·replace hF := itT hb hF
   refine C_seq <| R_dr (.take 0 (.take 1 (.take 2 (.take 3 .done)))) (fun w' => Ok w' ρ [Box b148 [.int .i64 0], Box b150 [.int .i64 (-1)], Box b144 [v1, v4], Box b146 [.int .i64 x12]]) (by kernel_rfl) (by kernel_rfl) (by kernel_rfl) (H.drew.okS (by simp)) ?_
   replace H := H.drew
   refine dq (v := .int .i64 0) rfl (fun _ hw => Q_ldB (k := 0) (cs := [.int .i64 0]) hw rfl ty3 rfl rfl rfl (fun _ => rfl) rfl) rfl rfl <| dq (v := .int .i64 (-1)) rfl (fun _ hw => Q_ldB (k := 1) (cs := [.int .i64 (-1)]) hw rfl ty3 rfl rfl rfl (fun _ => rfl) rfl) rfl rfl <| dq rfl (fun _ _ => Q_assign rfl) rfl rfl <| dq rfl (fun _ _ => Q_assign rfl) rfl rfl <| DL_nil <| x_then <| C_ret <| x_then_ret ?_
   have hRV : RV Tryz.prog wd164.drew [(10, .int .i64 0), (11, .int .i64 (-1))] [.tmp 10, .tmp 11] [.int .i64 0, .int .i64 (-1)] := ⟨rfl, rfl, trivial⟩
   replace H := H.drop 0 rfl
   dsimp only [List.eraseIdx] at H
   replace H := H.drop 0 rfl
   dsimp only [List.eraseIdx] at H
   replace H := H.drop 0 rfl
   dsimp only [List.eraseIdx] at H
   replace H := H.drop 0 rfl
   dsimp only [List.eraseIdx] at H
   obtain rfl := Option.some.inj hF
   exact fn_retM (rs := [.tmp 10, .tmp 11]) (vs := [.int .i64 0, .int .i64 (-1)]) rfl hRV ⟨ρ, 0, (-1), rfl, rfl, (View.le_refl _), H⟩
  ·replace hF := itF hb hF
   refine C_skip <| x_then <| C_seq <| C_seq <| R_dr (.take 0 (.take 1 (.take 2 (.take 3 (.take 4 (.take 5 (.one 6 .done))))))) (fun w' => Ok w' ρ [Box b148 [.int .i64 0], Box b150 [.int .i64 (-1)], Box b144 [v1, v4], Box b146 [.int .i64 x12]]) (by kernel_rfl) (by kernel_rfl) (by kernel_rfl) (H.drew.okS (by simp)) ?_
   replace H := H.drew
   refine dq (v := .agg #[v1, v4]) rfl (fun _ hw => Q_ldB (k := 2) (cs := [v1, v4]) hw rfl ty25 rfl rfl rfl (fun h => nomatch h) rfl) rfl rfl <| dq (v := .agg #[v1, v4]) rfl (fun _ _ => Q_buildS st135.choose_spec (ps := [(0, [v1, v4])]) rfl ⟨rfl, rfl, by simp, trivial⟩ rfl) rfl rfl <| dq rfl (fun _ _ => Q_move rfl) rfl rfl <| dq rfl (fun _ _ => Q_move rfl) rfl rfl <| dq rfl (fun _ _ => Q_move rfl) rfl rfl ?_
   obtain ⟨x165, hx165, hF⟩ := bnd hF
   obtain ⟨hs166a, hs166b, hs166c, hs166d⟩ := slc_some hx165
   obtain ⟨v167, r168, hq169⟩ := sliceR r10 hs166a hs166b hs166c
   rw [← hs166d] at r168
   refine dq (v := v167) rfl (fun _ _ => hq169 _ _ _ _ _ _ _ _ _ _ _ _ _ _ _ Tryz.underlying42 ty5 rfl ⟨_, rfl⟩ rfl) rfl rfl ?_
   obtain ⟨q170, hq170, hF⟩ := bnd hF
   refine d1 (de rfl (E_call fn80 rfl (c_80 H gle  r3 r6 r168 hq170)) rfl rfl ?_)
   rintro _ wd175 ⟨b172, b173, b174, rfl, rfl, H⟩
   try dsimp only at hF
   refine ⟨H.okS (by simp), ?_⟩
   refine DL_nil <| x_then <| C_block ?_
   replace H := H.f2
   replace H := H.f2
   replace H := H.f2
   replace H := H.f6
   replace H := H.f5
   replace H := H.f5
   replace H := H.drop 6 rfl
   dsimp only [List.eraseIdx] at H
   obtain ⟨q238, hq238, hF⟩ := bnd hF
   obtain ⟨q2381_, b239⟩ := q238
   refine C_range (σ := ((Int × Int) ⊕ (Int × Int))) (α := (Int × Int)) (s0 := (.inl (0, (-1)))) (r := (q2381_, b239)) (I := (IS (fun ρ (s : (Int × Int)) A => ∃ (x206 : Int) (x207 : Int), (x206, x207) = s ∧ A = Star [Box b148 [.int .i64 x206], Box b150 [.int .i64 x207], Box b146 [.int .i64 x12]]) (fun ρ (s : (Int × Int)) A => ∃ (x236 : Int) (x237 : Int), (x236, x237) = s ∧ A = Star [Box b148 [.int .i64 x236], Box b150 [.int .i64 x237]]))) (R := (fun _ x args => args = #[.int .i64 x.1, .int .i64 x.2])) (Y := (YS (σ1 := (Int × Int)) (σ2 := (Int × Int)) (fun x s => F_walk_Longest_r0 N x12 x.1 x.2 s.1 s.2))) [Box b172 [v1, v4], Box b173 [.int .i64 x7], Box b174 [v167]] (fun _ => (.exit 0)) rfl fn129 (Hp.star (L := [Box b148 [.int .i64 0], Box b150 [.int .i64 (-1)], Box b146 [.int .i64 x12]]) H) (IS.l ⟨0, (-1), rfl, rfl⟩) rfl ?_ ?_ ?_
   ·intro a_ hfa l fn_ D
    refine YC.of2 ?_
    intro C w ρ hs s A x args r240 hle hIx hA242 H hF241
    obtain ⟨x176, x177⟩ := x
    obtain ⟨x206, x207, rfl, rfl⟩ := hIx
    obtain rfl := hA242
    replace gle := GErrs.up hle gle
    replace gl18 := GTab.up hle gl18
    replace hF241 : F_walk_Longest_r0 N x12 x176 x177 x206 x207 = some r240 := hF241
    unfold F_walk_Longest_r0 at hF241
    refine yieldAt (n := 53) (E := ((39, .int .i64 x177) :: ((38, .int .i64 x176) :: [(9, .pointer (some ⟨b146, 0, none⟩)), (10, .int .i64 0), (11, .int .i64 0), (12, .pointer (some ⟨b148, 0, none⟩)), (13, .pointer (some ⟨b150, 0, none⟩))]))) (ps := [38, 39]) (vs := [.int .i64 x176, .int .i64 x177]) H rfl rfl rfl rfl rfl rfl rfl ?_ (Fr.params (E := [(9, .pointer (some ⟨b146, 0, none⟩)), (10, .int .i64 0), (11, .int .i64 0), (12, .pointer (some ⟨b148, 0, none⟩)), (13, .pointer (some ⟨b150, 0, none⟩))]) ⟨hfa.size, rfl, (hfa.sub (E' := [(9, .pointer (some ⟨b146, 0, none⟩)), (10, .int .i64 0), (11, .int .i64 0), (12, .pointer (some ⟨b148, 0, none⟩)), (13, .pointer (some ⟨b150, 0, none⟩))]) ⟨rfl, rfl, rfl, rfl, rfl, trivial⟩).slots⟩ (by decide) rfl)
    obtain ⟨o, ho, H⟩ := H.ydOpen
    dsimp only [List.cons_append, List.nil_append] at H
    refine C_seq <| R_nd <| nq (Q_assign rfl) rfl rfl <| WL_nil <| x_then <| R_nd <| nq (Q_assign rfl) rfl rfl <| WL_nil <| x_begin (by rw [ho]; rfl) H ?_
    intro wd243 H
    obtain ⟨o257, ho257, hF241⟩ := bnd hF241
    refine C_cutQ (fun a w' => ∃ (x255 : Int) (x256 : Int), .inl (x255, x256) = o257 ∧ Fr 53 a [] ∧ Hp C w' ρ (Box b148 [.int .i64 x255] :: Box b150 [.int .i64 x256] :: Box b146 [.int .i64 x12] :: Yd l ({ o with state := .busy }) (Star []) :: hs)) ?_ ?_
    ·refine C_block <| C_seq <| C_seq <| R_nd <| nq (Q_move rfl) rfl rfl <| nq (v := .int .i64 x12) (Q_ldB (k := 3) (cs := [.int .i64 x12]) H.ok rfl ty3 rfl rfl rfl (fun _ => rfl) rfl) rfl rfl <| nq (Q_gtr rfl rfl) rfl rfl <| WL_nil <| x_then ?_
     refine C_cond rfl (fun hb => ?_) (fun hb => ?_)
     ·replace ho257 := itT hb ho257
      refine C_exit <| x_then_exit <| x_block_other rfl <| x_then_exit ?_
      replace H := H.f2
      replace H := H.f2
      replace H := H.drop 3 rfl
      dsimp only [List.eraseIdx] at H
      replace H := H.f2
      obtain rfl := Option.some.inj ho257
      obtain rfl := Option.some.inj (show some _ = some _ from hF241)
      subst ho
      refine x_round_exit H (fun w_ H => ?_)
      exact ⟨rfl, ρ, _, (View.le_refl _), IS.r ⟨x206, x207, rfl, rfl⟩, Hp.ydClose (L := [Box b148 [.int .i64 x206], Box b150 [.int .i64 x207]]) H⟩
     ·replace ho257 := itF hb ho257
      refine C_skip <| x_then ?_
      obtain ⟨o259, ho259, ho257⟩ := bnd ho257
      refine C_cut (fun a w' => ∃ (x258 : Bool), x258 = o259 ∧ Fr 53 a [(12, .pointer (some ⟨b148, 0, none⟩)), (13, .pointer (some ⟨b150, 0, none⟩)), (14, .int .i64 x176), (15, .int .i64 x177), (48, .bool x258)] ∧ Hp C w' ρ (Box b148 [.int .i64 x206] :: Box b150 [.int .i64 x207] :: Box b146 [.int .i64 x12] :: Yd l ({ o with state := .busy }) (Star []) :: hs)) ?_ ?_
      ·refine R_nd <| nq (Q_move rfl) rfl rfl <| nq (Q_gtr rfl rfl) rfl rfl <| nq (Q_move rfl) rfl rfl ?_
       rcases Bool.eq_false_or_eq_true (decide (x176 > 0)) with hb | hb
       ·rw [hb]
        replace ho259 := itT hb ho259
        refine gq (Q_move rfl) rfl rfl rfl <| gq (Q_neq rfl rfl) rfl rfl rfl <| nq (Q_pickT rfl rfl) rfl rfl <| WL_nil ?_
        replace H := H.f3
        replace H := H.f3
        replace H := H.f3
        obtain rfl := Option.some.inj ho259
        refine x_A fun a hf => ⟨x177 != (-1), rfl, hf.sub ⟨rfl, rfl, rfl, rfl, rfl, trivial⟩, H⟩
       ·rw [hb]
        replace ho259 := itF hb ho259
        refine gs rfl rfl rfl rfl <| gs rfl rfl rfl rfl <| nq (Q_pickF rfl rfl) rfl rfl <| WL_nil ?_
        replace H := H.f3
        replace H := H.f3
        replace H := H.f3
        obtain rfl := Option.some.inj ho259
        refine x_A fun a hf => ⟨false, rfl, hf.sub ⟨rfl, rfl, rfl, rfl, rfl, trivial⟩, H⟩
      ·rintro a wd260 ⟨x258, rfl, hf, H⟩
       try dsimp only at ho257
       refine CW.at hf ?_
       obtain ⟨o265, ho265, ho257⟩ := bnd ho257
       refine C_cutQ (fun a w' => ∃ (x263 : Int) (x264 : Int), (x263, x264) = o265 ∧ Fr 53 a [] ∧ Hp C w' ρ (Box b148 [.int .i64 x263] :: Box b150 [.int .i64 x264] :: Box b146 [.int .i64 x12] :: Yd l ({ o with state := .busy }) (Star []) :: hs)) ?_ ?_
       ·refine C_cond rfl (fun hb => ?_) (fun hb => ?_)
        ·replace ho265 := itT hb ho265
         refine R_nd <| nq (Q_move rfl) rfl rfl <| nq (Q_move rfl) rfl rfl <| ne (E_stB (k := 0) (cs := [.int .i64 x176]) (vs' := [.int .i64 x176]) H rfl ty3 rfl rfl rfl rfl (one_cons rfl one_nil) (by simp) rfl) rfl rfl ?_
         rintro _ wd266 H
         dsimp only [List.set] at H
         refine ne (E_stB (k := 1) (cs := [.int .i64 x177]) (vs' := [.int .i64 x177]) H rfl ty3 rfl rfl rfl rfl (one_cons rfl one_nil) (by simp) rfl) rfl rfl ?_
         rintro _ wd267 H
         dsimp only [List.set] at H
         refine WL_nil ?_
         replace H := H.f3
         replace H := H.f3
         replace H := H.f3
         replace H := H.f3
         obtain rfl := Option.some.inj ho265
         refine x_A fun a hf => ⟨x176, x177, rfl, hf.sub trivial, H⟩
        ·replace ho265 := itF hb ho265
         refine C_skip ?_
         replace H := H.f3
         replace H := H.f3
         replace H := H.f3
         replace H := H.f3
         obtain rfl := Option.some.inj ho265
         refine x_A fun a hf => ⟨x206, x207, rfl, hf.sub trivial, H⟩
       ·rintro a wd268 ⟨x263, x264, rfl, hf, H⟩
        try dsimp only at ho257
        refine XX.at hf <| x_block ?_
        replace H := H.f3
        replace H := H.f3
        replace H := H.f3
        replace H := H.f3
        obtain rfl := Option.some.inj ho257
        refine x_A fun a hf => ⟨x263, x264, rfl, hf.sub trivial, H⟩
    ·rintro a wd269 ⟨x255, x256, rfl, hf, H⟩
     try dsimp only at hF241
     refine XX.at hf ?_
     replace H := H.f3
     replace H := H.f3
     replace H := H.f3
     replace H := H.f3
     replace H := H.f3
     obtain rfl := Option.some.inj hF241
     subst ho
     refine x_round H (fun w_ H => ?_)
     exact ⟨rfl, ρ, _, (View.le_refl _), IS.l ⟨x255, x256, rfl, rfl⟩, Hp.ydClose (L := [Box b148 [.int .i64 x255], Box b150 [.int .i64 x256], Box b146 [.int .i64 x12]]) H⟩
   ·intro l rec W hs' hY H
    refine (c_129 H gle gl18 hY (IS.l ⟨0, (-1), rfl, rfl⟩) (IS.mono (fun hl h => by obtain ⟨x206, x207, e1_, e2_⟩ := h; exact ⟨x206, x207, e1_, e2_⟩) (fun hl h => by obtain ⟨x236, x237, e1_, e2_⟩ := h; exact ⟨x236, x237, e1_, e2_⟩)) r3 r6 r168 hq238).mono fun e w' he => ?_
    obtain ⟨v, rfl, ρ', A', x, b, hr_, _, h1, h2, h3⟩ := he
    cases hr_
    exact ⟨_, rfl, ρ', A', h1, h2, h3⟩
   ·intro D270 wd271 ρ A' lw272 hIx H
    rcases q2381_ with q2381_ | q2381_
    ·obtain ⟨x206, x207, rfl, rfl⟩ := IS.unl hIx
     replace H := Hp.unstar H
     dsimp only [List.cons_append, List.nil_append] at H
     replace gle := GErrs.up lw272 gle
     replace gl18 := GTab.up lw272 gl18
     refine ⟨fun hb => ?_, fun hb => ?_⟩
     ·subst hb
      try dsimp only at hF
      refine x_block <| x_then <| C_seq <| R_dr (.take 0 (.take 1 (.take 2 (.take 3 .done)))) (fun w' => Ok w' ρ [Box b148 [.int .i64 x206], Box b150 [.int .i64 x207], Box b146 [.int .i64 x12], Dfr D270]) (by kernel_rfl) (by kernel_rfl) (by kernel_rfl) (H.drew.okS (by simp)) ?_
      replace H := H.drew
      refine dq (v := .int .i64 x206) rfl (fun _ hw => Q_ldB (k := 0) (cs := [.int .i64 x206]) hw rfl ty3 rfl rfl rfl (fun _ => rfl) rfl) rfl rfl <| dq (v := .int .i64 x207) rfl (fun _ hw => Q_ldB (k := 1) (cs := [.int .i64 x207]) hw rfl ty3 rfl rfl rfl (fun _ => rfl) rfl) rfl rfl <| dq rfl (fun _ _ => Q_assign rfl) rfl rfl <| dq rfl (fun _ _ => Q_assign rfl) rfl rfl <| DL_nil <| x_then <| C_ret ?_
      replace H := H.f3
      refine x_take H ?_
      intro wd273 H
      have hRV : RV Tryz.prog wd273 [(10, .int .i64 x206), (11, .int .i64 x207)] [.tmp 10, .tmp 11] [.int .i64 x206, .int .i64 x207] := ⟨rfl, rfl, trivial⟩
      replace H := H.drop 0 rfl
      dsimp only [List.eraseIdx] at H
      replace H := H.drop 0 rfl
      dsimp only [List.eraseIdx] at H
      replace H := H.drop 0 rfl
      dsimp only [List.eraseIdx] at H
      obtain rfl := Option.some.inj hF
      exact fn_retM (rs := [.tmp 10, .tmp 11]) (vs := [.int .i64 x206, .int .i64 x207]) rfl hRV ⟨ρ, x206, x207, rfl, rfl, lw272, H⟩
     ·subst hb
      try dsimp only at hF
      cases hF
    ·obtain ⟨x236, x237, rfl, rfl⟩ := IS.unr hIx
     replace H := Hp.unstar H
     dsimp only [List.cons_append, List.nil_append] at H
     replace gle := GErrs.up lw272 gle
     replace gl18 := GTab.up lw272 gl18
     refine ⟨fun hb => ?_, fun hb => ?_⟩
     ·subst hb
      try dsimp only at hF
      cases hF
     ·subst hb
      try dsimp only at hF
      refine C_exit <| x_block_exit <| x_then <| C_seq <| R_dr (.take 0 (.take 1 (.take 2 (.take 3 .done)))) (fun w' => Ok w' ρ [Box b148 [.int .i64 x236], Box b150 [.int .i64 x237], Dfr D270]) (by kernel_rfl) (by kernel_rfl) (by kernel_rfl) (H.drew.okS (by simp)) ?_
      replace H := H.drew
      refine dq (v := .int .i64 x236) rfl (fun _ hw => Q_ldB (k := 0) (cs := [.int .i64 x236]) hw rfl ty3 rfl rfl rfl (fun _ => rfl) rfl) rfl rfl <| dq (v := .int .i64 x237) rfl (fun _ hw => Q_ldB (k := 1) (cs := [.int .i64 x237]) hw rfl ty3 rfl rfl rfl (fun _ => rfl) rfl) rfl rfl <| dq rfl (fun _ _ => Q_assign rfl) rfl rfl <| dq rfl (fun _ _ => Q_assign rfl) rfl rfl <| DL_nil <| x_then <| C_ret ?_
      replace H := H.f2
      refine x_take H ?_
      intro wd274 H
      have hRV : RV Tryz.prog wd274 [(10, .int .i64 x236), (11, .int .i64 x237)] [.tmp 10, .tmp 11] [.int .i64 x236, .int .i64 x237] := ⟨rfl, rfl, trivial⟩
      replace H := H.drop 0 rfl
      dsimp only [List.eraseIdx] at H
      replace H := H.drop 0 rfl
      dsimp only [List.eraseIdx] at H
      obtain rfl := Option.some.inj hF
      exact fn_retM (rs := [.tmp 10, .tmp 11]) (vs := [.int .i64 x236, .int .i64 x237]) rfl hRV ⟨ρ, x236, x237, rfl, rfl, lw272, H⟩
theorem c_24 {N : Nat} {C : Cx} {w : World} {ρ : View} {hs : List Hl} {gV : Nat → Value} {v1 : Value} {v4 : Value} {v8 : Value} {x2 : (List ((List Int) × (Int × Int × Int × Int) × Int × Int))} {x5 : (List Int)} {x7 : Int} {x9 : (List Int)} (H : Hp C w ρ (hs)) (gle : GErrs ρ 394 errIds gV) (r3 : RdSl ρ (eP (eL (eI .i64)) (eP (eP (eI .u64) (eP (eI .u64) (eP (eI .u64) (eI .u64)))) (eP (eI .i64) (eI .i64)))) v1 x2) (r6 : RdSl ρ (eI .i64) v4 x5) (r10 : RdSl ρ (eI .u8) v8 x9) {r : (List Int)} (hF : F_dofferref16_Trace N x2 x5 x7 x9 = some r) :
  Calls Tryz.prog 24 [.agg #[v1, v4], .int .i64 x7, v8].toArray w (Rets (fun v w' => (∃ (v252 : Value) (c253 : (List Value)) (x254 : (List Int)), x254 = r ∧ v252 = v ∧ rdL (eI .i64) ρ x254 c253 ∧ Hp C w' ρ (Arr v252 1 c253 :: hs)))) := by
 unfold F_dofferref16_Trace at hF
 have h0 : Tryz.f24.body = some _ := rfl
 refine fn_calls' Tryz.func24 h0 (n := 36) rfl (by simp) <| C_seq <| R_nd <| ne (E_box H (vs := [v1, v4]) rfl rfl) rfl rfl ?_
 rintro _ wd257 ⟨b256, rfl, H⟩
 refine nq (Q_assign rfl) rfl rfl <| WL_nil <| x_then <| C_seq <| R_nd <| nq (v := .agg #[v1, v4]) (Q_ldB (k := 0) (cs := [v1, v4]) H.ok rfl ty29 rfl rfl rfl (fun h => nomatch h) rfl) rfl rfl <| nq (Q_move rfl) rfl rfl ?_
 obtain ⟨q258, hq258, hF⟩ := bnd hF
 refine ne (E_call fn41 rfl (c_41 H gle  r3 r6 hq258)) rfl rfl ?_
 rintro _ wd264 ⟨v260, c261, x262, rfl, rfl, r263, H⟩
 try dsimp only at hF
 refine nq (Q_assign rfl) rfl rfl <| WL_nil <| x_then <| C_seq <| R_nd <| nq (v := .agg #[v1, v4]) (Q_ldB (k := 1) (cs := [v1, v4]) H.ok rfl ty29 rfl rfl rfl (fun h => nomatch h) rfl) rfl rfl <| nq (Q_move rfl) rfl rfl ?_
 obtain ⟨q265, hq265, hF⟩ := bnd hF
 obtain ⟨C', ρ', hl266, HA, hL, hback⟩ := Hp.lend (A := []) (L := [Arr v260 1 c261]) (F := Box b256 [v1, v4] :: hs) H
 refine ne (E_call fn40 rfl (c_40 HA (gle.up hl266)  (r3.up hl266) (r6.up hl266) (arr_rd (by decide) hl266 (hL (Arr v260 1 c261) (by simp)) r263) hq265)) rfl rfl ?_
 rintro _ wd268 ⟨x267, rfl, rfl, H⟩
 try dsimp only at hF
 replace H := hback H
 dsimp only [List.cons_append, List.nil_append] at H
 refine ne (E_bslice (xs := [.tmp 16]) (vs := [.int .i64 x267]) H Tryz.underlying23 ty3 (by decide) (cs := [.int .i64 x267]) rfl (sz_cons rfl sz_nil) rfl (by simp) (by simp) rfl rfl) rfl rfl ?_
 rintro _ wd270 ⟨b269, rfl, H⟩
 refine nq (Q_assign rfl) rfl rfl <| WL_nil <| x_then <| C_seq <| C_seq <| R_nd <| nq (Q_move rfl) rfl rfl <| nq (Q_len Tryz.underlying42 rfl r10) rfl rfl <| nq (Q_move rfl) rfl rfl <| WL_nil <| x_then ?_
 obtain ⟨o384, ho384, hF⟩ := bnd hF
 refine C_cutQ (fun a w' => ∃ (v380 : Value) (c381 : (List Value)) (x382 : (List Int)), x382 = o384 ∧ rdL (eI .i64) ρ x382 c381 ∧ Fr 36 a [(8, v380)] ∧ Hp C w' ρ (Arr v380 1 c381 :: hs)) ?_ ?_
 ·refine C_block ?_
  replace H := H.f1
  replace H := H.f2
  refine C_iter (f := fun s => F_dofferref16_Trace_l0 N x2 x5 x9 s.1 s.2.1 s.2.2) ho384 (fun s a w' => ∃ (v421 : Value) (c422 : (List Value)) (v425 : Value) (c426 : (List Value)) (x420 : Int) (x423 : (List Bool)) (x427 : (List Int)), (x420, x423, x427) = s ∧ rdL eB ρ x423 c422 ∧ rdL (eI .i64) ρ x427 c426 ∧ Fr 36 a [(3, .pointer (some ⟨b256, 0, none⟩)), (7, v421), (8, v425), (18, v8), (19, .int .i64 (x9.length : Int)), (20, .int .i64 x420)] ∧ Hp C w' ρ (Box b256 [v1, v4] :: Arr v421 1 c422 :: Arr v425 1 c426 :: hs)) ?_ ?_
  ·exact fun a hf => ⟨v260, c261, (.slice (some ⟨b269, 0, none⟩) 1 1), [.int .i64 x267], 0, x262, [x267], rfl, r263, (show rdL (eI .i64) ρ ([x267]) ([.int .i64 x267]) from ⟨([.int .i64 x267]), _, rfl, rfl, rdL.nil⟩), hf.sub ⟨rfl, rfl, rfl, rfl, rfl, rfl, trivial⟩, H⟩
  ·rintro s o464 a wd467 ⟨v421, c422, v425, c426, x420, x423, x427, rfl, r424, r428, hf, H⟩ hB465 hO466
   replace hB465 : F_dofferref16_Trace_l0 N x2 x5 x9 x420 x423 x427 = some o464 := hB465
   unfold F_dofferref16_Trace_l0 at hB465
   refine CW.at hf <| C_seq <| R_nd <| nq (Q_lss rfl rfl) rfl rfl <| WL_nil <| x_then <| C_seq ?_
   refine C_cond rfl (fun hb => ?_) (fun hb => ?_)
   ·replace hB465 := itT hb hB465
    refine C_skip <| x_then <| C_seq <| C_block <| C_seq <| R_nd ?_
    obtain ⟨x468, hx468, hB465⟩ := bnd hB465
    obtain ⟨b469, o470, c471, hc472, ha473, hi474⟩ := idxR r10 hx468
    refine nq (Q_idx hi474 Tryz.underlying42 ty5 rfl rfl) rfl rfl <| nq (v := .int .u8 x468) (Q_ld (show cellsAt _ _ _ [.int .u8 x468] from (show _ = [_] from hc472) ▸ (ha473.up H.ok.view)) ty5 rfl (fun _ => rfl) rfl rfl) rfl rfl <| nq (Q_assign rfl) rfl rfl <| WL_nil <| x_then <| C_seq <| R_nd <| nq (v := .agg #[v1, v4]) (Q_ldB (k := 0) (cs := [v1, v4]) H.ok rfl ty29 rfl rfl rfl (fun h => nomatch h) rfl) rfl rfl <| nq (Q_move rfl) rfl rfl <| nq (Q_move rfl) rfl rfl ?_
    replace H := H.f1
    obtain ⟨q475, hq475, hB465⟩ := bnd hB465
    obtain ⟨C', ρ', hl476, HA, hL, hback⟩ := Hp.lend (A := []) (L := [Arr v421 1 c422]) (F := Box b256 [v1, v4] :: Arr v425 1 c426 :: hs) H
    refine ne (E_call fn42 rfl (c_42 HA (gle.up hl476)  (r3.up hl476) (r6.up hl476) (arr_rd (by decide) hl476 (hL (Arr v421 1 c422) (by simp)) r424) hq475)) rfl rfl ?_
    rintro _ wd481 ⟨v477, c478, x479, rfl, rfl, r480, H⟩
    try dsimp only at hB465
    replace H := hback H
    replace r480 := rdL.flat (ρ := ρ') (ρ' := ρ) flat_B r480
    dsimp only [List.cons_append, List.nil_append] at H
    refine nq (Q_assign rfl) rfl rfl <| WL_nil <| x_then <| R_nd <| nq (Q_move rfl) rfl rfl <| nq (v := .agg #[v1, v4]) (Q_ldB (k := 2) (cs := [v1, v4]) H.ok rfl ty29 rfl rfl rfl (fun h => nomatch h) rfl) rfl rfl <| nq (Q_move rfl) rfl rfl ?_
    obtain ⟨q482, hq482, hB465⟩ := bnd hB465
    obtain ⟨C', ρ', hl483, HA, hL, hback⟩ := Hp.lend (A := []) (L := [Arr v477 1 c478]) (F := Arr v421 1 c422 :: Box b256 [v1, v4] :: Arr v425 1 c426 :: hs) H
    refine ne (E_call fn40 rfl (c_40 HA (gle.up hl483)  (r3.up hl483) (r6.up hl483) (arr_rd (by decide) hl483 (hL (Arr v477 1 c478) (by simp)) r480) hq482)) rfl rfl ?_
    rintro _ wd485 ⟨x484, rfl, rfl, H⟩
    try dsimp only at hB465
    replace H := hback H
    dsimp only [List.cons_append, List.nil_append] at H
    refine ne (E_bslice (xs := [.tmp 31]) (vs := [.int .i64 x484]) H Tryz.underlying23 ty3 (by decide) (cs := [.int .i64 x484]) rfl (sz_cons rfl sz_nil) rfl (by simp) (by simp) rfl rfl) rfl rfl ?_
    rintro _ wd487 ⟨b486, rfl, H⟩
    obtain ⟨x488, hx488, hB465⟩ := bnd hB465
    obtain ⟨ha489a, ha489b⟩ := app_some hx488
    have r491 : rdL (eI .i64) ρ x488 (c426 ++ ([.int .i64 x484])) := ha489b ▸ rdL.app r428 (show rdL (eI .i64) ρ ([x484]) ([.int .i64 x484]) from ⟨([.int .i64 x484]), _, rfl, rfl, rdL.nil⟩)
    refine ne (E_append (k := 4) H rfl Tryz.underlying23 ty3 rfl (by decide) (by decide) rfl rfl (Src.ofArr (k := 0) H.ok rfl) (rdL.one (show rdL (eI .i64) ρ ([x484]) ([.int .i64 x484]) from ⟨([.int .i64 x484]), _, rfl, rfl, rdL.nil⟩)) (app_fit r428 (show rdL (eI .i64) ρ ([x484]) ([.int .i64 x484]) from ⟨([.int .i64 x484]), _, rfl, rfl, rdL.nil⟩) ha489a)) rfl rfl ?_
    rintro v490 wd493 ⟨H, hc492⟩
    dsimp only [List.set] at H
    refine nq (Q_assign rfl) rfl rfl <| WL_nil <| x_block <| x_then <| R_nd <| nq (Q_add rfl rfl) rfl rfl <| nq (Q_move rfl) rfl rfl <| WL_nil ?_
    replace H := H.f4
    replace H := H.f2
    replace H := H.f4
    replace H := H.drop 3 rfl
    dsimp only [List.eraseIdx] at H
    replace H := H.drop 3 rfl
    dsimp only [List.eraseIdx] at H
    obtain rfl := Option.some.inj hB465
    refine x_A fun a hf => ⟨_, rfl, v477, c478, v490, (c426 ++ ([.int .i64 x484])), w64 (x420 + 1), x479, x488, rfl, r480, r491, hf.sub ⟨rfl, rfl, rfl, rfl, rfl, rfl, trivial⟩, H⟩
   ·replace hB465 := itF hb hB465
    refine C_exit <| x_then_exit <| x_then_exit <| x_block_exit ?_
    replace H := H.f2
    replace H := H.drop 1 rfl
    dsimp only [List.eraseIdx] at H
    replace H := H.drop 1 rfl
    dsimp only [List.eraseIdx] at H
    obtain rfl := Option.some.inj hB465
    obtain rfl := hO466 _ rfl
    refine x_A fun a hf => ⟨v425, c426, x427, rfl, r428, hf.sub ⟨rfl, trivial⟩, H⟩
 ·rintro a wd494 ⟨v380, c381, x382, rfl, r383, hf, H⟩
  try dsimp only at hF
  refine XX.at hf <| x_then <| C_seq <| R_nd <| nq (Q_move rfl) rfl rfl <| nq (Q_assign rfl) rfl rfl <| WL_nil <| x_then <| C_ret ?_
  obtain rfl := Option.some.inj hF
  exact fn_ret (l := [.tmp 6]) (vs := [v380]) rfl rfl rfl ⟨v380, c381, x382, rfl, rfl, r383, H⟩
end Go.Proofs.YtealkahefalaeaaGreatDoor
