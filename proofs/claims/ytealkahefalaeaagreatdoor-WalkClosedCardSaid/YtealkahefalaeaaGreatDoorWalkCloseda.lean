/-
  The walks of the law WalkClosed, printed by my program, part 1: each function of the code computes its pure function.
-/
import Derived.Test.YtealkahefalaeaaGreatDoorWalkClosedD1
import Derived.Test.YtealkahefalaeaaGreatDoorProg
import Derived.Test.YtealkahefalaeaaGreatDoorWalkClosedP1
namespace Go.Proofs.YtealkahefalaeaaGreatDoor
open Go Go.Eng
set_option maxRecDepth 100000
theorem ty3 : Ty Tryz.prog 3 1 8 (.int .i64 0) false := ⟨by kernel_rfl, by kernel_rfl⟩
theorem ty5 : Ty Tryz.prog 5 1 1 (.int .u8 0) false := ⟨by kernel_rfl, by kernel_rfl⟩
theorem ty22 : Ty Tryz.prog 22 1 24 (.slice none 0 0) false := ⟨by kernel_rfl, by kernel_rfl⟩
theorem ty23 : Ty Tryz.prog 23 1 24 (.slice none 0 0) false := ⟨by kernel_rfl, by kernel_rfl⟩
theorem ty25 : Ty Tryz.prog 25 2 48 (.agg ([.slice none 0 0, .slice none 0 0]).toArray) true := ⟨by kernel_rfl, by kernel_rfl⟩
theorem ty27 : Ty Tryz.prog 27 1 24 (.slice none 0 0) false := ⟨by kernel_rfl, by kernel_rfl⟩
theorem ty29 : Ty Tryz.prog 29 2 48 (.agg ([.slice none 0 0, .slice none 0 0]).toArray) true := ⟨by kernel_rfl, by kernel_rfl⟩
theorem ty37 : Ty Tryz.prog 37 1 8 (.int .u64 0) false := ⟨by kernel_rfl, by kernel_rfl⟩
theorem ty38 : Ty Tryz.prog 38 4 32 (.agg ([.int .u64 0, .int .u64 0, .int .u64 0, .int .u64 0]).toArray) true := ⟨by kernel_rfl, by kernel_rfl⟩
theorem ty39 : Ty Tryz.prog 39 4 32 (.agg ([.int .u64 0, .int .u64 0, .int .u64 0, .int .u64 0]).toArray) true := ⟨by kernel_rfl, by kernel_rfl⟩
theorem ty41 : Ty Tryz.prog 41 7 72 (.agg ([.slice none 0 0, .int .u64 0, .int .u64 0, .int .u64 0, .int .u64 0, .int .i64 0, .int .i64 0]).toArray) true := ⟨by kernel_rfl, by kernel_rfl⟩
theorem ty53 : Ty Tryz.prog 53 1 16 .nilIface false := ⟨by kernel_rfl, by kernel_rfl⟩
theorem ty126 : Ty Tryz.prog 126 7 72 (.agg ([.slice none 0 0, .int .u64 0, .int .u64 0, .int .u64 0, .int .u64 0, .int .i64 0, .int .i64 0]).toArray) true := ⟨by kernel_rfl, by kernel_rfl⟩
theorem ty135 : Ty Tryz.prog 135 2 48 (.agg ([.slice none 0 0, .slice none 0 0]).toArray) true := ⟨by kernel_rfl, by kernel_rfl⟩
theorem ty137 : Ty Tryz.prog 137 1 24 (.slice none 0 0) false := ⟨by kernel_rfl, by kernel_rfl⟩
theorem ty139 : Ty Tryz.prog 139 2 32 (.agg ([.slice none 0 0, .int .i64 0]).toArray) true := ⟨by kernel_rfl, by kernel_rfl⟩
theorem st29 : ∃ fs, St Tryz.prog 29 fs [(0, 1), (1, 1)] [.slice none 0 0, .slice none 0 0] := ⟨_, Tryz.underlying29, by kernel_rfl, _, _, _, _, ty29, rfl⟩
theorem st126 : ∃ fs, St Tryz.prog 126 fs [(0, 1), (1, 4), (5, 1), (6, 1)] [.slice none 0 0, .int .u64 0, .int .u64 0, .int .u64 0, .int .u64 0, .int .i64 0, .int .i64 0] := ⟨_, Tryz.underlying126, by kernel_rfl, _, _, _, _, ty126, rfl⟩
theorem st135 : ∃ fs, St Tryz.prog 135 fs [(0, 2)] [.slice none 0 0, .slice none 0 0] := ⟨_, Tryz.underlying135, by kernel_rfl, _, _, _, _, ty135, rfl⟩
theorem st139 : ∃ fs, St Tryz.prog 139 fs [(0, 1), (1, 1)] [.slice none 0 0, .int .i64 0] := ⟨_, Tryz.underlying139, by kernel_rfl, _, _, _, _, ty139, rfl⟩
theorem fn16 : HasFn Tryz.prog 16 := ⟨_, _, Tryz.func16, by kernel_rfl, rfl⟩
theorem fn18 : HasFn Tryz.prog 18 := ⟨_, _, Tryz.func18, by kernel_rfl, rfl⟩
theorem fn19 : HasFn Tryz.prog 19 := ⟨_, _, Tryz.func19, by kernel_rfl, rfl⟩
theorem fn22 : HasFn Tryz.prog 22 := ⟨_, _, Tryz.func22, by kernel_rfl, rfl⟩
theorem fn28 : HasFn Tryz.prog 28 := ⟨_, _, Tryz.func28, by kernel_rfl, rfl⟩
theorem fn29 : HasFn Tryz.prog 29 := ⟨_, _, Tryz.func29, by kernel_rfl, rfl⟩
theorem fn30 : HasFn Tryz.prog 30 := ⟨_, _, Tryz.func30, by kernel_rfl, rfl⟩
theorem fn31 : HasFn Tryz.prog 31 := ⟨_, _, Tryz.func31, by kernel_rfl, rfl⟩
theorem fn32 : HasFn Tryz.prog 32 := ⟨_, _, Tryz.func32, by kernel_rfl, rfl⟩
theorem fn33 : HasFn Tryz.prog 33 := ⟨_, _, Tryz.func33, by kernel_rfl, rfl⟩
theorem fn74 : HasFn Tryz.prog 74 := ⟨_, _, Tryz.func74, by kernel_rfl, rfl⟩
theorem fn75 : HasFn Tryz.prog 75 := ⟨_, _, Tryz.func75, by kernel_rfl, rfl⟩
theorem fn76 : HasFn Tryz.prog 76 := ⟨_, _, Tryz.func76, by kernel_rfl, rfl⟩
theorem fn77 : HasFn Tryz.prog 77 := ⟨_, _, Tryz.func77, by kernel_rfl, rfl⟩
theorem fn81 : HasFn Tryz.prog 81 := ⟨_, _, Tryz.func81, by kernel_rfl, rfl⟩
theorem fn82 : HasFn Tryz.prog 82 := ⟨_, _, Tryz.func82, by kernel_rfl, rfl⟩
theorem fn83 : HasFn Tryz.prog 83 := ⟨_, _, Tryz.func83, by kernel_rfl, rfl⟩
theorem fn87 : HasFn Tryz.prog 87 := ⟨_, _, Tryz.func87, by kernel_rfl, rfl⟩
theorem fn128 : HasFn Tryz.prog 128 := ⟨_, _, Tryz.func128, by kernel_rfl, rfl⟩
theorem fn130 : HasFn Tryz.prog 130 := ⟨_, _, Tryz.func130, by kernel_rfl, rfl⟩
theorem fn131 : HasFn Tryz.prog 131 := ⟨_, _, Tryz.func131, by kernel_rfl, rfl⟩
theorem fn132 : HasFn Tryz.prog 132 := ⟨_, _, Tryz.func132, by kernel_rfl, rfl⟩
theorem c_77 {N : Nat} {C : Cx} {w : World} {ρ : View} {hs : List Hl} {gV : Nat → Value} {v1 : Value} {v4 : Value} {x2 : (List Int)} {x5 : (List Int)} (H : Hp C w ρ (hs)) (_gle : GErrs ρ 394 errIds gV) (r3 : RdSl ρ (eI .i64) v1 x2) (r6 : RdSl ρ (eI .i64) v4 x5) {r : Bool} (hF : F_slices_Equal_int_int N x2 x5 = some r) :
  Calls Tryz.prog 77 [v1, v4].toArray w (Rets (fun v w' => (∃ (x107 : Bool), x107 = r ∧ .bool x107 = v ∧ Hp C w' ρ (hs)))) := by
 unfold F_slices_Equal_int_int at hF
 have h0 : Tryz.f77.body = some _ := rfl
 refine fn_calls' Tryz.func77 h0 (n := 26) rfl (by simp) <| C_seq <| R_nd <| nq (Q_assign rfl) rfl rfl <| WL_nil <| x_then <| C_seq <| C_seq <| R_nd <| nq (Q_move rfl) rfl rfl <| nq (Q_len Tryz.underlying23 rfl r3) rfl rfl <| nq (Q_move rfl) rfl rfl <| nq (Q_len Tryz.underlying23 rfl r6) rfl rfl <| nq (Q_neq rfl rfl) rfl rfl ?_
 refine WL_nil <| x_then ?_
 refine C_cond rfl (fun hb => ?_) (fun hb => ?_)
 ·replace hF := itT hb hF
  refine C_seq <| R_nd <| nq (Q_assign rfl) rfl rfl <| WL_nil <| x_then <| C_ret <| x_then_ret ?_
  obtain rfl := Option.some.inj hF
  exact fn_ret (l := [.tmp 4]) (vs := [.bool false]) rfl rfl rfl ⟨false, rfl, rfl, H⟩
 ·replace hF := itF hb hF
  refine C_skip <| x_then <| C_seq <| C_seq <| R_nd <| nq (Q_move rfl) rfl rfl <| nq (Q_len Tryz.underlying23 rfl r3) rfl rfl <| nq (Q_move rfl) rfl rfl <| WL_nil <| x_then ?_
  obtain ⟨o157, ho157, hF⟩ := bnd hF
  refine C_cutQ (fun a w' => .inl () = o157 ∧ Fr 26 a [] ∧ Hp C w' ρ (hs)) ?_ ?_
  ·refine C_block ?_
   refine C_iter (f := fun s => F_slices_Equal_int_int_l0 N x2 x5 s) ho157 (fun s a w' => ∃ (x173 : Int), x173 = s ∧ Fr 26 a [(0, v1), (1, v4), (12, .int .i64 (x2.length : Int)), (13, .int .i64 x173)] ∧ Hp C w' ρ (hs)) ?_ ?_
   ·exact fun a hf => ⟨0, rfl, hf.sub ⟨rfl, rfl, rfl, rfl, trivial⟩, H⟩
   ·rintro s o189 a wd192 ⟨x173, rfl, hf, H⟩ hB190 hO191
    replace hB190 : F_slices_Equal_int_int_l0 N x2 x5 x173 = some o189 := hB190
    unfold F_slices_Equal_int_int_l0 at hB190
    refine CW.at hf <| C_seq <| R_nd <| nq (Q_lss rfl rfl) rfl rfl <| WL_nil <| x_then <| C_seq ?_
    refine C_cond rfl (fun hb => ?_) (fun hb => ?_)
    ·replace hB190 := itT hb hB190
     refine C_skip <| x_then <| C_seq <| C_block <| C_seq <| R_nd <| nq (Q_move rfl) rfl rfl <| nq (Q_assign rfl) rfl rfl <| WL_nil <| x_then <| C_seq <| R_dr (.take 0 (.take 1 (.take 2 (.take 3 (.take 4 (.take 5 (.take 6 (.take 7 (.take 8 .done))))))))) (fun w' => Ok w' ρ []) (by kernel_rfl) (by kernel_rfl) (by kernel_rfl) (H.drew.okS (by simp)) ?_
     replace H := H.drew
     refine dq rfl (fun _ _ => Q_move rfl) rfl rfl <| dq rfl (fun _ _ => Q_move rfl) rfl rfl ?_
     obtain ⟨x193, hx193, hB190⟩ := bnd hB190
     obtain ⟨b194, o195, c196, hc197, ha198, hi199⟩ := idxR r3 hx193
     refine dq rfl (fun _ _ => Q_idx hi199 Tryz.underlying23 ty3 rfl rfl) rfl rfl <| dq (v := .int .i64 x193) rfl (fun _ hw => Q_ld (show cellsAt _ _ _ [.int .i64 x193] from (show _ = [_] from hc197) ▸ (ha198.up hw.view)) ty3 rfl (fun _ => rfl) rfl rfl) rfl rfl <| dq rfl (fun _ _ => Q_move rfl) rfl rfl <| dq rfl (fun _ _ => Q_move rfl) rfl rfl ?_
     obtain ⟨x200, hx200, hB190⟩ := bnd hB190
     obtain ⟨b201, o202, c203, hc204, ha205, hi206⟩ := idxR r6 hx200
     refine dq rfl (fun _ _ => Q_idx hi206 Tryz.underlying23 ty3 rfl rfl) rfl rfl <| dq (v := .int .i64 x200) rfl (fun _ hw => Q_ld (show cellsAt _ _ _ [.int .i64 x200] from (show _ = [_] from hc204) ▸ (ha205.up hw.view)) ty3 rfl (fun _ => rfl) rfl rfl) rfl rfl <| dq rfl (fun _ _ => Q_neq rfl rfl) rfl rfl <| DL_nil <| x_then ?_
     refine C_cond rfl (fun hb => ?_) (fun hb => ?_)
     ·replace hB190 := itT hb hB190
      refine C_seq <| R_nd <| nq (Q_assign rfl) rfl rfl <| WL_nil <| x_then <| C_ret <| x_block_ret <| x_then_ret <| x_then_ret <| x_block_ret <| x_then_ret <| x_then_ret ?_
      obtain rfl := Option.some.inj hB190
      obtain rfl := hO191 _ rfl
      obtain rfl := Option.some.inj (show some _ = some _ from hF)
      exact fn_ret (l := [.tmp 4]) (vs := [.bool false]) rfl rfl rfl ⟨false, rfl, rfl, H⟩
     ·replace hB190 := itF hb hB190
      refine C_skip <| x_block <| x_then <| R_nd <| nq (Q_add rfl rfl) rfl rfl <| nq (Q_move rfl) rfl rfl <| WL_nil ?_
      obtain rfl := Option.some.inj hB190
      refine x_A fun a hf => ⟨_, rfl, w64 (x173 + 1), rfl, hf.sub ⟨rfl, rfl, rfl, rfl, trivial⟩, H⟩
    ·replace hB190 := itF hb hB190
     refine C_exit <| x_then_exit <| x_then_exit <| x_block_exit ?_
     obtain rfl := Option.some.inj hB190
     obtain rfl := hO191 _ rfl
     refine x_A fun a hf => ⟨rfl, hf.sub trivial, H⟩
  ·rintro a wd207 ⟨rfl, hf, H⟩
   try dsimp only at hF
   refine XX.at hf <| x_then <| C_seq <| R_nd <| nq (Q_assign rfl) rfl rfl <| WL_nil <| x_then <| C_ret ?_
   obtain rfl := Option.some.inj hF
   exact fn_ret (l := [.tmp 4]) (vs := [.bool true]) rfl rfl rfl ⟨true, rfl, rfl, H⟩
theorem c_16 {N : Nat} {C : Cx} {w : World} {ρ : View} {hs : List Hl} {gV : Nat → Value} {v1 : Value} {v4 : Value} {x2 : (List ((List Int) × (Int × Int × Int × Int) × Int × Int))} {x5 : (List Int)} {x7 : Int} (H : Hp C w ρ (hs)) (_gle : GErrs ρ 394 errIds gV) (r3 : RdSl ρ (eP (eL (eI .i64)) (eP (eP (eI .u64) (eP (eI .u64) (eP (eI .u64) (eI .u64)))) (eP (eI .i64) (eI .i64)))) v1 x2) (r6 : RdSl ρ (eI .i64) v4 x5) {r : ((List ((List Int) × (Int × Int × Int × Int) × Int × Int)) × Bool)} (hF : F_dofferlaw15_Of N x2 x5 x7 = some r) :
  Calls Tryz.prog 16 [.agg #[v1, v4], .int .i64 x7].toArray w (Rets (fun v w' => (∃ (v382 : Value) (c383 : (List Value)) (x384 : (List ((List Int) × (Int × Int × Int × Int) × Int × Int))) (x386 : Bool), (x384, x386) = r ∧ .tuple [.agg #[v382, v4], .bool x386].toArray = v ∧ rdL (eP (eL (eI .i64)) (eP (eP (eI .u64) (eP (eI .u64) (eP (eI .u64) (eI .u64)))) (eP (eI .i64) (eI .i64)))) ρ x384 c383 ∧ Hp C w' ρ (Arr v382 7 c383 :: hs)))) := by
 unfold F_dofferlaw15_Of at hF
 have h0 : Tryz.f16.body = some _ := rfl
 refine fn_calls' Tryz.func16 h0 (n := 52) rfl (by simp) <| C_seq <| R_nd <| ne (E_box H (vs := [v1, v4]) rfl rfl) rfl rfl ?_
 rintro _ wd388 ⟨b387, rfl, H⟩
 refine ne (E_alloc H ty29 (zs := [.slice none 0 0, .slice none 0 0]) rfl) rfl rfl ?_
 rintro _ wd390 ⟨b389, rfl, H⟩
 refine nq (Q_assign rfl) rfl rfl <| WL_nil <| x_then <| C_seq <| R_nd <| nq (v := .pointer (some ⟨b387, 1, none⟩)) (Q_fld Tryz.underlying25 rfl ty23 (by decide) rfl rfl) rfl rfl <| nq (v := v4) (Q_ldB (k := 1) (cs := [v4]) H.ok rfl ty23 rfl rfl rfl (fun _ => rfl) rfl) rfl rfl <| nq (v := .agg #[.slice none 0 0, v4]) (Q_buildS st29.choose_spec (ps := [(1, [v4])]) rfl ⟨rfl, (RdSl.cells r6), by simp, trivial⟩ rfl) rfl rfl <| ne (E_alloc H ty29 (zs := [.slice none 0 0, .slice none 0 0]) rfl) rfl rfl ?_
 rintro _ wd392 ⟨b391, rfl, H⟩
 refine ne (E_stB (k := 0) (cs := [.slice none 0 0, v4]) (vs' := [.slice none 0 0, v4]) H rfl ty29 rfl rfl rfl rfl (one_cons rfl (one_cons (RdSl.one r6) one_nil)) (by simp) rfl) rfl rfl ?_
 rintro _ wd393 H
 dsimp only [List.set] at H
 refine WL_nil <| x_then <| C_seq ?_
 obtain ⟨o395, ho395, hF⟩ := bnd hF
 refine C_cut (fun a w' => ∃ (x394 : Bool), x394 = o395 ∧ Fr 52 a [(2, .pointer (some ⟨b387, 0, none⟩)), (4, .pointer (some ⟨b389, 0, none⟩)), (6, .pointer (some ⟨b391, 0, none⟩)), (22, .bool x394)] ∧ Hp C w' ρ (Box b387 [v1, v4] :: Box b389 [.slice none 0 0, .slice none 0 0] :: Box b391 [.slice none 0 0, v4] :: hs)) ?_ ?_
 ·refine R_nd <| nq (v := .pointer (some ⟨b387, 1, none⟩)) (Q_fld Tryz.underlying25 rfl ty23 (by decide) rfl rfl) rfl rfl <| nq (v := v4) (Q_ldB (k := 2) (cs := [v4]) H.ok rfl ty23 rfl rfl rfl (fun _ => rfl) rfl) rfl rfl <| nq (Q_len Tryz.underlying23 rfl r6) rfl rfl <| nq (Q_gtr rfl rfl) rfl rfl <| nq (Q_move rfl) rfl rfl ?_
  rcases Bool.eq_false_or_eq_true (decide ((x5.length : Int) > 20)) with hb | hb
  ·rw [hb]
   replace ho395 := itT hb ho395
   refine gs rfl rfl rfl rfl <| gs rfl rfl rfl rfl <| gs rfl rfl rfl rfl <| gs rfl rfl rfl rfl <| gs rfl rfl rfl rfl <| nq (Q_pickT rfl rfl) rfl rfl <| WL_nil ?_
   replace H := H.f1
   replace H := H.f2
   obtain rfl := Option.some.inj ho395
   refine x_A fun a hf => ⟨true, rfl, hf.sub ⟨rfl, rfl, rfl, rfl, trivial⟩, H⟩
  ·rw [hb]
   replace ho395 := itF hb ho395
   refine gq (v := .pointer (some ⟨b387, 0, none⟩)) (Q_fld Tryz.underlying25 rfl ty22 (by decide) rfl rfl) rfl rfl rfl <| gq (v := v1) (Q_ldB (k := 2) (cs := [v1]) H.ok rfl ty22 rfl rfl rfl (fun _ => rfl) rfl) rfl rfl rfl <| gq (Q_len Tryz.underlying22 rfl r3) rfl rfl rfl <| gq (Q_move rfl) rfl rfl rfl <| gq (Q_gtr rfl rfl) rfl rfl rfl <| nq (Q_pickF rfl rfl) rfl rfl <| WL_nil ?_
   replace H := H.f1
   replace H := H.f2
   obtain rfl := Option.some.inj ho395
   refine x_A fun a hf => ⟨decide ((x2.length : Int) > x7), rfl, hf.sub ⟨rfl, rfl, rfl, rfl, trivial⟩, H⟩
 ·rintro a wd396 ⟨x394, rfl, hf, H⟩
  try dsimp only at hF
  refine CW.at hf ?_
  refine C_cond rfl (fun hb => ?_) (fun hb => ?_)
  ·replace hF := itT hb hF
   refine C_seq <| R_nd <| nq (v := .agg #[.slice none 0 0, v4]) (Q_ldB (k := 2) (cs := [.slice none 0 0, v4]) H.ok rfl ty29 rfl rfl rfl (fun h => nomatch h) rfl) rfl rfl <| ne (E_stB (k := 1) (cs := [.slice none 0 0, v4]) (vs' := [.slice none 0 0, v4]) H rfl ty29 rfl rfl rfl rfl (one_cons rfl (one_cons (RdSl.one r6) one_nil)) (by simp) rfl) rfl rfl ?_
   rintro _ wd397 H
   dsimp only [List.set] at H
   refine nq (Q_assign rfl) rfl rfl <| WL_nil <| x_then <| C_ret <| x_then_ret ?_
   have H := H.nilArr 7
   have hRV : RV Tryz.prog wd397 [(4, .pointer (some ⟨b389, 0, none⟩)), (5, .bool false)] [.cell 4 29, .tmp 5] [.agg #[(.slice none 0 0), v4], .bool false] := ⟨⟨_, rfl, run_ldv ty29 rfl (fun h => nomatch h) (box_at (H.ok.get (k := 2) rfl) 0 2)⟩, rfl, trivial⟩
   replace H := H.drop 1 rfl
   dsimp only [List.eraseIdx] at H
   replace H := H.drop 1 rfl
   dsimp only [List.eraseIdx] at H
   replace H := H.drop 1 rfl
   dsimp only [List.eraseIdx] at H
   obtain rfl := Option.some.inj hF
   exact fn_retV (rs := [.cell 4 29, .tmp 5]) (vs := [.agg #[(.slice none 0 0), v4], .bool false]) rfl hRV ⟨(.slice none 0 0), [], [], false, rfl, rfl, rdL.nil, H⟩
  ·replace hF := itF hb hF
   refine C_skip <| x_then <| C_seq <| C_seq <| R_nd <| nq (v := .pointer (some ⟨b387, 0, none⟩)) (Q_fld Tryz.underlying25 rfl ty22 (by decide) rfl rfl) rfl rfl <| nq (v := v1) (Q_ldB (k := 0) (cs := [v1]) H.ok rfl ty22 rfl rfl rfl (fun _ => rfl) rfl) rfl rfl <| nq (Q_len Tryz.underlying22 rfl r3) rfl rfl <| nq (Q_move rfl) rfl rfl <| WL_nil <| x_then ?_
   obtain ⟨o580, ho580, hF⟩ := bnd hF
   refine C_cutQ (fun a w' => ∃ (v576 : Value) (c577 : (List Value)) (x578 : (List ((List Int) × (Int × Int × Int × Int) × Int × Int))), .inl x578 = o580 ∧ rdL (eP (eL (eI .i64)) (eP (eP (eI .u64) (eP (eI .u64) (eP (eI .u64) (eI .u64)))) (eP (eI .i64) (eI .i64)))) ρ x578 c577 ∧ Fr 52 a [(4, .pointer (some ⟨b389, 0, none⟩)), (6, .pointer (some ⟨b391, 0, none⟩))] ∧ Hp C w' ρ (Box b389 [.slice none 0 0, .slice none 0 0] :: Box b391 [v576, v4] :: Arr v576 7 c577 :: hs)) ?_ ?_
   ·refine C_block ?_
    have H := H.nilArr 7
    replace H := H.f3
    replace H := H.f3
    replace H := H.drop 3 rfl
    dsimp only [List.eraseIdx] at H
    refine C_iter (f := fun s => F_dofferlaw15_Of_l0 N x2 s.1 s.2) ho580 (fun s a w' => ∃ (v640 : Value) (c641 : (List Value)) (x639 : Int) (x642 : (List ((List Int) × (Int × Int × Int × Int) × Int × Int))), (x639, x642) = s ∧ rdL (eP (eL (eI .i64)) (eP (eP (eI .u64) (eP (eI .u64) (eP (eI .u64) (eI .u64)))) (eP (eI .i64) (eI .i64)))) ρ x642 c641 ∧ Fr 52 a [(4, .pointer (some ⟨b389, 0, none⟩)), (6, .pointer (some ⟨b391, 0, none⟩)), (25, v1), (26, .int .i64 (x2.length : Int)), (27, .int .i64 x639)] ∧ Hp C w' ρ (Box b389 [.slice none 0 0, .slice none 0 0] :: Box b391 [v640, v4] :: Arr v640 7 c641 :: hs)) ?_ ?_
    ·exact fun a hf => ⟨(.slice none 0 0), [], 0, [], rfl, rdL.nil, hf.sub ⟨rfl, rfl, rfl, rfl, rfl, trivial⟩, H⟩
    ·rintro s o702 a wd705 ⟨v640, c641, x639, x642, rfl, r643, hf, H⟩ hB703 hO704
     replace hB703 : F_dofferlaw15_Of_l0 N x2 x639 x642 = some o702 := hB703
     unfold F_dofferlaw15_Of_l0 at hB703
     refine CW.at hf <| C_seq <| R_nd <| nq (Q_lss rfl rfl) rfl rfl <| WL_nil <| x_then <| C_seq ?_
     refine C_cond rfl (fun hb => ?_) (fun hb => ?_)
     ·replace hB703 := itT hb hB703
      refine C_skip <| x_then <| C_seq <| C_block <| C_seq <| R_nd ?_
      obtain ⟨x706, hx706, hB703⟩ := bnd hB703
      obtain ⟨b707, o708, c709, hc710, ha711, hi712⟩ := idxR r3 hx706
      refine nq (Q_idx hi712 Tryz.underlying22 ty41 rfl rfl) rfl rfl ?_
      obtain ⟨c713, c714, he715, hc716, hc717⟩ := (id hc710)
      obtain ⟨v718, he719, r720⟩ := hc716
      obtain ⟨c721, c722, he723, hc724, hc725⟩ := hc717
      obtain ⟨c726, c727, he728, hc729, hc730⟩ := hc724
      obtain ⟨c731, c732, he733, hc734, hc735⟩ := hc730
      obtain ⟨c736, c737, he738, hc739, hc740⟩ := hc735
      obtain ⟨c741, c742, he743, hc744, hc745⟩ := hc725
      refine nq (v := .agg #[v718, .int .u64 x706.2.1.1, .int .u64 x706.2.1.2.1, .int .u64 x706.2.1.2.2.1, .int .u64 x706.2.1.2.2.2, .int .i64 x706.2.2.1, .int .i64 x706.2.2.2]) (Q_ld (show cellsAt _ _ _ [v718, .int .u64 x706.2.1.1, .int .u64 x706.2.1.2.1, .int .u64 x706.2.1.2.2.1, .int .u64 x706.2.1.2.2.2, .int .i64 x706.2.2.1, .int .i64 x706.2.2.2] from cellsAt.cg (cat2 he715 he719 (cat2 he723 (cat2 he728 (rdI hc729) (cat2 he733 (rdI hc734) (cat2 he738 (rdI hc739) (rdI hc740)))) (cat2 he743 (rdI hc744) (rdI hc745)))) (ha711.up H.ok.view)) ty41 rfl (fun h => nomatch h) rfl rfl) rfl rfl <| ne (E_alloc H ty41 (zs := [.slice none 0 0, .int .u64 0, .int .u64 0, .int .u64 0, .int .u64 0, .int .i64 0, .int .i64 0]) rfl) rfl rfl ?_
      rintro _ wd747 ⟨b746, rfl, H⟩
      refine ne (E_stB (k := 0) (cs := [v718, .int .u64 x706.2.1.1, .int .u64 x706.2.1.2.1, .int .u64 x706.2.1.2.2.1, .int .u64 x706.2.1.2.2.2, .int .i64 x706.2.2.1, .int .i64 x706.2.2.2]) (vs' := [v718, .int .u64 x706.2.1.1, .int .u64 x706.2.1.2.1, .int .u64 x706.2.1.2.2.1, .int .u64 x706.2.1.2.2.2, .int .i64 x706.2.2.1, .int .i64 x706.2.2.2]) H rfl ty41 rfl rfl rfl rfl (one_cons (RdSl.one r720) (one_cons rfl (one_cons rfl (one_cons rfl (one_cons rfl (one_cons rfl (one_cons rfl one_nil))))))) (by simp) rfl) rfl rfl ?_
      rintro _ wd748 H
      dsimp only [List.set] at H
      refine WL_nil <| x_then <| C_seq <| C_seq <| R_nd <| nq (v := .pointer (some ⟨b746, 0, none⟩)) (Q_fld Tryz.underlying41 rfl ty23 (by decide) rfl rfl) rfl rfl <| nq (v := v718) (Q_ldB (k := 0) (cs := [v718]) H.ok rfl ty23 rfl rfl rfl (fun _ => rfl) rfl) rfl rfl <| nq (Q_len Tryz.underlying23 rfl r720) rfl rfl <| nq (Q_gtr rfl rfl) rfl rfl <| WL_nil <| x_then ?_
      refine C_cond rfl (fun hb => ?_) (fun hb => ?_)
      ·replace hB703 := itT hb hB703
       refine C_seq <| R_nd <| nq (v := .agg #[v640, v4]) (Q_ldB (k := 2) (cs := [v640, v4]) H.ok rfl ty29 rfl rfl rfl (fun h => nomatch h) rfl) rfl rfl <| ne (E_stB (k := 1) (cs := [v640, v4]) (vs' := [v640, v4]) H rfl ty29 rfl rfl rfl rfl (one_cons (arr_cells (H.ok.get (k := 3) rfl)).2 (one_cons (RdSl.one r6) one_nil)) (by simp) rfl) rfl rfl ?_
       rintro _ wd749 H
       dsimp only [List.set] at H
       refine nq (Q_assign rfl) rfl rfl <| WL_nil <| x_then <| C_ret <| x_then_ret <| x_block_ret <| x_then_ret <| x_then_ret <| x_block_ret <| x_then_ret <| x_then_ret ?_
       have hRV : RV Tryz.prog wd749 [(4, .pointer (some ⟨b389, 0, none⟩)), (5, .bool false)] [.cell 4 29, .tmp 5] [.agg #[v640, v4], .bool false] := ⟨⟨_, rfl, run_ldv ty29 rfl (fun h => nomatch h) (box_at (H.ok.get (k := 1) rfl) 0 2)⟩, rfl, trivial⟩
       replace H := H.f3
       replace H := H.drop 1 rfl
       dsimp only [List.eraseIdx] at H
       replace H := H.drop 1 rfl
       dsimp only [List.eraseIdx] at H
       replace H := H.drop 1 rfl
       dsimp only [List.eraseIdx] at H
       obtain rfl := Option.some.inj hB703
       obtain rfl := hO704 _ rfl
       obtain rfl := Option.some.inj (show some _ = some _ from hF)
       exact fn_retV (rs := [.cell 4 29, .tmp 5]) (vs := [.agg #[v640, v4], .bool false]) rfl hRV ⟨v640, c641, x642, false, rfl, rfl, r643, H⟩
      ·replace hB703 := itF hb hB703
       refine C_skip <| x_then <| R_nd <| nq (v := .pointer (some ⟨b391, 0, none⟩)) (Q_fld Tryz.underlying29 rfl ty27 (by decide) rfl rfl) rfl rfl <| nq (v := v640) (Q_ldB (k := 2) (cs := [v640]) H.ok rfl ty27 rfl rfl rfl (fun _ => rfl) rfl) rfl rfl <| nq (v := .pointer (some ⟨b746, 0, none⟩)) (Q_fld Tryz.underlying41 rfl ty23 (by decide) rfl rfl) rfl rfl <| nq (v := v718) (Q_ldB (k := 0) (cs := [v718]) H.ok rfl ty23 rfl rfl rfl (fun _ => rfl) rfl) rfl rfl <| nq (v := .pointer (some ⟨b746, 1, none⟩)) (Q_fld Tryz.underlying41 rfl ty39 (by decide) rfl rfl) rfl rfl <| nq (v := .agg #[.int .u64 x706.2.1.1, .int .u64 x706.2.1.2.1, .int .u64 x706.2.1.2.2.1, .int .u64 x706.2.1.2.2.2]) (Q_ldB (k := 0) (cs := [.int .u64 x706.2.1.1, .int .u64 x706.2.1.2.1, .int .u64 x706.2.1.2.2.1, .int .u64 x706.2.1.2.2.2]) H.ok rfl ty39 rfl rfl rfl (fun h => nomatch h) rfl) rfl rfl <| nq (v := .pointer (some ⟨b746, 5, none⟩)) (Q_fld Tryz.underlying41 rfl ty3 (by decide) rfl rfl) rfl rfl <| nq (v := .int .i64 x706.2.2.1) (Q_ldB (k := 0) (cs := [.int .i64 x706.2.2.1]) H.ok rfl ty3 rfl rfl rfl (fun _ => rfl) rfl) rfl rfl <| nq (v := .pointer (some ⟨b746, 6, none⟩)) (Q_fld Tryz.underlying41 rfl ty3 (by decide) rfl rfl) rfl rfl <| nq (v := .int .i64 x706.2.2.2) (Q_ldB (k := 0) (cs := [.int .i64 x706.2.2.2]) H.ok rfl ty3 rfl rfl rfl (fun _ => rfl) rfl) rfl rfl <| nq (v := .agg #[v718, .int .u64 x706.2.1.1, .int .u64 x706.2.1.2.1, .int .u64 x706.2.1.2.2.1, .int .u64 x706.2.1.2.2.2, .int .i64 x706.2.2.1, .int .i64 x706.2.2.2]) (Q_buildS st126.choose_spec (ps := [(0, [v718]), (1, [.int .u64 x706.2.1.1, .int .u64 x706.2.1.2.1, .int .u64 x706.2.1.2.2.1, .int .u64 x706.2.1.2.2.2]), (5, [.int .i64 x706.2.2.1]), (6, [.int .i64 x706.2.2.2])]) rfl ⟨rfl, (RdSl.cells r720), by simp, ⟨rfl, rfl, by simp, ⟨rfl, rfl, by simp, ⟨rfl, rfl, by simp, trivial⟩⟩⟩⟩ rfl) rfl rfl ?_
       refine ne (E_bslice (xs := [.tmp 46]) (vs := [.agg #[v718, .int .u64 x706.2.1.1, .int .u64 x706.2.1.2.1, .int .u64 x706.2.1.2.2.1, .int .u64 x706.2.1.2.2.2, .int .i64 x706.2.2.1, .int .i64 x706.2.2.2]]) H Tryz.underlying27 ty126 (by decide) (cs := [v718, .int .u64 x706.2.1.1, .int .u64 x706.2.1.2.1, .int .u64 x706.2.1.2.2.1, .int .u64 x706.2.1.2.2.2, .int .i64 x706.2.2.1, .int .i64 x706.2.2.2]) rfl (sz_cons rfl sz_nil) rfl (by simp) (by simp) rfl rfl) rfl rfl ?_
       rintro _ wd751 ⟨b750, rfl, H⟩
       obtain ⟨x752, hx752, hB703⟩ := bnd hB703
       obtain ⟨ha753a, ha753b⟩ := app_some hx752
       have r755 : rdL (eP (eL (eI .i64)) (eP (eP (eI .u64) (eP (eI .u64) (eP (eI .u64) (eI .u64)))) (eP (eI .i64) (eI .i64)))) ρ x752 (c641 ++ ([v718, .int .u64 x706.2.1.1, .int .u64 x706.2.1.2.1, .int .u64 x706.2.1.2.2.1, .int .u64 x706.2.1.2.2.2, .int .i64 x706.2.2.1, .int .i64 x706.2.2.2])) := ha753b ▸ rdL.app r643 (show rdL (eP (eL (eI .i64)) (eP (eP (eI .u64) (eP (eI .u64) (eP (eI .u64) (eI .u64)))) (eP (eI .i64) (eI .i64)))) ρ ([(x706.1, (x706.2.1.1, x706.2.1.2.1, x706.2.1.2.2.1, x706.2.1.2.2.2), x706.2.2.1, x706.2.2.2)]) ([v718, .int .u64 x706.2.1.1, .int .u64 x706.2.1.2.1, .int .u64 x706.2.1.2.2.1, .int .u64 x706.2.1.2.2.2, .int .i64 x706.2.2.1, .int .i64 x706.2.2.2]) from ⟨([v718, .int .u64 x706.2.1.1, .int .u64 x706.2.1.2.1, .int .u64 x706.2.1.2.2.1, .int .u64 x706.2.1.2.2.2, .int .i64 x706.2.2.1, .int .i64 x706.2.2.2]), _, rfl, ⟨[v718], _, rfl, ⟨_, rfl, r720⟩, ⟨[.int .u64 x706.2.1.1, .int .u64 x706.2.1.2.1, .int .u64 x706.2.1.2.2.1, .int .u64 x706.2.1.2.2.2], _, rfl, ⟨[.int .u64 x706.2.1.1], _, rfl, rfl, ⟨[.int .u64 x706.2.1.2.1], _, rfl, rfl, ⟨[.int .u64 x706.2.1.2.2.1], _, rfl, rfl, rfl⟩⟩⟩, ⟨[.int .i64 x706.2.2.1], _, rfl, rfl, rfl⟩⟩⟩, rdL.nil⟩)
       refine ne (E_append (k := 4) H rfl Tryz.underlying27 ty126 rfl (by decide) (by decide) rfl rfl (Src.ofArr (k := 0) H.ok rfl) (rdL.one (show rdL (eP (eL (eI .i64)) (eP (eP (eI .u64) (eP (eI .u64) (eP (eI .u64) (eI .u64)))) (eP (eI .i64) (eI .i64)))) ρ ([(x706.1, (x706.2.1.1, x706.2.1.2.1, x706.2.1.2.2.1, x706.2.1.2.2.2), x706.2.2.1, x706.2.2.2)]) ([v718, .int .u64 x706.2.1.1, .int .u64 x706.2.1.2.1, .int .u64 x706.2.1.2.2.1, .int .u64 x706.2.1.2.2.2, .int .i64 x706.2.2.1, .int .i64 x706.2.2.2]) from ⟨([v718, .int .u64 x706.2.1.1, .int .u64 x706.2.1.2.1, .int .u64 x706.2.1.2.2.1, .int .u64 x706.2.1.2.2.2, .int .i64 x706.2.2.1, .int .i64 x706.2.2.2]), _, rfl, ⟨[v718], _, rfl, ⟨_, rfl, r720⟩, ⟨[.int .u64 x706.2.1.1, .int .u64 x706.2.1.2.1, .int .u64 x706.2.1.2.2.1, .int .u64 x706.2.1.2.2.2], _, rfl, ⟨[.int .u64 x706.2.1.1], _, rfl, rfl, ⟨[.int .u64 x706.2.1.2.1], _, rfl, rfl, ⟨[.int .u64 x706.2.1.2.2.1], _, rfl, rfl, rfl⟩⟩⟩, ⟨[.int .i64 x706.2.2.1], _, rfl, rfl, rfl⟩⟩⟩, rdL.nil⟩)) (app_fit r643 (show rdL (eP (eL (eI .i64)) (eP (eP (eI .u64) (eP (eI .u64) (eP (eI .u64) (eI .u64)))) (eP (eI .i64) (eI .i64)))) ρ ([(x706.1, (x706.2.1.1, x706.2.1.2.1, x706.2.1.2.2.1, x706.2.1.2.2.2), x706.2.2.1, x706.2.2.2)]) ([v718, .int .u64 x706.2.1.1, .int .u64 x706.2.1.2.1, .int .u64 x706.2.1.2.2.1, .int .u64 x706.2.1.2.2.2, .int .i64 x706.2.2.1, .int .i64 x706.2.2.2]) from ⟨([v718, .int .u64 x706.2.1.1, .int .u64 x706.2.1.2.1, .int .u64 x706.2.1.2.2.1, .int .u64 x706.2.1.2.2.2, .int .i64 x706.2.2.1, .int .i64 x706.2.2.2]), _, rfl, ⟨[v718], _, rfl, ⟨_, rfl, r720⟩, ⟨[.int .u64 x706.2.1.1, .int .u64 x706.2.1.2.1, .int .u64 x706.2.1.2.2.1, .int .u64 x706.2.1.2.2.2], _, rfl, ⟨[.int .u64 x706.2.1.1], _, rfl, rfl, ⟨[.int .u64 x706.2.1.2.1], _, rfl, rfl, ⟨[.int .u64 x706.2.1.2.2.1], _, rfl, rfl, rfl⟩⟩⟩, ⟨[.int .i64 x706.2.2.1], _, rfl, rfl, rfl⟩⟩⟩, rdL.nil⟩) ha753a)) rfl rfl ?_
       rintro v754 wd757 ⟨H, hc756⟩
       dsimp only [List.set] at H
       refine nq (v := .pointer (some ⟨b391, 0, none⟩)) (Q_fld Tryz.underlying29 rfl ty27 (by decide) rfl rfl) rfl rfl <| ne (E_stB (k := 3) (cs := [v754]) (vs' := [v754, v4]) H rfl ty27 rfl rfl (arr_cells (H.ok.get (k := 4) rfl)).1 rfl (one_cons (arr_cells (H.ok.get (k := 4) rfl)).2 one_nil) (by simp) rfl) rfl rfl ?_
       rintro _ wd758 H
       dsimp only [List.set] at H
       refine WL_nil <| x_block <| x_then <| R_nd <| nq (Q_add rfl rfl) rfl rfl <| nq (Q_move rfl) rfl rfl <| WL_nil ?_
       replace H := H.f4
       replace H := H.f4
       replace H := H.f4
       replace H := H.drop 3 rfl
       dsimp only [List.eraseIdx] at H
       replace H := H.drop 3 rfl
       dsimp only [List.eraseIdx] at H
       obtain rfl := Option.some.inj hB703
       refine x_A fun a hf => ⟨_, rfl, v754, (c641 ++ ([v718, .int .u64 x706.2.1.1, .int .u64 x706.2.1.2.1, .int .u64 x706.2.1.2.2.1, .int .u64 x706.2.1.2.2.2, .int .i64 x706.2.2.1, .int .i64 x706.2.2.2])), w64 (x639 + 1), x752, rfl, r755, hf.sub ⟨rfl, rfl, rfl, rfl, rfl, trivial⟩, H⟩
     ·replace hB703 := itF hb hB703
      refine C_exit <| x_then_exit <| x_then_exit <| x_block_exit ?_
      replace H := H.f2
      replace H := H.f2
      replace H := H.f2
      obtain rfl := Option.some.inj hB703
      obtain rfl := hO704 _ rfl
      refine x_A fun a hf => ⟨v640, c641, x642, rfl, r643, hf.sub ⟨rfl, rfl, trivial⟩, H⟩
   ·rintro a wd759 ⟨v576, c577, x578, rfl, r579, hf, H⟩
    try dsimp only at hF
    refine XX.at hf <| x_then <| C_seq <| R_nd <| nq (v := .agg #[v576, v4]) (Q_ldB (k := 1) (cs := [v576, v4]) H.ok rfl ty29 rfl rfl rfl (fun h => nomatch h) rfl) rfl rfl <| ne (E_stB (k := 0) (cs := [v576, v4]) (vs' := [v576, v4]) H rfl ty29 rfl rfl rfl rfl (one_cons (arr_cells (H.ok.get (k := 2) rfl)).2 (one_cons (RdSl.one r6) one_nil)) (by simp) rfl) rfl rfl ?_
    rintro _ wd760 H
    dsimp only [List.set] at H
    refine nq (Q_assign rfl) rfl rfl <| WL_nil <| x_then <| C_ret ?_
    have hRV : RV Tryz.prog wd760 [(4, .pointer (some ⟨b389, 0, none⟩)), (5, .bool true)] [.cell 4 29, .tmp 5] [.agg #[v576, v4], .bool true] := ⟨⟨_, rfl, run_ldv ty29 rfl (fun h => nomatch h) (box_at (H.ok.get (k := 0) rfl) 0 2)⟩, rfl, trivial⟩
    replace H := H.f2
    replace H := H.drop 1 rfl
    dsimp only [List.eraseIdx] at H
    replace H := H.drop 1 rfl
    dsimp only [List.eraseIdx] at H
    obtain rfl := Option.some.inj hF
    exact fn_retV (rs := [.cell 4 29, .tmp 5]) (vs := [.agg #[v576, v4], .bool true]) rfl hRV ⟨v576, c577, x578, true, rfl, rfl, r579, H⟩
theorem c_19 {N : Nat} {C : Cx} {w : World} {ρ : View} {hs : List Hl} {gV : Nat → Value} {v1 : Value} {v4 : Value} {x2 : (List ((List Int) × (Int × Int × Int × Int) × Int × Int))} {x5 : (List Int)} (H : Hp C w ρ (hs)) (_gle : GErrs ρ 394 errIds gV) (r3 : RdSl ρ (eP (eL (eI .i64)) (eP (eP (eI .u64) (eP (eI .u64) (eP (eI .u64) (eI .u64)))) (eP (eI .i64) (eI .i64)))) v1 x2) (r6 : RdSl ρ (eI .i64) v4 x5) {r : Bool} (hF : F_dofferref15_Right N x2 x5 = some r) :
  Calls Tryz.prog 19 [.agg #[v1, v4]].toArray w (Rets (fun v w' => (∃ (x836 : Bool), x836 = r ∧ .bool x836 = v ∧ Hp C w' ρ (hs)))) := by
 unfold F_dofferref15_Right at hF
 have h0 : Tryz.f19.body = some _ := rfl
 refine fn_calls' Tryz.func19 h0 (n := 99) rfl (by simp) <| C_seq <| R_nd <| ne (E_box H (vs := [v1, v4]) rfl rfl) rfl rfl ?_
 rintro _ wd838 ⟨b837, rfl, H⟩
 refine nq (Q_assign rfl) rfl rfl <| WL_nil <| x_then <| C_seq <| R_nd <| nq (v := .pointer (some ⟨b837, 0, none⟩)) (Q_fld Tryz.underlying29 rfl ty27 (by decide) rfl rfl) rfl rfl <| nq (v := v1) (Q_ldB (k := 0) (cs := [v1]) H.ok rfl ty27 rfl rfl rfl (fun _ => rfl) rfl) rfl rfl <| nq (Q_len Tryz.underlying27 rfl r3) rfl rfl <| nq (Q_assign rfl) rfl rfl <| WL_nil <| x_then <| C_seq ?_
 obtain ⟨o840, ho840, hF⟩ := bnd hF
 refine C_cut (fun a w' => ∃ (x839 : Bool), x839 = o840 ∧ Fr 99 a [(1, .pointer (some ⟨b837, 0, none⟩)), (3, .int .i64 (x2.length : Int)), (30, .bool x839)] ∧ Hp C w' ρ (Box b837 [v1, v4] :: hs)) ?_ ?_
 ·refine R_nd <| nq (Q_move rfl) rfl rfl <| nq (Q_lss rfl rfl) rfl rfl <| nq (Q_move rfl) rfl rfl ?_
  rcases Bool.eq_false_or_eq_true (decide ((x2.length : Int) < 1)) with hb | hb
  ·rw [hb]
   replace ho840 := itT hb ho840
   refine gs rfl rfl rfl rfl <| gs rfl rfl rfl rfl <| nq (Q_pickT rfl rfl) rfl rfl <| nq (Q_move rfl) rfl rfl <| gs rfl rfl rfl rfl <| gs rfl rfl rfl rfl <| gs rfl rfl rfl rfl <| gs rfl rfl rfl rfl <| nq (Q_pickT rfl rfl) rfl rfl <| nq (Q_move rfl) rfl rfl <| gs rfl rfl rfl rfl <| gs rfl rfl rfl rfl <| gs rfl rfl rfl rfl <| gs rfl rfl rfl rfl ?_
   refine nq (Q_pickT rfl rfl) rfl rfl <| WL_nil ?_
   obtain rfl := Option.some.inj ho840
   refine x_A fun a hf => ⟨true, rfl, hf.sub ⟨rfl, rfl, rfl, trivial⟩, H⟩
  ·rw [hb]
   replace ho840 := itF hb ho840
   refine gq (Q_move rfl) rfl rfl rfl <| gq (Q_gtr rfl rfl) rfl rfl rfl <| nq (Q_pickF rfl rfl) rfl rfl <| nq (Q_move rfl) rfl rfl ?_
   rcases Bool.eq_false_or_eq_true (decide ((x2.length : Int) > 4000)) with hb | hb
   ·rw [hb]
    replace ho840 := itT hb ho840
    refine gs rfl rfl rfl rfl <| gs rfl rfl rfl rfl <| gs rfl rfl rfl rfl <| gs rfl rfl rfl rfl <| nq (Q_pickT rfl rfl) rfl rfl <| nq (Q_move rfl) rfl rfl <| gs rfl rfl rfl rfl <| gs rfl rfl rfl rfl <| gs rfl rfl rfl rfl <| gs rfl rfl rfl rfl <| nq (Q_pickT rfl rfl) rfl rfl <| WL_nil ?_
    obtain rfl := Option.some.inj ho840
    refine x_A fun a hf => ⟨true, rfl, hf.sub ⟨rfl, rfl, rfl, trivial⟩, H⟩
   ·rw [hb]
    replace ho840 := itF hb ho840
    refine gq (v := .pointer (some ⟨b837, 1, none⟩)) (Q_fld Tryz.underlying29 rfl ty23 (by decide) rfl rfl) rfl rfl rfl <| gq (v := v4) (Q_ldB (k := 0) (cs := [v4]) H.ok rfl ty23 rfl rfl rfl (fun _ => rfl) rfl) rfl rfl rfl <| gq (Q_len Tryz.underlying23 rfl r6) rfl rfl rfl <| gq (Q_lss rfl rfl) rfl rfl rfl <| nq (Q_pickF rfl rfl) rfl rfl <| nq (Q_move rfl) rfl rfl ?_
    rcases Bool.eq_false_or_eq_true (decide ((x5.length : Int) < 1)) with hb | hb
    ·rw [hb]
     replace ho840 := itT hb ho840
     refine gs rfl rfl rfl rfl <| gs rfl rfl rfl rfl <| gs rfl rfl rfl rfl <| gs rfl rfl rfl rfl <| nq (Q_pickT rfl rfl) rfl rfl <| WL_nil ?_
     obtain rfl := Option.some.inj ho840
     refine x_A fun a hf => ⟨true, rfl, hf.sub ⟨rfl, rfl, rfl, trivial⟩, H⟩
    ·rw [hb]
     replace ho840 := itF hb ho840
     refine gq (v := .pointer (some ⟨b837, 1, none⟩)) (Q_fld Tryz.underlying29 rfl ty23 (by decide) rfl rfl) rfl rfl rfl <| gq (v := v4) (Q_ldB (k := 0) (cs := [v4]) H.ok rfl ty23 rfl rfl rfl (fun _ => rfl) rfl) rfl rfl rfl <| gq (Q_len Tryz.underlying23 rfl r6) rfl rfl rfl <| gq (Q_gtr rfl rfl) rfl rfl rfl <| nq (Q_pickF rfl rfl) rfl rfl <| WL_nil ?_
     obtain rfl := Option.some.inj ho840
     refine x_A fun a hf => ⟨decide ((x5.length : Int) > 8), rfl, hf.sub ⟨rfl, rfl, rfl, trivial⟩, H⟩
 ·rintro a wd841 ⟨x839, rfl, hf, H⟩
  try dsimp only at hF
  refine CW.at hf ?_
  refine C_cond rfl (fun hb => ?_) (fun hb => ?_)
  ·replace hF := itT hb hF
   refine C_seq <| R_nd <| nq (Q_assign rfl) rfl rfl <| WL_nil <| x_then <| C_ret <| x_then_ret ?_
   replace H := H.drop 0 rfl
   dsimp only [List.eraseIdx] at H
   obtain rfl := Option.some.inj hF
   exact fn_ret (l := [.tmp 2]) (vs := [.bool false]) rfl rfl rfl ⟨false, rfl, rfl, H⟩
  ·replace hF := itF hb hF
   refine C_skip <| x_then <| C_seq <| C_seq <| R_nd <| nq (v := .pointer (some ⟨b837, 1, none⟩)) (Q_fld Tryz.underlying29 rfl ty23 (by decide) rfl rfl) rfl rfl <| nq (v := v4) (Q_ldB (k := 0) (cs := [v4]) H.ok rfl ty23 rfl rfl rfl (fun _ => rfl) rfl) rfl rfl <| nq (Q_len Tryz.underlying23 rfl r6) rfl rfl <| nq (Q_move rfl) rfl rfl <| WL_nil <| x_then ?_
   obtain ⟨o879, ho879, hF⟩ := bnd hF
   refine C_cutQ (fun a w' => .inl () = o879 ∧ Fr 99 a [(1, .pointer (some ⟨b837, 0, none⟩)), (3, .int .i64 (x2.length : Int))] ∧ Hp C w' ρ (Box b837 [v1, v4] :: hs)) ?_ ?_
   ·refine C_block ?_
    refine C_iter (f := fun s => F_dofferref15_Right_l0 N x2 x5 s) ho879 (fun s a w' => ∃ (x891 : Int), x891 = s ∧ Fr 99 a [(1, .pointer (some ⟨b837, 0, none⟩)), (3, .int .i64 (x2.length : Int)), (32, v4), (33, .int .i64 (x5.length : Int)), (34, .int .i64 x891)] ∧ Hp C w' ρ (Box b837 [v1, v4] :: hs)) ?_ ?_
    ·exact fun a hf => ⟨0, rfl, hf.sub ⟨rfl, rfl, rfl, rfl, rfl, trivial⟩, H⟩
    ·rintro s o903 a wd906 ⟨x891, rfl, hf, H⟩ hB904 hO905
     replace hB904 : F_dofferref15_Right_l0 N x2 x5 x891 = some o903 := hB904
     unfold F_dofferref15_Right_l0 at hB904
     refine CW.at hf <| C_seq <| R_nd <| nq (Q_lss rfl rfl) rfl rfl <| WL_nil <| x_then <| C_seq ?_
     refine C_cond rfl (fun hb => ?_) (fun hb => ?_)
     ·replace hB904 := itT hb hB904
      refine C_skip <| x_then <| C_seq <| C_block <| C_seq <| R_nd ?_
      obtain ⟨x907, hx907, hB904⟩ := bnd hB904
      obtain ⟨b908, o909, c910, hc911, ha912, hi913⟩ := idxR r6 hx907
      refine nq (Q_idx hi913 Tryz.underlying23 ty3 rfl rfl) rfl rfl <| nq (v := .int .i64 x907) (Q_ld (show cellsAt _ _ _ [.int .i64 x907] from (show _ = [_] from hc911) ▸ (ha912.up H.ok.view)) ty3 rfl (fun _ => rfl) rfl rfl) rfl rfl <| nq (Q_assign rfl) rfl rfl <| WL_nil <| x_then ?_
      obtain ⟨o915, ho915, hB904⟩ := bnd hB904
      refine C_cut (fun a w' => ∃ (x914 : Bool), x914 = o915 ∧ Fr 99 a [(1, .pointer (some ⟨b837, 0, none⟩)), (3, .int .i64 (x2.length : Int)), (32, v4), (33, .int .i64 (x5.length : Int)), (34, .int .i64 x891), (44, .bool x914)] ∧ Hp C w' ρ (Box b837 [v1, v4] :: hs)) ?_ ?_
      ·refine R_nd <| nq (Q_move rfl) rfl rfl <| nq (Q_lss rfl rfl) rfl rfl <| nq (Q_move rfl) rfl rfl ?_
       rcases Bool.eq_false_or_eq_true (decide (x907 < 0)) with hb | hb
       ·rw [hb]
        replace ho915 := itT hb ho915
        refine gs rfl rfl rfl rfl <| gs rfl rfl rfl rfl <| gs rfl rfl rfl rfl <| nq (Q_pickT rfl rfl) rfl rfl <| WL_nil ?_
        obtain rfl := Option.some.inj ho915
        refine x_A fun a hf => ⟨true, rfl, hf.sub ⟨rfl, rfl, rfl, rfl, rfl, rfl, trivial⟩, H⟩
       ·rw [hb]
        replace ho915 := itF hb ho915
        refine gq (Q_move rfl) rfl rfl rfl <| gq (Q_move rfl) rfl rfl rfl <| gq (Q_geq rfl rfl) rfl rfl rfl <| nq (Q_pickF rfl rfl) rfl rfl <| WL_nil ?_
        obtain rfl := Option.some.inj ho915
        refine x_A fun a hf => ⟨decide (x907 ≥ (x2.length : Int)), rfl, hf.sub ⟨rfl, rfl, rfl, rfl, rfl, rfl, trivial⟩, H⟩
      ·rintro a wd916 ⟨x914, rfl, hf, H⟩
       try dsimp only at hB904
       refine CW.at hf ?_
       refine C_cond rfl (fun hb => ?_) (fun hb => ?_)
       ·replace hB904 := itT hb hB904
        refine C_seq <| R_nd <| nq (Q_assign rfl) rfl rfl <| WL_nil <| x_then <| C_ret <| x_block_ret <| x_then_ret <| x_then_ret <| x_block_ret <| x_then_ret <| x_then_ret ?_
        replace H := H.drop 0 rfl
        dsimp only [List.eraseIdx] at H
        obtain rfl := Option.some.inj hB904
        obtain rfl := hO905 _ rfl
        obtain rfl := Option.some.inj (show some _ = some _ from hF)
        exact fn_ret (l := [.tmp 2]) (vs := [.bool false]) rfl rfl rfl ⟨false, rfl, rfl, H⟩
       ·replace hB904 := itF hb hB904
        refine C_skip <| x_block <| x_then <| R_nd <| nq (Q_add rfl rfl) rfl rfl <| nq (Q_move rfl) rfl rfl <| WL_nil ?_
        obtain rfl := Option.some.inj hB904
        refine x_A fun a hf => ⟨_, rfl, w64 (x891 + 1), rfl, hf.sub ⟨rfl, rfl, rfl, rfl, rfl, trivial⟩, H⟩
     ·replace hB904 := itF hb hB904
      refine C_exit <| x_then_exit <| x_then_exit <| x_block_exit ?_
      obtain rfl := Option.some.inj hB904
      obtain rfl := hO905 _ rfl
      refine x_A fun a hf => ⟨rfl, hf.sub ⟨rfl, rfl, trivial⟩, H⟩
   ·rintro a wd917 ⟨rfl, hf, H⟩
    try dsimp only at hF
    refine XX.at hf <| x_then <| C_seq <| C_seq <| R_nd <| nq (v := .pointer (some ⟨b837, 0, none⟩)) (Q_fld Tryz.underlying29 rfl ty27 (by decide) rfl rfl) rfl rfl <| nq (v := v1) (Q_ldB (k := 0) (cs := [v1]) H.ok rfl ty27 rfl rfl rfl (fun _ => rfl) rfl) rfl rfl <| nq (Q_len Tryz.underlying27 rfl r3) rfl rfl <| nq (Q_move rfl) rfl rfl <| WL_nil <| x_then ?_
    obtain ⟨o1291, ho1291, hF⟩ := bnd hF
    refine C_cutQ (fun a w' => .inl () = o1291 ∧ Fr 99 a [] ∧ Hp C w' ρ (hs)) ?_ ?_
    ·refine C_block ?_
     replace H := H.drop 0 rfl
     dsimp only [List.eraseIdx] at H
     refine C_iter (f := fun s => F_dofferref15_Right_l1 N x2 s) ho1291 (fun s a w' => ∃ (x1415 : Int), x1415 = s ∧ Fr 99 a [(3, .int .i64 (x2.length : Int)), (47, v1), (48, .int .i64 (x2.length : Int)), (49, .int .i64 x1415)] ∧ Hp C w' ρ (hs)) ?_ ?_
     ·exact fun a hf => ⟨0, rfl, hf.sub ⟨rfl, rfl, rfl, rfl, trivial⟩, H⟩
     ·rintro s o1539 a wd1542 ⟨x1415, rfl, hf, H⟩ hB1540 hO1541
      replace hB1540 : F_dofferref15_Right_l1 N x2 x1415 = some o1539 := hB1540
      unfold F_dofferref15_Right_l1 at hB1540
      refine CW.at hf <| C_seq <| R_nd <| nq (Q_lss rfl rfl) rfl rfl <| WL_nil <| x_then <| C_seq ?_
      refine C_cond rfl (fun hb => ?_) (fun hb => ?_)
      ·replace hB1540 := itT hb hB1540
       refine C_skip <| x_then <| C_seq <| C_block <| C_seq <| R_nd ?_
       obtain ⟨x1543, hx1543, hB1540⟩ := bnd hB1540
       obtain ⟨b1544, o1545, c1546, hc1547, ha1548, hi1549⟩ := idxR r3 hx1543
       refine nq (Q_idx hi1549 Tryz.underlying27 ty126 rfl rfl) rfl rfl ?_
       obtain ⟨c1550, c1551, he1552, hc1553, hc1554⟩ := (id hc1547)
       obtain ⟨v1555, he1556, r1557⟩ := hc1553
       obtain ⟨c1558, c1559, he1560, hc1561, hc1562⟩ := hc1554
       obtain ⟨c1563, c1564, he1565, hc1566, hc1567⟩ := hc1561
       obtain ⟨c1568, c1569, he1570, hc1571, hc1572⟩ := hc1567
       obtain ⟨c1573, c1574, he1575, hc1576, hc1577⟩ := hc1572
       obtain ⟨c1578, c1579, he1580, hc1581, hc1582⟩ := hc1562
       refine nq (v := .agg #[v1555, .int .u64 x1543.2.1.1, .int .u64 x1543.2.1.2.1, .int .u64 x1543.2.1.2.2.1, .int .u64 x1543.2.1.2.2.2, .int .i64 x1543.2.2.1, .int .i64 x1543.2.2.2]) (Q_ld (show cellsAt _ _ _ [v1555, .int .u64 x1543.2.1.1, .int .u64 x1543.2.1.2.1, .int .u64 x1543.2.1.2.2.1, .int .u64 x1543.2.1.2.2.2, .int .i64 x1543.2.2.1, .int .i64 x1543.2.2.2] from cellsAt.cg (cat2 he1552 he1556 (cat2 he1560 (cat2 he1565 (rdI hc1566) (cat2 he1570 (rdI hc1571) (cat2 he1575 (rdI hc1576) (rdI hc1577)))) (cat2 he1580 (rdI hc1581) (rdI hc1582)))) (ha1548.up H.ok.view)) ty126 rfl (fun h => nomatch h) rfl rfl) rfl rfl <| ne (E_alloc H ty126 (zs := [.slice none 0 0, .int .u64 0, .int .u64 0, .int .u64 0, .int .u64 0, .int .i64 0, .int .i64 0]) rfl) rfl rfl ?_
       rintro _ wd1584 ⟨b1583, rfl, H⟩
       refine ne (E_stB (k := 0) (cs := [v1555, .int .u64 x1543.2.1.1, .int .u64 x1543.2.1.2.1, .int .u64 x1543.2.1.2.2.1, .int .u64 x1543.2.1.2.2.2, .int .i64 x1543.2.2.1, .int .i64 x1543.2.2.2]) (vs' := [v1555, .int .u64 x1543.2.1.1, .int .u64 x1543.2.1.2.1, .int .u64 x1543.2.1.2.2.1, .int .u64 x1543.2.1.2.2.2, .int .i64 x1543.2.2.1, .int .i64 x1543.2.2.2]) H rfl ty126 rfl rfl rfl rfl (one_cons (RdSl.one r1557) (one_cons rfl (one_cons rfl (one_cons rfl (one_cons rfl (one_cons rfl (one_cons rfl one_nil))))))) (by simp) rfl) rfl rfl ?_
       rintro _ wd1585 H
       dsimp only [List.set] at H
       refine WL_nil <| x_then <| C_seq ?_
       obtain ⟨o1587, ho1587, hB1540⟩ := bnd hB1540
       refine C_cut (fun a w' => ∃ (x1586 : Bool), x1586 = o1587 ∧ Fr 99 a [(3, .int .i64 (x2.length : Int)), (7, .pointer (some ⟨b1583, 0, none⟩)), (47, v1), (48, .int .i64 (x2.length : Int)), (49, .int .i64 x1415), (82, .bool x1586)] ∧ Hp C w' ρ (Box b1583 [v1555, .int .u64 x1543.2.1.1, .int .u64 x1543.2.1.2.1, .int .u64 x1543.2.1.2.2.1, .int .u64 x1543.2.1.2.2.2, .int .i64 x1543.2.2.1, .int .i64 x1543.2.2.2] :: hs)) ?_ ?_
       ·refine R_nd <| nq (v := .pointer (some ⟨b1583, 5, none⟩)) (Q_fld Tryz.underlying126 rfl ty3 (by decide) rfl rfl) rfl rfl <| nq (v := .int .i64 x1543.2.2.1) (Q_ldB (k := 0) (cs := [.int .i64 x1543.2.2.1]) H.ok rfl ty3 rfl rfl rfl (fun _ => rfl) rfl) rfl rfl <| nq (Q_lss rfl rfl) rfl rfl <| nq (Q_move rfl) rfl rfl ?_
        rcases Bool.eq_false_or_eq_true (decide (x1543.2.2.1 < (-1))) with hb | hb
        ·rw [hb]
         replace ho1587 := itT hb ho1587
         refine gs rfl rfl rfl rfl <| gs rfl rfl rfl rfl <| gs rfl rfl rfl rfl <| gs rfl rfl rfl rfl <| nq (Q_pickT rfl rfl) rfl rfl <| nq (Q_move rfl) rfl rfl <| gs rfl rfl rfl rfl <| gs rfl rfl rfl rfl <| gs rfl rfl rfl rfl <| nq (Q_pickT rfl rfl) rfl rfl <| nq (Q_move rfl) rfl rfl <| gs rfl rfl rfl rfl <| gs rfl rfl rfl rfl <| gs rfl rfl rfl rfl ?_
         refine nq (Q_pickT rfl rfl) rfl rfl <| nq (Q_move rfl) rfl rfl <| gs rfl rfl rfl rfl <| gs rfl rfl rfl rfl <| gs rfl rfl rfl rfl <| gs rfl rfl rfl rfl <| gsu rfl ⟨_, _, rfl, rfl, rfl⟩ rfl <| gsu rfl ⟨_, _, rfl, rfl, rfl⟩ rfl <| gsu rfl ⟨_, _, rfl, rfl, rfl⟩ rfl <| gsu rfl ⟨_, _, rfl, rfl, rfl⟩ rfl <| gs rfl rfl rfl rfl <| nq (Q_pickT rfl rfl) rfl rfl <| WL_nil ?_
         obtain rfl := Option.some.inj ho1587
         refine x_A fun a hf => ⟨true, rfl, hf.sub ⟨rfl, rfl, rfl, rfl, rfl, rfl, trivial⟩, H⟩
        ·rw [hb]
         replace ho1587 := itF hb ho1587
         refine gq (v := .pointer (some ⟨b1583, 5, none⟩)) (Q_fld Tryz.underlying126 rfl ty3 (by decide) rfl rfl) rfl rfl rfl <| gq (v := .int .i64 x1543.2.2.1) (Q_ldB (k := 0) (cs := [.int .i64 x1543.2.2.1]) H.ok rfl ty3 rfl rfl rfl (fun _ => rfl) rfl) rfl rfl rfl <| gq (Q_move rfl) rfl rfl rfl <| gq (Q_geq rfl rfl) rfl rfl rfl <| nq (Q_pickF rfl rfl) rfl rfl <| nq (Q_move rfl) rfl rfl ?_
         rcases Bool.eq_false_or_eq_true (decide (x1543.2.2.1 ≥ (x2.length : Int))) with hb | hb
         ·rw [hb]
          replace ho1587 := itT hb ho1587
          refine gs rfl rfl rfl rfl <| gs rfl rfl rfl rfl <| gs rfl rfl rfl rfl <| nq (Q_pickT rfl rfl) rfl rfl <| nq (Q_move rfl) rfl rfl <| gs rfl rfl rfl rfl <| gs rfl rfl rfl rfl <| gs rfl rfl rfl rfl <| nq (Q_pickT rfl rfl) rfl rfl <| nq (Q_move rfl) rfl rfl <| gs rfl rfl rfl rfl <| gs rfl rfl rfl rfl <| gs rfl rfl rfl rfl <| gs rfl rfl rfl rfl ?_
          refine gsu rfl ⟨_, _, rfl, rfl, rfl⟩ rfl <| gsu rfl ⟨_, _, rfl, rfl, rfl⟩ rfl <| gsu rfl ⟨_, _, rfl, rfl, rfl⟩ rfl <| gsu rfl ⟨_, _, rfl, rfl, rfl⟩ rfl <| gs rfl rfl rfl rfl <| nq (Q_pickT rfl rfl) rfl rfl <| WL_nil ?_
          obtain rfl := Option.some.inj ho1587
          refine x_A fun a hf => ⟨true, rfl, hf.sub ⟨rfl, rfl, rfl, rfl, rfl, rfl, trivial⟩, H⟩
         ·rw [hb]
          replace ho1587 := itF hb ho1587
          refine gq (v := .pointer (some ⟨b1583, 6, none⟩)) (Q_fld Tryz.underlying126 rfl ty3 (by decide) rfl rfl) rfl rfl rfl <| gq (v := .int .i64 x1543.2.2.2) (Q_ldB (k := 0) (cs := [.int .i64 x1543.2.2.2]) H.ok rfl ty3 rfl rfl rfl (fun _ => rfl) rfl) rfl rfl rfl <| gq (Q_lss rfl rfl) rfl rfl rfl <| nq (Q_pickF rfl rfl) rfl rfl <| nq (Q_move rfl) rfl rfl ?_
          rcases Bool.eq_false_or_eq_true (decide (x1543.2.2.2 < (-1))) with hb | hb
          ·rw [hb]
           replace ho1587 := itT hb ho1587
           refine gs rfl rfl rfl rfl <| gs rfl rfl rfl rfl <| gs rfl rfl rfl rfl <| nq (Q_pickT rfl rfl) rfl rfl <| nq (Q_move rfl) rfl rfl <| gs rfl rfl rfl rfl <| gs rfl rfl rfl rfl <| gs rfl rfl rfl rfl <| gs rfl rfl rfl rfl <| gsu rfl ⟨_, _, rfl, rfl, rfl⟩ rfl <| gsu rfl ⟨_, _, rfl, rfl, rfl⟩ rfl <| gsu rfl ⟨_, _, rfl, rfl, rfl⟩ rfl <| gsu rfl ⟨_, _, rfl, rfl, rfl⟩ rfl <| gs rfl rfl rfl rfl ?_
           refine nq (Q_pickT rfl rfl) rfl rfl <| WL_nil ?_
           obtain rfl := Option.some.inj ho1587
           refine x_A fun a hf => ⟨true, rfl, hf.sub ⟨rfl, rfl, rfl, rfl, rfl, rfl, trivial⟩, H⟩
          ·rw [hb]
           replace ho1587 := itF hb ho1587
           refine gq (v := .pointer (some ⟨b1583, 6, none⟩)) (Q_fld Tryz.underlying126 rfl ty3 (by decide) rfl rfl) rfl rfl rfl <| gq (v := .int .i64 x1543.2.2.2) (Q_ldB (k := 0) (cs := [.int .i64 x1543.2.2.2]) H.ok rfl ty3 rfl rfl rfl (fun _ => rfl) rfl) rfl rfl rfl <| gq (Q_gtr rfl rfl) rfl rfl rfl <| nq (Q_pickF rfl rfl) rfl rfl <| nq (Q_move rfl) rfl rfl ?_
           rcases Bool.eq_false_or_eq_true (decide (x1543.2.2.2 > 47)) with hb | hb
           ·rw [hb]
            replace ho1587 := itT hb ho1587
            refine gs rfl rfl rfl rfl <| gs rfl rfl rfl rfl <| gs rfl rfl rfl rfl <| gs rfl rfl rfl rfl <| gsu rfl ⟨_, _, rfl, rfl, rfl⟩ rfl <| gsu rfl ⟨_, _, rfl, rfl, rfl⟩ rfl <| gsu rfl ⟨_, _, rfl, rfl, rfl⟩ rfl <| gsu rfl ⟨_, _, rfl, rfl, rfl⟩ rfl <| gs rfl rfl rfl rfl <| nq (Q_pickT rfl rfl) rfl rfl <| WL_nil ?_
            obtain rfl := Option.some.inj ho1587
            refine x_A fun a hf => ⟨true, rfl, hf.sub ⟨rfl, rfl, rfl, rfl, rfl, rfl, trivial⟩, H⟩
           ·rw [hb]
            replace ho1587 := itF hb ho1587
            refine gq (v := .pointer (some ⟨b1583, 5, none⟩)) (Q_fld Tryz.underlying126 rfl ty3 (by decide) rfl rfl) rfl rfl rfl <| gq (v := .int .i64 x1543.2.2.1) (Q_ldB (k := 0) (cs := [.int .i64 x1543.2.2.1]) H.ok rfl ty3 rfl rfl rfl (fun _ => rfl) rfl) rfl rfl rfl <| gq (Q_eql rfl rfl) rfl rfl rfl <| gq (Q_move rfl) rfl rfl rfl ?_
            rcases Bool.eq_false_or_eq_true (x1543.2.2.1 == (-1)) with hb | hb
            ·rw [hb]
             replace ho1587 := itT hb ho1587
             refine gq (v := .pointer (some ⟨b1583, 1, none⟩)) (Q_fld Tryz.underlying126 rfl ty38 (by decide) rfl rfl) rfl rfl rfl <| gq (v := .agg #[.int .u64 x1543.2.1.1, .int .u64 x1543.2.1.2.1, .int .u64 x1543.2.1.2.2.1, .int .u64 x1543.2.1.2.2.2]) (Q_ldB (k := 0) (cs := [.int .u64 x1543.2.1.1, .int .u64 x1543.2.1.2.1, .int .u64 x1543.2.1.2.2.1, .int .u64 x1543.2.1.2.2.2]) H.ok rfl ty38 rfl rfl rfl (fun h => nomatch h) rfl) rfl rfl rfl <| gq (v := .agg #[.int .u64 0, .int .u64 0, .int .u64 0, .int .u64 0]) (Q_build0 (zs := [.int .u64 0, .int .u64 0, .int .u64 0, .int .u64 0]) ty38 Tryz.underlying38 ty37 rfl) rfl rfl rfl <| gq (v := .bool (([x1543.2.1.1, x1543.2.1.2.1, x1543.2.1.2.2.1, x1543.2.1.2.2.2] : List Int) != ([0, 0, 0, 0] : List Int))) (Q_neqA (xs := ([x1543.2.1.1, x1543.2.1.2.1, x1543.2.1.2.2.1, x1543.2.1.2.2.2] : List Int)) (ys := ([0, 0, 0, 0] : List Int)) Tryz.underlying38 ty37 (by kernel_rfl) Tryz.underlying37 (rdL_ints .u64 ρ ([x1543.2.1.1, x1543.2.1.2.1, x1543.2.1.2.2.1, x1543.2.1.2.2.2] : List Int)) rfl (rdL_ints .u64 ρ ([0, 0, 0, 0] : List Int)) rfl rfl rfl) rfl rfl rfl <| gq (Q_pickT rfl rfl) rfl rfl rfl <| nq (Q_pickF rfl rfl) rfl rfl <| WL_nil ?_
             obtain rfl := Option.some.inj ho1587
             refine x_A fun a hf => ⟨([x1543.2.1.1, x1543.2.1.2.1, x1543.2.1.2.2.1, x1543.2.1.2.2.2] : List Int) != ([0, 0, 0, 0] : List Int), rfl, hf.sub ⟨rfl, rfl, rfl, rfl, rfl, rfl, trivial⟩, H⟩
            ·rw [hb]
             replace ho1587 := itF hb ho1587
             refine gs rfl rfl rfl rfl <| gs rfl rfl rfl rfl <| gs rfl rfl rfl rfl <| gs rfl rfl rfl rfl <| gq (Q_pickF rfl rfl) rfl rfl rfl <| nq (Q_pickF rfl rfl) rfl rfl <| WL_nil ?_
             obtain rfl := Option.some.inj ho1587
             refine x_A fun a hf => ⟨false, rfl, hf.sub ⟨rfl, rfl, rfl, rfl, rfl, rfl, trivial⟩, H⟩
       ·rintro a wd1588 ⟨x1586, rfl, hf, H⟩
        try dsimp only at hB1540
        refine CW.at hf ?_
        refine C_cond rfl (fun hb => ?_) (fun hb => ?_)
        ·replace hB1540 := itT hb hB1540
         refine C_seq <| R_nd <| nq (Q_assign rfl) rfl rfl <| WL_nil <| x_then <| C_ret <| x_then_ret <| x_block_ret <| x_then_ret <| x_then_ret <| x_block_ret <| x_then_ret <| x_then_ret ?_
         replace H := H.drop 0 rfl
         dsimp only [List.eraseIdx] at H
         obtain rfl := Option.some.inj hB1540
         obtain rfl := hO1541 _ rfl
         obtain rfl := Option.some.inj (show some _ = some _ from hF)
         exact fn_ret (l := [.tmp 2]) (vs := [.bool false]) rfl rfl rfl ⟨false, rfl, rfl, H⟩
        ·replace hB1540 := itF hb hB1540
         refine C_skip <| x_then <| C_seq <| R_nd <| nq (v := .pointer (some ⟨b1583, 0, none⟩)) (Q_fld Tryz.underlying126 rfl ty23 (by decide) rfl rfl) rfl rfl <| nq (v := v1555) (Q_ldB (k := 0) (cs := [v1555]) H.ok rfl ty23 rfl rfl rfl (fun _ => rfl) rfl) rfl rfl <| nq (Q_len Tryz.underlying23 rfl r1557) rfl rfl <| nq (Q_move rfl) rfl rfl <| WL_nil <| x_then ?_
         obtain ⟨o1626, ho1626, hB1540⟩ := bnd hB1540
         refine C_cutQ (fun a w' => .inl () = o1626 ∧ Fr 99 a [(3, .int .i64 (x2.length : Int)), (47, v1), (48, .int .i64 (x2.length : Int)), (49, .int .i64 x1415)] ∧ Hp C w' ρ (hs)) ?_ ?_
         ·refine C_block ?_
          replace H := H.drop 0 rfl
          dsimp only [List.eraseIdx] at H
          refine C_iter (f := fun s => F_dofferref15_Right_l2 N x2 x1543 s) ho1626 (fun s a w' => ∃ (x1638 : Int), x1638 = s ∧ Fr 99 a [(3, .int .i64 (x2.length : Int)), (47, v1), (48, .int .i64 (x2.length : Int)), (49, .int .i64 x1415), (84, v1555), (85, .int .i64 (x1543.1.length : Int)), (86, .int .i64 x1638)] ∧ Hp C w' ρ (hs)) ?_ ?_
          ·exact fun a hf => ⟨0, rfl, hf.sub ⟨rfl, rfl, rfl, rfl, rfl, rfl, rfl, trivial⟩, H⟩
          ·rintro s o1650 a wd1653 ⟨x1638, rfl, hf, H⟩ hB1651 hO1652
           replace hB1651 : F_dofferref15_Right_l2 N x2 x1543 x1638 = some o1650 := hB1651
           unfold F_dofferref15_Right_l2 at hB1651
           refine CW.at hf <| C_seq <| R_nd <| nq (Q_lss rfl rfl) rfl rfl <| WL_nil <| x_then <| C_seq ?_
           refine C_cond rfl (fun hb => ?_) (fun hb => ?_)
           ·replace hB1651 := itT hb hB1651
            refine C_skip <| x_then <| C_seq <| C_block <| C_seq <| R_nd ?_
            obtain ⟨x1654, hx1654, hB1651⟩ := bnd hB1651
            obtain ⟨b1655, o1656, c1657, hc1658, ha1659, hi1660⟩ := idxR r1557 hx1654
            refine nq (Q_idx hi1660 Tryz.underlying23 ty3 rfl rfl) rfl rfl <| nq (v := .int .i64 x1654) (Q_ld (show cellsAt _ _ _ [.int .i64 x1654] from (show _ = [_] from hc1658) ▸ (ha1659.up H.ok.view)) ty3 rfl (fun _ => rfl) rfl rfl) rfl rfl <| nq (Q_assign rfl) rfl rfl <| WL_nil <| x_then ?_
            obtain ⟨o1662, ho1662, hB1651⟩ := bnd hB1651
            refine C_cut (fun a w' => ∃ (x1661 : Bool), x1661 = o1662 ∧ Fr 99 a [(3, .int .i64 (x2.length : Int)), (47, v1), (48, .int .i64 (x2.length : Int)), (49, .int .i64 x1415), (84, v1555), (85, .int .i64 (x1543.1.length : Int)), (86, .int .i64 x1638), (96, .bool x1661)] ∧ Hp C w' ρ (hs)) ?_ ?_
            ·refine R_nd <| nq (Q_move rfl) rfl rfl <| nq (Q_lss rfl rfl) rfl rfl <| nq (Q_move rfl) rfl rfl ?_
             rcases Bool.eq_false_or_eq_true (decide (x1654 < 0)) with hb | hb
             ·rw [hb]
              replace ho1662 := itT hb ho1662
              refine gs rfl rfl rfl rfl <| gs rfl rfl rfl rfl <| gs rfl rfl rfl rfl <| nq (Q_pickT rfl rfl) rfl rfl <| WL_nil ?_
              obtain rfl := Option.some.inj ho1662
              refine x_A fun a hf => ⟨true, rfl, hf.sub ⟨rfl, rfl, rfl, rfl, rfl, rfl, rfl, rfl, trivial⟩, H⟩
             ·rw [hb]
              replace ho1662 := itF hb ho1662
              refine gq (Q_move rfl) rfl rfl rfl <| gq (Q_move rfl) rfl rfl rfl <| gq (Q_geq rfl rfl) rfl rfl rfl <| nq (Q_pickF rfl rfl) rfl rfl <| WL_nil ?_
              obtain rfl := Option.some.inj ho1662
              refine x_A fun a hf => ⟨decide (x1654 ≥ (x2.length : Int)), rfl, hf.sub ⟨rfl, rfl, rfl, rfl, rfl, rfl, rfl, rfl, trivial⟩, H⟩
            ·rintro a wd1663 ⟨x1661, rfl, hf, H⟩
             try dsimp only at hB1651
             refine CW.at hf ?_
             refine C_cond rfl (fun hb => ?_) (fun hb => ?_)
             ·replace hB1651 := itT hb hB1651
              refine C_seq <| R_nd <| nq (Q_assign rfl) rfl rfl <| WL_nil <| x_then <| C_ret <| x_block_ret <| x_then_ret <| x_then_ret <| x_block_ret <| x_then_ret <| x_block_ret <| x_then_ret <| x_then_ret ?_
              refine x_block_ret <| x_then_ret <| x_then_ret ?_
              obtain rfl := Option.some.inj hB1651
              obtain rfl := hO1652 _ rfl
              obtain rfl := Option.some.inj (show some _ = some _ from hB1540)
              obtain rfl := hO1541 _ rfl
              obtain rfl := Option.some.inj (show some _ = some _ from hF)
              exact fn_ret (l := [.tmp 2]) (vs := [.bool false]) rfl rfl rfl ⟨false, rfl, rfl, H⟩
             ·replace hB1651 := itF hb hB1651
              refine C_skip <| x_block <| x_then <| R_nd <| nq (Q_add rfl rfl) rfl rfl <| nq (Q_move rfl) rfl rfl <| WL_nil ?_
              obtain rfl := Option.some.inj hB1651
              refine x_A fun a hf => ⟨_, rfl, w64 (x1638 + 1), rfl, hf.sub ⟨rfl, rfl, rfl, rfl, rfl, rfl, rfl, trivial⟩, H⟩
           ·replace hB1651 := itF hb hB1651
            refine C_exit <| x_then_exit <| x_then_exit <| x_block_exit ?_
            obtain rfl := Option.some.inj hB1651
            obtain rfl := hO1652 _ rfl
            refine x_A fun a hf => ⟨rfl, hf.sub ⟨rfl, rfl, rfl, rfl, trivial⟩, H⟩
         ·rintro a wd1664 ⟨rfl, hf, H⟩
          try dsimp only at hB1540
          refine XX.at hf <| x_block <| x_then <| R_nd <| nq (Q_add rfl rfl) rfl rfl <| nq (Q_move rfl) rfl rfl <| WL_nil ?_
          obtain rfl := Option.some.inj hB1540
          refine x_A fun a hf => ⟨_, rfl, w64 (x1415 + 1), rfl, hf.sub ⟨rfl, rfl, rfl, rfl, trivial⟩, H⟩
      ·replace hB1540 := itF hb hB1540
       refine C_exit <| x_then_exit <| x_then_exit <| x_block_exit ?_
       obtain rfl := Option.some.inj hB1540
       obtain rfl := hO1541 _ rfl
       refine x_A fun a hf => ⟨rfl, hf.sub trivial, H⟩
    ·rintro a wd1665 ⟨rfl, hf, H⟩
     try dsimp only at hF
     refine XX.at hf <| x_then <| C_seq <| R_nd <| nq (Q_assign rfl) rfl rfl <| WL_nil <| x_then <| C_ret ?_
     obtain rfl := Option.some.inj hF
     exact fn_ret (l := [.tmp 2]) (vs := [.bool true]) rfl rfl rfl ⟨true, rfl, rfl, H⟩
theorem c_28 {N : Nat} {C : Cx} {w : World} {ρ : View} {hs : List Hl} {gV : Nat → Value} {x1 : Int} (H : Hp C w ρ (hs)) (gle : GErrs ρ 394 errIds gV) {r : (Unit ⊕ (List Int))} (hF : F_marks_New N x1 = some r) :
  Calls Tryz.prog 28 [.int .i64 x1].toArray w (Rets (fun v w' => (.inl () = r ∧ .tuple [.pointer none, errV errIds gV 1].toArray = v ∧ Hp C w' ρ (hs)) ∨ (∃ (b11 : Nat) (v12 : Value) (c13 : (List Value)) (x14 : (List Int)), .inr x14 = r ∧ .tuple [.pointer (some ⟨b11, 0, none⟩), errV errIds gV 0].toArray = v ∧ rdL (eI .u64) ρ x14 c13 ∧ Hp C w' ρ (Box b11 [v12, .int .i64 x1] :: Arr v12 1 c13 :: hs)))) := by
 unfold F_marks_New at hF
 have h0 : Tryz.f28.body = some _ := rfl
 refine fn_calls' Tryz.func28 h0 (n := 19) rfl (by simp) <| C_seq <| R_nd <| nq (Q_assign rfl) rfl rfl <| nq (Q_assign rfl) rfl rfl <| WL_nil <| x_then <| C_seq ?_
 obtain ⟨o17, ho17, hF⟩ := bnd hF
 refine C_cut (fun a w' => ∃ (x16 : Bool), x16 = o17 ∧ Fr 19 a [(0, .int .i64 x1), (9, .bool x16)] ∧ Hp C w' ρ (hs)) ?_ ?_
 ·refine R_nd <| nq (Q_move rfl) rfl rfl <| nq (Q_lss rfl rfl) rfl rfl <| nq (Q_move rfl) rfl rfl ?_
  rcases Bool.eq_false_or_eq_true (decide (x1 < 0)) with hb | hb
  ·rw [hb]
   replace ho17 := itT hb ho17
   refine gs rfl rfl rfl rfl <| gs rfl rfl rfl rfl <| nq (Q_pickT rfl rfl) rfl rfl <| WL_nil ?_
   obtain rfl := Option.some.inj ho17
   refine x_A fun a hf => ⟨true, rfl, hf.sub ⟨rfl, rfl, trivial⟩, H⟩
  ·rw [hb]
   replace ho17 := itF hb ho17
   refine gq (Q_move rfl) rfl rfl rfl <| gq (Q_gtr rfl rfl) rfl rfl rfl <| nq (Q_pickF rfl rfl) rfl rfl <| WL_nil ?_
   obtain rfl := Option.some.inj ho17
   refine x_A fun a hf => ⟨decide (x1 > 65536), rfl, hf.sub ⟨rfl, rfl, trivial⟩, H⟩
 ·rintro a wd18 ⟨x16, rfl, hf, H⟩
  try dsimp only at hF
  refine CW.at hf ?_
  refine C_cond rfl (fun hb => ?_) (fun hb => ?_)
  ·replace hF := itT hb hF
   refine C_seq <| R_dr (.take 0 (.take 1 (.take 2 .done))) (fun w' => Ok w' ρ []) (by kernel_rfl) (by kernel_rfl) (by kernel_rfl) (H.drew.okS (by simp)) ?_
   replace H := H.drew
   refine dq (v := errV errIds gV 1) rfl (fun _ hw => Q_ldV hw gle (by decide) ty53) rfl rfl <| dq rfl (fun _ _ => Q_assign rfl) rfl rfl <| dq rfl (fun _ _ => Q_assign rfl) rfl rfl <| DL_nil <| x_then <| C_ret <| x_then_ret ?_
   obtain rfl := Option.some.inj hF
   exact fn_ret (l := [.tmp 2, .tmp 3]) (vs := [.pointer none, errV errIds gV 1]) rfl rfl rfl (.inl ⟨rfl, rfl, H⟩)
  ·replace hF := itF hb hF
   refine C_skip <| x_then <| C_seq <| R_nd <| nq (Q_move rfl) rfl rfl <| nq (Q_add rfl rfl) rfl rfl <| nq (Q_sub rfl rfl) rfl rfl <| nq (Q_quo rfl rfl (by decide)) rfl rfl ?_
   obtain ⟨x19, hx19, hF⟩ := bnd hF
   obtain ⟨hm21a, hm21b, hm21c⟩ := mk_some hx19
   refine ne (E_make H Tryz.underlying137 ty37 (zs := [.int .u64 0]) rfl rfl (by decide) (by decide) rfl hm21a hm21b) rfl rfl ?_
   rintro _ wd22 ⟨b20, rfl, H⟩
   refine nq (Q_move rfl) rfl rfl <| nq (v := .agg #[(.slice (some ⟨b20, 0, none⟩) (w64 ((w64 ((w64 (x1 + 64)) - 1)).tdiv 64)).toNat (w64 ((w64 ((w64 (x1 + 64)) - 1)).tdiv 64)).toNat), .int .i64 x1]) (Q_buildS st139.choose_spec (ps := [(0, [(.slice (some ⟨b20, 0, none⟩) (w64 ((w64 ((w64 (x1 + 64)) - 1)).tdiv 64)).toNat (w64 ((w64 ((w64 (x1 + 64)) - 1)).tdiv 64)).toNat)]), (1, [.int .i64 x1])]) rfl ⟨rfl, (arr_cells (H.ok.get (k := 0) rfl)).1, by simp, ⟨rfl, rfl, by simp, trivial⟩⟩ rfl) rfl rfl <| ne (E_box H (vs := [(.slice (some ⟨b20, 0, none⟩) (w64 ((w64 ((w64 (x1 + 64)) - 1)).tdiv 64)).toNat (w64 ((w64 ((w64 (x1 + 64)) - 1)).tdiv 64)).toNat), .int .i64 x1]) rfl rfl) rfl rfl ?_
   rintro _ wd24 ⟨b23, rfl, H⟩
   refine nq (Q_assign rfl) rfl rfl <| nq (Q_assign rfl) rfl rfl <| WL_nil <| x_then <| C_ret ?_
   replace H := H.f1
   replace H := H.f1
   obtain rfl := Option.some.inj hF
   exact fn_ret (l := [.tmp 2, .tmp 3]) (vs := [.pointer (some ⟨b23, 0, none⟩), errV errIds gV 0]) rfl rfl rfl (.inr ⟨b23, (.slice (some ⟨b20, 0, none⟩) (w64 ((w64 ((w64 (x1 + 64)) - 1)).tdiv 64)).toNat (w64 ((w64 ((w64 (x1 + 64)) - 1)).tdiv 64)).toNat), (repC (w64 ((w64 ((w64 (x1 + 64)) - 1)).tdiv 64)).toNat [.int .u64 0]), x19, rfl, rfl, (hm21c ▸ rdL_rep (e := (eI .u64)) (ρ := ρ) (rfl) _), H⟩)
theorem c_87 {N : Nat} {C : Cx} {w : World} {ρ : View} {hs : List Hl} {gV : Nat → Value} {b1 : Nat} {c2 : List Value} {v5 : Value} {x3 : (List Int)} {x6 : Int} (H : Hp C w ρ (Box b1 [v5, .int .i64 x6] :: Arr v5 1 c2 :: hs)) (_gle : GErrs ρ 394 errIds gV) (_r4 : rdL (eI .u64) ρ x3 c2) {r : Unit} (hF : F_marks_Marks_Size N x3 x6 = some r) :
  Calls Tryz.prog 87 [.pointer (some ⟨b1, 0, none⟩)].toArray w (Rets (fun v w' => (() = r ∧ .int .i64 x6 = v ∧ Hp C w' ρ (Box b1 [v5, .int .i64 x6] :: Arr v5 1 c2 :: hs)))) := by
 unfold F_marks_Marks_Size at hF
 have h0 : Tryz.f87.body = some _ := rfl
 refine fn_calls' Tryz.func87 h0 (n := 9) rfl (by simp) <| C_seq <| R_nd <| nq (Q_assign rfl) rfl rfl <| WL_nil <| x_then <| C_seq <| C_seq <| R_nd <| nq (Q_move rfl) rfl rfl <| nq (v := .bool false) (Q_eqlP (o := (some ⟨b1, 0, none⟩)) Tryz.underlying51 rfl) rfl rfl <| WL_nil <| x_then ?_
 refine C_cond rfl (fun h => nomatch h) (fun _ => ?_)
 refine C_skip <| x_then <| C_seq <| R_nd <| nq (Q_move rfl) rfl rfl <| nq (Q_nilP rfl) rfl rfl <| nq (v := .pointer (some ⟨b1, 1, none⟩)) (Q_fld Tryz.underlying139 rfl ty3 (by decide) rfl rfl) rfl rfl <| nq (v := .int .i64 x6) (Q_ldB (k := 0) (cs := [.int .i64 x6]) H.ok rfl ty3 rfl rfl rfl (fun _ => rfl) rfl) rfl rfl <| nq (Q_assign rfl) rfl rfl <| WL_nil <| x_then <| C_ret ?_
 replace H := H.f1
 replace H := H.f1
 obtain rfl := Option.some.inj hF
 exact fn_ret (l := [.tmp 2]) (vs := [.int .i64 x6]) rfl rfl rfl ⟨rfl, rfl, H⟩
theorem c_81 {N : Nat} {C : Cx} {w : World} {ρ : View} {hs : List Hl} {gV : Nat → Value} {b1 : Nat} {c2 : List Value} {v5 : Value} {x3 : (List Int)} {x6 : Int} {x7 : Int} (H : Hp C w ρ (Box b1 [v5, .int .i64 x6] :: Arr v5 1 c2 :: hs)) (gle : GErrs ρ 394 errIds gV) (r4 : rdL (eI .u64) ρ x3 c2) {r : (Int × Int × Bool)} (hF : F_marks_Marks_at N x3 x6 x7 = some r) :
  Calls Tryz.prog 81 [.pointer (some ⟨b1, 0, none⟩), .int .i64 x7].toArray w (Rets (fun v w' => (∃ (x21 : Int) (x22 : Int) (x23 : Bool), (x21, x22, x23) = r ∧ .tuple [.int .i64 x21, .int .u64 x22, .bool x23].toArray = v ∧ Hp C w' ρ (Box b1 [v5, .int .i64 x6] :: Arr v5 1 c2 :: hs)))) := by
 unfold F_marks_Marks_at at hF
 have h0 : Tryz.f81.body = some _ := rfl
 refine fn_calls' Tryz.func81 h0 (n := 21) rfl (by simp) <| C_seq <| R_nd <| nq (Q_assign rfl) rfl rfl <| nq (Q_assign rfl) rfl rfl <| nq (Q_assign rfl) rfl rfl <| WL_nil <| x_then ?_
 obtain ⟨o31, ho31, hF⟩ := bnd hF
 refine C_cut (fun a w' => ∃ (x28 : Int) (x29 : Int) (x30 : Bool), (x28, x29, x30) = o31 ∧ Fr 21 a [(4, .int .i64 x28), (5, .int .u64 x29), (6, .bool x30)] ∧ Hp C w' ρ (Box b1 [v5, .int .i64 x6] :: Arr v5 1 c2 :: hs)) ?_ ?_
 ·refine R_nd <| nq (Q_move rfl) rfl rfl <| nq (Q_quo rfl rfl (by decide)) rfl rfl <| nq (Q_move rfl) rfl rfl <| nq (Q_cvI ⟨_, Tryz.underlying3⟩ Tryz.underlying143 rfl) rfl rfl <| nq (Q_rem rfl rfl (by decide)) rfl rfl ?_
  obtain ⟨x32, hx32, ho31⟩ := bnd ho31
  refine nq (Q_shl rfl rfl (nn_some hx32)) rfl rfl <| nq (Q_move rfl) rfl rfl <| nq (Q_geq rfl rfl) rfl rfl <| nq (Q_move rfl) rfl rfl ?_
  rcases Bool.eq_false_or_eq_true (decide (x7 ≥ 0)) with hb | hb
  ·rw [hb]
   replace ho31 := itT hb ho31
   refine gq (Q_move rfl) rfl rfl rfl <| gq (Q_move rfl) rfl rfl rfl ?_
   replace H := H.f1
   replace H := H.f1
   obtain ⟨q33, hq33, ho31⟩ := bnd ho31
   refine ge (E_call fn87 rfl (c_87 H gle  r4 hq33)) rfl rfl rfl ?_
   rintro _ wd35 ⟨rfl, rfl, H⟩
   try dsimp only at ho31
   refine gq (Q_lss rfl rfl) rfl rfl rfl <| nq (Q_pickT rfl rfl) rfl rfl <| nq (Q_assign rfl) rfl rfl <| nq (Q_assign rfl) rfl rfl <| nq (Q_assign rfl) rfl rfl <| WL_nil ?_
   replace H := H.f1
   replace H := H.f1
   obtain rfl := Option.some.inj ho31
   refine x_A fun a hf => ⟨w64 (x7.tdiv 64), shlI .u64 1 ((IntKind.wrap .u64 x7).tmod 64), decide (x7 < x6), rfl, hf.sub ⟨rfl, rfl, rfl, trivial⟩, H⟩
  ·rw [hb]
   replace ho31 := itF hb ho31
   refine gs rfl rfl rfl rfl <| gs rfl rfl rfl rfl <| gs rfl rfl rfl rfl <| gs rfl rfl rfl rfl <| nq (Q_pickF rfl rfl) rfl rfl <| nq (Q_assign rfl) rfl rfl <| nq (Q_assign rfl) rfl rfl <| nq (Q_assign rfl) rfl rfl <| WL_nil ?_
   replace H := H.f1
   replace H := H.f1
   obtain rfl := Option.some.inj ho31
   refine x_A fun a hf => ⟨w64 (x7.tdiv 64), shlI .u64 1 ((IntKind.wrap .u64 x7).tmod 64), false, rfl, hf.sub ⟨rfl, rfl, rfl, trivial⟩, H⟩
 ·rintro a wd36 ⟨x28, x29, x30, rfl, hf, H⟩
  try dsimp only at hF
  refine CW.at hf <| C_ret ?_
  replace H := H.f1
  replace H := H.f1
  obtain rfl := Option.some.inj hF
  exact fn_ret (l := [.tmp 4, .tmp 5, .tmp 6]) (vs := [.int .i64 x28, .int .u64 x29, .bool x30]) rfl rfl rfl ⟨x28, x29, x30, rfl, rfl, H⟩
theorem c_29 {N : Nat} {C : Cx} {w : World} {ρ : View} {hs : List Hl} {gV : Nat → Value} {b1 : Nat} {c2 : List Value} {v5 : Value} {x3 : (List Int)} {x6 : Int} {x7 : Int} (H : Hp C w ρ (Box b1 [v5, .int .i64 x6] :: Arr v5 1 c2 :: hs)) (gle : GErrs ρ 394 errIds gV) (r4 : rdL (eI .u64) ρ x3 c2) {r : ((List Int) × Bool)} (hF : F_marks_Marks_Put N x3 x6 x7 = some r) :
  Calls Tryz.prog 29 [.pointer (some ⟨b1, 0, none⟩), .int .i64 x7].toArray w (Rets (fun v w' => (∃ (c49 : (List Value)) (x50 : (List Int)) (x52 : Bool), (x50, x52) = r ∧ .bool x52 = v ∧ rdL (eI .u64) ρ x50 c49 ∧ Hp C w' ρ (Box b1 [v5, .int .i64 x6] :: Arr v5 1 c49 :: hs)))) := by
 unfold F_marks_Marks_Put at hF
 have h0 : Tryz.f29.body = some _ := rfl
 refine fn_calls' Tryz.func29 h0 (n := 39) rfl (by simp) <| C_seq <| R_nd <| nq (Q_assign rfl) rfl rfl <| WL_nil <| x_then <| C_seq <| R_nd <| nq (Q_move rfl) rfl rfl <| nq (Q_move rfl) rfl rfl ?_
 replace H := H.f1
 replace H := H.f1
 obtain ⟨q53, hq53, hF⟩ := bnd hF
 refine ne (E_call fn81 rfl (c_81 H gle  r4 hq53)) rfl rfl ?_
 rintro _ wd58 ⟨x55, x56, x57, rfl, rfl, H⟩
 try dsimp only at hF
 refine nq (Q_move rfl) rfl rfl <| nq (Q_extract rfl rfl) rfl rfl <| nq (Q_extract rfl rfl) rfl rfl <| nq (Q_extract rfl rfl) rfl rfl <| nq (Q_assign rfl) rfl rfl <| nq (Q_assign rfl) rfl rfl <| nq (Q_assign rfl) rfl rfl <| WL_nil <| x_then <| C_seq ?_
 obtain ⟨o67, ho67, hF⟩ := bnd hF
 refine C_cut (fun a w' => ∃ (x66 : Bool), x66 = o67 ∧ Fr 39 a [(0, .pointer (some ⟨b1, 0, none⟩)), (5, .int .i64 x55), (6, .int .u64 x56), (28, .bool x66)] ∧ Hp C w' ρ (Box b1 [v5, .int .i64 x6] :: Arr v5 1 c2 :: hs)) ?_ ?_
 ·refine R_nd <| nq (Q_move rfl) rfl rfl <| nq (Q_not rfl) rfl rfl <| nq (Q_move rfl) rfl rfl ?_
  rcases Bool.eq_false_or_eq_true (!x57) with hb | hb
  ·rw [hb]
   replace ho67 := itT hb ho67
   refine gs rfl rfl rfl rfl <| gs rfl rfl rfl rfl <| gs rfl rfl rfl rfl <| gs rfl rfl rfl rfl <| gs rfl rfl rfl rfl <| gs rfl rfl rfl rfl <| gs rfl rfl rfl rfl <| gs rfl rfl rfl rfl <| gs rfl rfl rfl rfl <| gs rfl rfl rfl rfl <| nq (Q_pickT rfl rfl) rfl rfl <| WL_nil ?_
   replace H := H.f1
   replace H := H.f1
   obtain rfl := Option.some.inj ho67
   refine x_A fun a hf => ⟨true, rfl, hf.sub ⟨rfl, rfl, rfl, rfl, trivial⟩, H⟩
  ·rw [hb]
   replace ho67 := itF hb ho67
   refine gq (Q_move rfl) rfl rfl rfl <| gq (Q_nilP rfl) rfl rfl rfl <| gq (v := .pointer (some ⟨b1, 0, none⟩)) (Q_fld Tryz.underlying139 rfl ty137 (by decide) rfl rfl) rfl rfl rfl <| gq (v := v5) (Q_ldB (k := 0) (cs := [v5]) H.ok rfl ty137 rfl rfl rfl (fun _ => rfl) rfl) rfl rfl rfl <| gq (Q_move rfl) rfl rfl rfl ?_
   obtain ⟨x68, hx68, ho67⟩ := bnd ho67
   obtain ⟨b69, o70, hi74, hc72, ha73⟩ := arr_at (hs := [Arr v5 1 c2]) (k := 0) (by decide) (H.okS (by simp)) rfl r4 hx68
   refine gq (Q_idx hi74 Tryz.underlying137 ty37 rfl rfl) rfl rfl rfl <| gq (v := .int .u64 x68) (Q_ld (show cellsAt _ _ _ [.int .u64 x68] from (show _ = [_] from hc72) ▸ (ha73 _ (Ok.subS (by simp) H.ok))) ty37 rfl (fun _ => rfl) rfl rfl) rfl rfl rfl <| gq (Q_move rfl) rfl rfl rfl <| gq (Q_and rfl rfl) rfl rfl rfl <| gq (Q_neq rfl rfl) rfl rfl rfl <| nq (Q_pickF rfl rfl) rfl rfl <| WL_nil ?_
   replace H := H.f1
   replace H := H.f1
   obtain rfl := Option.some.inj ho67
   refine x_A fun a hf => ⟨(iand .u64 x68 x56) != 0, rfl, hf.sub ⟨rfl, rfl, rfl, rfl, trivial⟩, H⟩
 ·rintro a wd75 ⟨x66, rfl, hf, H⟩
  try dsimp only at hF
  refine CW.at hf ?_
  refine C_cond rfl (fun hb => ?_) (fun hb => ?_)
  ·replace hF := itT hb hF
   refine C_seq <| R_nd <| nq (Q_assign rfl) rfl rfl <| WL_nil <| x_then <| C_ret <| x_then_ret ?_
   replace H := H.f1
   replace H := H.f1
   obtain rfl := Option.some.inj hF
   exact fn_ret (l := [.tmp 4]) (vs := [.bool false]) rfl rfl rfl ⟨c2, x3, false, rfl, rfl, r4, H⟩
  ·replace hF := itF hb hF
   refine C_skip <| x_then <| C_seq <| R_nd <| nq (Q_move rfl) rfl rfl <| nq (Q_nilP rfl) rfl rfl <| nq (v := .pointer (some ⟨b1, 0, none⟩)) (Q_fld Tryz.underlying139 rfl ty137 (by decide) rfl rfl) rfl rfl <| nq (v := v5) (Q_ldB (k := 0) (cs := [v5]) H.ok rfl ty137 rfl rfl rfl (fun _ => rfl) rfl) rfl rfl <| nq (Q_move rfl) rfl rfl ?_
   obtain ⟨x76, hx76, hF⟩ := bnd hF
   obtain ⟨b77, o78, hi82, hc80, ha81⟩ := arr_at (hs := [Arr v5 1 c2]) (k := 0) (by decide) (H.okS (by simp)) rfl r4 hx76
   refine nq (Q_idx hi82 Tryz.underlying137 ty37 rfl rfl) rfl rfl <| nq (v := .int .u64 x76) (Q_ld (show cellsAt _ _ _ [.int .u64 x76] from (show _ = [_] from hc80) ▸ (ha81 _ (Ok.subS (by simp) H.ok))) ty37 rfl (fun _ => rfl) rfl rfl) rfl rfl <| nq (Q_move rfl) rfl rfl <| nq (Q_or rfl rfl) rfl rfl ?_
   obtain ⟨x83, hx83, hF⟩ := bnd hF
   obtain ⟨b84, o85, hi89, hc87, ha88⟩ := arr_at (hs := [Arr v5 1 c2]) (k := 0) (by decide) (H.okS (by simp)) rfl r4 hx83
   refine nq (Q_idx hi89 Tryz.underlying137 ty37 rfl rfl) rfl rfl ?_
   obtain ⟨x90, hx90, hF⟩ := bnd hF
   obtain ⟨hs91a, hs91b, hs91c⟩ := setI_some hx90
   have r92 : rdL (eI .u64) ρ x90 (setC c2 (x55.toNat * 1 + 0) [.int .u64 (ior .u64 x76 x56)]) := hs91c ▸ rdL.set r4 hs91b (rfl)
   refine ne (E_stA (k := 1) (j := 0) (c := [.int .u64 (ior .u64 x76 x56)]) H rfl ty37 hi89 rfl rfl rfl rfl (one_cons rfl one_nil) (by decide)) rfl rfl ?_
   rintro _ wd93 H
   dsimp only [List.set] at H
   refine WL_nil <| x_then <| C_seq <| R_nd <| nq (Q_assign rfl) rfl rfl <| WL_nil <| x_then <| C_ret ?_
   replace H := H.f1
   replace H := H.f1
   obtain rfl := Option.some.inj hF
   exact fn_ret (l := [.tmp 4]) (vs := [.bool true]) rfl rfl rfl ⟨(setC c2 (x55.toNat * 1 + 0) [.int .u64 (ior .u64 x76 x56)]), x90, true, rfl, rfl, r92, H⟩
theorem c_75 {N : Nat} {C : Cx} {w : World} {ρ : View} {hs : List Hl} {gV : Nat → Value} {x1 : Int} {x2 : Int} {x3 : Int} {x4 : Int} (H : Hp C w ρ (hs)) (_gle : GErrs ρ 394 errIds gV) {r : Unit} (hF : F_sets_Set_Empty N x1 x2 x3 x4 = some r) :
  Calls Tryz.prog 75 [.agg #[.int .u64 x1, .int .u64 x2, .int .u64 x3, .int .u64 x4]].toArray w (Rets (fun v w' => (() = r ∧ .bool (([x1, x2, x3, x4] : List Int) == ([0, 0, 0, 0] : List Int)) = v ∧ Hp C w' ρ (hs)))) := by
 unfold F_sets_Set_Empty at hF
 have h0 : Tryz.f75.body = some _ := rfl
 refine fn_calls' Tryz.func75 h0 (n := 6) rfl (by simp) <| C_seq <| R_nd <| ne (E_box H (vs := [.int .u64 x1, .int .u64 x2, .int .u64 x3, .int .u64 x4]) rfl rfl) rfl rfl ?_
 rintro _ wd8 ⟨b7, rfl, H⟩
 refine nq (Q_assign rfl) rfl rfl <| WL_nil <| x_then <| C_seq <| R_nd <| nq (v := .agg #[.int .u64 x1, .int .u64 x2, .int .u64 x3, .int .u64 x4]) (Q_ldB (k := 0) (cs := [.int .u64 x1, .int .u64 x2, .int .u64 x3, .int .u64 x4]) H.ok rfl ty39 rfl rfl rfl (fun h => nomatch h) rfl) rfl rfl <| nq (v := .agg #[.int .u64 0, .int .u64 0, .int .u64 0, .int .u64 0]) (Q_build0 (zs := [.int .u64 0, .int .u64 0, .int .u64 0, .int .u64 0]) ty39 Tryz.underlying39 ty37 rfl) rfl rfl <| nq (v := .bool (([x1, x2, x3, x4] : List Int) == ([0, 0, 0, 0] : List Int))) (Q_eqlA (xs := ([x1, x2, x3, x4] : List Int)) (ys := ([0, 0, 0, 0] : List Int)) Tryz.underlying39 ty37 (by kernel_rfl) Tryz.underlying37 (rdL_ints .u64 ρ ([x1, x2, x3, x4] : List Int)) rfl (rdL_ints .u64 ρ ([0, 0, 0, 0] : List Int)) rfl rfl rfl) rfl rfl <| nq (Q_assign rfl) rfl rfl <| WL_nil <| x_then <| C_ret ?_
 replace H := H.drop 0 rfl
 dsimp only [List.eraseIdx] at H
 obtain rfl := Option.some.inj hF
 exact fn_ret (l := [.tmp 2]) (vs := [.bool (([x1, x2, x3, x4] : List Int) == ([0, 0, 0, 0] : List Int))]) rfl rfl rfl ⟨rfl, rfl, H⟩
theorem c_74 {N : Nat} {C : Cx} {w : World} {ρ : View} {hs : List Hl} {gV : Nat → Value} {b2 : Nat} {x1 : Int} {x3 : Int} (H : Hp C w ρ (Box b2 [.int .i64 x3] :: hs)) (_gle : GErrs ρ 394 errIds gV) {r : Bool} (hF : F_nfa_Right_1 N x1 x3 = some r) :
  Calls Tryz.prog 74 [.int .i64 x1, .pointer (some ⟨b2, 0, none⟩)].toArray w (Rets (fun v w' => (∃ (x7 : Bool), x7 = r ∧ .bool x7 = v ∧ Hp C w' ρ (Box b2 [.int .i64 x3] :: hs)))) := by
 unfold F_nfa_Right_1 at hF
 have h0 : Tryz.f74.body = some _ := rfl
 refine fn_calls' Tryz.func74 h0 (n := 11) rfl (by simp) <| C_seq <| R_nd <| nq (Q_assign rfl) rfl rfl <| WL_nil <| x_then ?_
 obtain ⟨o9, ho9, hF⟩ := bnd hF
 refine C_cut (fun a w' => ∃ (x8 : Bool), x8 = o9 ∧ Fr 11 a [(3, .bool x8)] ∧ Hp C w' ρ (Box b2 [.int .i64 x3] :: hs)) ?_ ?_
 ·refine R_nd <| nq (Q_move rfl) rfl rfl <| nq (Q_lss rfl rfl) rfl rfl <| nq (Q_move rfl) rfl rfl ?_
  rcases Bool.eq_false_or_eq_true (decide (x1 < 0)) with hb | hb
  ·rw [hb]
   replace ho9 := itT hb ho9
   refine gs rfl rfl rfl rfl <| gs rfl rfl rfl rfl <| gs rfl rfl rfl rfl <| nq (Q_pickT rfl rfl) rfl rfl <| nq (Q_assign rfl) rfl rfl <| WL_nil ?_
   obtain rfl := Option.some.inj ho9
   refine x_A fun a hf => ⟨true, rfl, hf.sub ⟨rfl, trivial⟩, H⟩
  ·rw [hb]
   replace ho9 := itF hb ho9
   refine gq (Q_move rfl) rfl rfl rfl <| gq (v := .int .i64 x3) (Q_ldB (k := 0) (cs := [.int .i64 x3]) H.ok rfl ty3 rfl rfl rfl (fun _ => rfl) rfl) rfl rfl rfl <| gq (Q_geq rfl rfl) rfl rfl rfl <| nq (Q_pickF rfl rfl) rfl rfl <| nq (Q_assign rfl) rfl rfl <| WL_nil ?_
   obtain rfl := Option.some.inj ho9
   refine x_A fun a hf => ⟨decide (x1 ≥ x3), rfl, hf.sub ⟨rfl, trivial⟩, H⟩
 ·rintro a wd10 ⟨x8, rfl, hf, H⟩
  try dsimp only at hF
  refine CW.at hf <| C_ret ?_
  obtain rfl := Option.some.inj hF
  exact fn_ret (l := [.tmp 3]) (vs := [.bool x8]) rfl rfl rfl ⟨x8, rfl, rfl, H⟩
theorem c_128_2 {N : Nat} {C : Cx} {w : World} {ρ : View} {hs : List Hl} {gV : Nat → Value} {v1 : Value} {b4 : Nat} {x2 : (List Int)} {x5 : Int} (H : Hp C w ρ (Box b4 [.int .i64 x5] :: hs)) (gle : GErrs ρ 394 errIds gV) (r3 : RdSl ρ (eI .i64) v1 x2) {r : Int} (hF : F_slices_IndexFunc_int_int_2 N x2 x5 = some r) :
  Calls Tryz.prog 128 [v1, .func (.func 74) #[] [.pointer (some ⟨b4, 0, none⟩)].toArray].toArray w (Rets (fun v w' => (∃ (x88 : Int), x88 = r ∧ .int .i64 x88 = v ∧ Hp C w' ρ (Box b4 [.int .i64 x5] :: hs)))) := by
 unfold F_slices_IndexFunc_int_int_2 at hF
 have h0 : Tryz.f128.body = some _ := rfl
 refine fn_calls' Tryz.func128 h0 (n := 19) rfl (by simp) <| C_seq <| R_nd <| nq (Q_assign rfl) rfl rfl <| WL_nil <| x_then <| C_seq <| C_seq <| R_nd <| nq (Q_move rfl) rfl rfl <| nq (Q_len Tryz.underlying23 rfl r3) rfl rfl <| nq (Q_move rfl) rfl rfl <| WL_nil <| x_then ?_
 obtain ⟨o129, ho129, hF⟩ := bnd hF
 refine C_cutQ (fun a w' => .inl () = o129 ∧ Fr 19 a [] ∧ Hp C w' ρ (Box b4 [.int .i64 x5] :: hs)) ?_ ?_
 ·refine C_block ?_
  refine C_iter (f := fun s => F_slices_IndexFunc_int_int_2_l0 N x2 x5 s) ho129 (fun s a w' => ∃ (x142 : Int), x142 = s ∧ Fr 19 a [(0, v1), (1, .func (.func 74) #[] [.pointer (some ⟨b4, 0, none⟩)].toArray), (7, .int .i64 (x2.length : Int)), (8, .int .i64 x142)] ∧ Hp C w' ρ (Box b4 [.int .i64 x5] :: hs)) ?_ ?_
  ·exact fun a hf => ⟨0, rfl, hf.sub ⟨rfl, rfl, rfl, rfl, trivial⟩, H⟩
  ·rintro s o155 a wd158 ⟨x142, rfl, hf, H⟩ hB156 hO157
   replace hB156 : F_slices_IndexFunc_int_int_2_l0 N x2 x5 x142 = some o155 := hB156
   unfold F_slices_IndexFunc_int_int_2_l0 at hB156
   refine CW.at hf <| C_seq <| R_nd <| nq (Q_lss rfl rfl) rfl rfl <| WL_nil <| x_then <| C_seq ?_
   refine C_cond rfl (fun hb => ?_) (fun hb => ?_)
   ·replace hB156 := itT hb hB156
    refine C_skip <| x_then <| C_seq <| C_block <| C_seq <| R_nd <| nq (Q_move rfl) rfl rfl <| nq (Q_assign rfl) rfl rfl <| WL_nil <| x_then <| C_seq <| R_nd <| nq (Q_move rfl) rfl rfl <| nq (Q_move rfl) rfl rfl ?_
    refine nq (Q_move rfl) rfl rfl ?_
    obtain ⟨x159, hx159, hB156⟩ := bnd hB156
    obtain ⟨b160, o161, c162, hc163, ha164, hi165⟩ := idxR r3 hx159
    refine nq (Q_idx hi165 Tryz.underlying23 ty3 rfl rfl) rfl rfl <| nq (v := .int .i64 x159) (Q_ld (show cellsAt _ _ _ [.int .i64 x159] from (show _ = [_] from hc163) ▸ (ha164.up H.ok.view)) ty3 rfl (fun _ => rfl) rfl rfl) rfl rfl ?_
    obtain ⟨q166, hq166, hB156⟩ := bnd hB156
    refine ne (E_callV fn74 rfl rfl (c_74 H gle   hq166)) rfl rfl ?_
    rintro _ wd169 ⟨x168, rfl, rfl, H⟩
    try dsimp only at hB156
    refine WL_nil <| x_then ?_
    refine C_cond rfl (fun hb => ?_) (fun hb => ?_)
    ·replace hB156 := itT hb hB156
     refine C_seq <| R_nd <| nq (Q_move rfl) rfl rfl <| nq (Q_assign rfl) rfl rfl <| WL_nil <| x_then <| C_ret <| x_block_ret <| x_then_ret <| x_then_ret <| x_block_ret <| x_then_ret <| x_then_ret ?_
     obtain rfl := Option.some.inj hB156
     obtain rfl := hO157 _ rfl
     obtain rfl := Option.some.inj (show some _ = some _ from hF)
     exact fn_ret (l := [.tmp 4]) (vs := [.int .i64 x142]) rfl rfl rfl ⟨x142, rfl, rfl, H⟩
    ·replace hB156 := itF hb hB156
     refine C_skip <| x_block <| x_then <| R_nd <| nq (Q_add rfl rfl) rfl rfl <| nq (Q_move rfl) rfl rfl <| WL_nil ?_
     obtain rfl := Option.some.inj hB156
     refine x_A fun a hf => ⟨_, rfl, w64 (x142 + 1), rfl, hf.sub ⟨rfl, rfl, rfl, rfl, trivial⟩, H⟩
   ·replace hB156 := itF hb hB156
    refine C_exit <| x_then_exit <| x_then_exit <| x_block_exit ?_
    obtain rfl := Option.some.inj hB156
    obtain rfl := hO157 _ rfl
    refine x_A fun a hf => ⟨rfl, hf.sub trivial, H⟩
 ·rintro a wd170 ⟨rfl, hf, H⟩
  try dsimp only at hF
  refine XX.at hf <| x_then <| C_seq <| R_nd <| nq (Q_assign rfl) rfl rfl <| WL_nil <| x_then <| C_ret ?_
  obtain rfl := Option.some.inj hF
  exact fn_ret (l := [.tmp 4]) (vs := [.int .i64 (-1)]) rfl rfl rfl ⟨(-1), rfl, rfl, H⟩
theorem c_76_2 {N : Nat} {C : Cx} {w : World} {ρ : View} {hs : List Hl} {gV : Nat → Value} {v1 : Value} {b4 : Nat} {x2 : (List Int)} {x5 : Int} (H : Hp C w ρ (Box b4 [.int .i64 x5] :: hs)) (gle : GErrs ρ 394 errIds gV) (r3 : RdSl ρ (eI .i64) v1 x2) {r : Bool} (hF : F_slices_ContainsFunc_int_int_2 N x2 x5 = some r) :
  Calls Tryz.prog 76 [v1, .func (.func 74) #[] [.pointer (some ⟨b4, 0, none⟩)].toArray].toArray w (Rets (fun v w' => (∃ (x10 : Bool), x10 = r ∧ .bool x10 = v ∧ Hp C w' ρ (Box b4 [.int .i64 x5] :: hs)))) := by
 unfold F_slices_ContainsFunc_int_int_2 at hF
 have h0 : Tryz.f76.body = some _ := rfl
 refine fn_calls' Tryz.func76 h0 (n := 9) rfl (by simp) <| C_seq <| R_nd <| nq (Q_assign rfl) rfl rfl <| WL_nil <| x_then <| C_seq <| R_nd <| nq (Q_move rfl) rfl rfl <| nq (Q_move rfl) rfl rfl ?_
 obtain ⟨q11, hq11, hF⟩ := bnd hF
 refine ne (E_call fn128 rfl (c_128_2 H gle  r3 hq11)) rfl rfl ?_
 rintro _ wd14 ⟨x13, rfl, rfl, H⟩
 try dsimp only at hF
 refine nq (Q_geq rfl rfl) rfl rfl <| nq (Q_assign rfl) rfl rfl <| WL_nil <| x_then <| C_ret ?_
 obtain rfl := Option.some.inj hF
 exact fn_ret (l := [.tmp 4]) (vs := [.bool (decide (x13 ≥ 0))]) rfl rfl rfl ⟨decide (x13 ≥ 0), rfl, rfl, H⟩
theorem c_18 {N : Nat} {C : Cx} {w : World} {ρ : View} {hs : List Hl} {gV : Nat → Value} {v1 : Value} {v4 : Value} {x2 : (List ((List Int) × (Int × Int × Int × Int) × Int × Int))} {x5 : (List Int)} (H : Hp C w ρ (hs)) (gle : GErrs ρ 394 errIds gV) (r3 : RdSl ρ (eP (eL (eI .i64)) (eP (eP (eI .u64) (eP (eI .u64) (eP (eI .u64) (eI .u64)))) (eP (eI .i64) (eI .i64)))) v1 x2) (r6 : RdSl ρ (eI .i64) v4 x5) {r : Bool} (hF : F_nfa_Right N x2 x5 = some r) :
  Calls Tryz.prog 18 [.agg #[v1, v4]].toArray w (Rets (fun v w' => (∃ (x516 : Bool), x516 = r ∧ .bool x516 = v ∧ Hp C w' ρ (hs)))) := by
 unfold F_nfa_Right at hF
 have h0 : Tryz.f18.body = some _ := rfl
 refine fn_calls' Tryz.func18 h0 (n := 80) rfl (by simp) <| C_seq <| R_nd <| ne (E_box H (vs := [v1, v4]) rfl rfl) rfl rfl ?_
 rintro _ wd518 ⟨b517, rfl, H⟩
 refine nq (Q_assign rfl) rfl rfl <| WL_nil <| x_then <| C_seq <| R_nd <| nq (v := .pointer (some ⟨b517, 0, none⟩)) (Q_fld Tryz.underlying25 rfl ty22 (by decide) rfl rfl) rfl rfl <| nq (v := v1) (Q_ldB (k := 0) (cs := [v1]) H.ok rfl ty22 rfl rfl rfl (fun _ => rfl) rfl) rfl rfl <| nq (Q_len Tryz.underlying22 rfl r3) rfl rfl <| ne (E_alloc H ty3 (zs := [.int .i64 0]) rfl) rfl rfl ?_
 rintro _ wd520 ⟨b519, rfl, H⟩
 refine ne (E_stB (k := 0) (cs := [.int .i64 (x2.length : Int)]) (vs' := [.int .i64 (x2.length : Int)]) H rfl ty3 rfl rfl rfl rfl (one_cons rfl one_nil) (by simp) rfl) rfl rfl ?_
 rintro _ wd521 H
 dsimp only [List.set] at H
 refine WL_nil <| x_then <| C_seq <| R_nd <| nq (v := .func (.func 74) #[] [.pointer (some ⟨b519, 0, none⟩)].toArray) (Q_func rfl) rfl rfl <| nq (Q_assign rfl) rfl rfl <| WL_nil <| x_then <| C_seq <| C_seq <| R_nd <| nq (v := .pointer (some ⟨b517, 0, none⟩)) (Q_fld Tryz.underlying25 rfl ty22 (by decide) rfl rfl) rfl rfl <| nq (v := v1) (Q_ldB (k := 1) (cs := [v1]) H.ok rfl ty22 rfl rfl rfl (fun _ => rfl) rfl) rfl rfl <| nq (Q_len Tryz.underlying22 rfl r3) rfl rfl ?_
 refine nq (Q_move rfl) rfl rfl <| WL_nil <| x_then ?_
 obtain ⟨o766, ho766, hF⟩ := bnd hF
 refine C_cutQ (fun a w' => .inl () = o766 ∧ Fr 80 a [(1, .pointer (some ⟨b517, 0, none⟩)), (3, .pointer (some ⟨b519, 0, none⟩)), (4, .func (.func 74) #[] [.pointer (some ⟨b519, 0, none⟩)].toArray)] ∧ Hp C w' ρ (Box b517 [v1, v4] :: Box b519 [.int .i64 (x2.length : Int)] :: hs)) ?_ ?_
 ·refine C_block ?_
  replace H := H.f1
  refine C_iter (f := fun s => F_nfa_Right_l0 N x2 s) ho766 (fun s a w' => ∃ (x847 : Int), x847 = s ∧ Fr 80 a [(1, .pointer (some ⟨b517, 0, none⟩)), (3, .pointer (some ⟨b519, 0, none⟩)), (4, .func (.func 74) #[] [.pointer (some ⟨b519, 0, none⟩)].toArray), (14, v1), (15, .int .i64 (x2.length : Int)), (16, .int .i64 x847)] ∧ Hp C w' ρ (Box b517 [v1, v4] :: Box b519 [.int .i64 (x2.length : Int)] :: hs)) ?_ ?_
  ·exact fun a hf => ⟨0, rfl, hf.sub ⟨rfl, rfl, rfl, rfl, rfl, rfl, trivial⟩, H⟩
  ·rintro s o928 a wd931 ⟨x847, rfl, hf, H⟩ hB929 hO930
   replace hB929 : F_nfa_Right_l0 N x2 x847 = some o928 := hB929
   unfold F_nfa_Right_l0 at hB929
   refine CW.at hf <| C_seq <| R_nd <| nq (Q_lss rfl rfl) rfl rfl <| WL_nil <| x_then <| C_seq ?_
   refine C_cond rfl (fun hb => ?_) (fun hb => ?_)
   ·replace hB929 := itT hb hB929
    refine C_skip <| x_then <| C_seq <| C_block <| C_seq <| R_nd ?_
    obtain ⟨x932, hx932, hB929⟩ := bnd hB929
    obtain ⟨b933, o934, c935, hc936, ha937, hi938⟩ := idxR r3 hx932
    refine nq (Q_idx hi938 Tryz.underlying22 ty41 rfl rfl) rfl rfl ?_
    obtain ⟨c939, c940, he941, hc942, hc943⟩ := (id hc936)
    obtain ⟨v944, he945, r946⟩ := hc942
    obtain ⟨c947, c948, he949, hc950, hc951⟩ := hc943
    obtain ⟨c952, c953, he954, hc955, hc956⟩ := hc950
    obtain ⟨c957, c958, he959, hc960, hc961⟩ := hc956
    obtain ⟨c962, c963, he964, hc965, hc966⟩ := hc961
    obtain ⟨c967, c968, he969, hc970, hc971⟩ := hc951
    refine nq (v := .agg #[v944, .int .u64 x932.2.1.1, .int .u64 x932.2.1.2.1, .int .u64 x932.2.1.2.2.1, .int .u64 x932.2.1.2.2.2, .int .i64 x932.2.2.1, .int .i64 x932.2.2.2]) (Q_ld (show cellsAt _ _ _ [v944, .int .u64 x932.2.1.1, .int .u64 x932.2.1.2.1, .int .u64 x932.2.1.2.2.1, .int .u64 x932.2.1.2.2.2, .int .i64 x932.2.2.1, .int .i64 x932.2.2.2] from cellsAt.cg (cat2 he941 he945 (cat2 he949 (cat2 he954 (rdI hc955) (cat2 he959 (rdI hc960) (cat2 he964 (rdI hc965) (rdI hc966)))) (cat2 he969 (rdI hc970) (rdI hc971)))) (ha937.up H.ok.view)) ty41 rfl (fun h => nomatch h) rfl rfl) rfl rfl <| ne (E_alloc H ty41 (zs := [.slice none 0 0, .int .u64 0, .int .u64 0, .int .u64 0, .int .u64 0, .int .i64 0, .int .i64 0]) rfl) rfl rfl ?_
    rintro _ wd973 ⟨b972, rfl, H⟩
    refine ne (E_stB (k := 0) (cs := [v944, .int .u64 x932.2.1.1, .int .u64 x932.2.1.2.1, .int .u64 x932.2.1.2.2.1, .int .u64 x932.2.1.2.2.2, .int .i64 x932.2.2.1, .int .i64 x932.2.2.2]) (vs' := [v944, .int .u64 x932.2.1.1, .int .u64 x932.2.1.2.1, .int .u64 x932.2.1.2.2.1, .int .u64 x932.2.1.2.2.2, .int .i64 x932.2.2.1, .int .i64 x932.2.2.2]) H rfl ty41 rfl rfl rfl rfl (one_cons (RdSl.one r946) (one_cons rfl (one_cons rfl (one_cons rfl (one_cons rfl (one_cons rfl (one_cons rfl one_nil))))))) (by simp) rfl) rfl rfl ?_
    rintro _ wd974 H
    dsimp only [List.set] at H
    refine WL_nil <| x_then ?_
    obtain ⟨o987, ho987, hB929⟩ := bnd hB929
    refine C_cut (fun a w' => ∃ (x986 : Bool), x986 = o987 ∧ Fr 80 a [(1, .pointer (some ⟨b517, 0, none⟩)), (3, .pointer (some ⟨b519, 0, none⟩)), (4, .func (.func 74) #[] [.pointer (some ⟨b519, 0, none⟩)].toArray), (6, .pointer (some ⟨b972, 0, none⟩)), (7, .bool x986), (14, v1), (15, .int .i64 (x2.length : Int)), (16, .int .i64 x847)] ∧ Hp C w' ρ (Box b517 [v1, v4] :: Box b519 [.int .i64 (x2.length : Int)] :: Box b972 [v944, .int .u64 x932.2.1.1, .int .u64 x932.2.1.2.1, .int .u64 x932.2.1.2.2.1, .int .u64 x932.2.1.2.2.2, .int .i64 x932.2.2.1, .int .i64 x932.2.2.2] :: hs)) ?_ ?_
    ·refine R_nd <| nq (v := .pointer (some ⟨b972, 5, none⟩)) (Q_fld Tryz.underlying41 rfl ty3 (by decide) rfl rfl) rfl rfl <| nq (v := .int .i64 x932.2.2.1) (Q_ldB (k := 0) (cs := [.int .i64 x932.2.2.1]) H.ok rfl ty3 rfl rfl rfl (fun _ => rfl) rfl) rfl rfl <| nq (Q_eql rfl rfl) rfl rfl <| nq (Q_move rfl) rfl rfl ?_
     rcases Bool.eq_false_or_eq_true (x932.2.2.1 == (-1)) with hb | hb
     ·rw [hb]
      replace ho987 := itT hb ho987
      refine gq (v := .pointer (some ⟨b972, 1, none⟩)) (Q_fld Tryz.underlying41 rfl ty39 (by decide) rfl rfl) rfl rfl rfl <| gq (v := .agg #[.int .u64 x932.2.1.1, .int .u64 x932.2.1.2.1, .int .u64 x932.2.1.2.2.1, .int .u64 x932.2.1.2.2.2]) (Q_ldB (k := 0) (cs := [.int .u64 x932.2.1.1, .int .u64 x932.2.1.2.1, .int .u64 x932.2.1.2.2.1, .int .u64 x932.2.1.2.2.2]) H.ok rfl ty39 rfl rfl rfl (fun h => nomatch h) rfl) rfl rfl rfl ?_
      obtain ⟨q988, hq988, ho987⟩ := bnd ho987
      refine ge (E_call fn75 rfl (c_75 H gle   hq988)) rfl rfl rfl ?_
      rintro _ wd990 ⟨rfl, rfl, H⟩
      try dsimp only at ho987
      refine nq (Q_pickT rfl rfl) rfl rfl <| nq (Q_move rfl) rfl rfl ?_
      rcases Bool.eq_false_or_eq_true (([x932.2.1.1, x932.2.1.2.1, x932.2.1.2.2.1, x932.2.1.2.2.2] : List Int) == ([0, 0, 0, 0] : List Int)) with hb | hb
      ·rw [hb]
       replace ho987 := itT hb ho987
       refine gs rfl rfl rfl rfl <| gs rfl rfl rfl rfl <| gs rfl rfl rfl rfl <| gs rfl rfl rfl rfl <| gs rfl rfl rfl rfl <| nq (Q_pickT rfl rfl) rfl rfl <| nq (Q_assign rfl) rfl rfl <| WL_nil ?_
       replace H := H.f2
       replace H := H.f2
       obtain rfl := Option.some.inj ho987
       refine x_A fun a hf => ⟨true, rfl, hf.sub ⟨rfl, rfl, rfl, rfl, rfl, rfl, rfl, rfl, trivial⟩, H⟩
      ·rw [hb]
       replace ho987 := itF hb ho987
       refine gq (Q_move rfl) rfl rfl rfl <| gq (v := .pointer (some ⟨b972, 5, none⟩)) (Q_fld Tryz.underlying41 rfl ty3 (by decide) rfl rfl) rfl rfl rfl <| gq (v := .int .i64 x932.2.2.1) (Q_ldB (k := 0) (cs := [.int .i64 x932.2.2.1]) H.ok rfl ty3 rfl rfl rfl (fun _ => rfl) rfl) rfl rfl rfl ?_
       replace H := H.f2
       obtain ⟨q991, hq991, ho987⟩ := bnd ho987
       refine ge (E_callV fn74 rfl rfl (c_74 H gle   hq991)) rfl rfl rfl ?_
       rintro _ wd994 ⟨x993, rfl, rfl, H⟩
       try dsimp only at ho987
       refine gq (Q_not rfl) rfl rfl rfl <| nq (Q_pickF rfl rfl) rfl rfl <| nq (Q_assign rfl) rfl rfl <| WL_nil ?_
       replace H := H.f1
       replace H := H.f1
       replace H := H.f2
       obtain rfl := Option.some.inj ho987
       refine x_A fun a hf => ⟨!x993, rfl, hf.sub ⟨rfl, rfl, rfl, rfl, rfl, rfl, rfl, rfl, trivial⟩, H⟩
     ·rw [hb]
      replace ho987 := itF hb ho987
      refine gs rfl rfl rfl rfl <| gs rfl rfl rfl rfl <| gs rfl rfl rfl rfl <| nq (Q_pickF rfl rfl) rfl rfl <| nq (Q_move rfl) rfl rfl <| gq (Q_move rfl) rfl rfl rfl <| gq (v := .pointer (some ⟨b972, 5, none⟩)) (Q_fld Tryz.underlying41 rfl ty3 (by decide) rfl rfl) rfl rfl rfl <| gq (v := .int .i64 x932.2.2.1) (Q_ldB (k := 0) (cs := [.int .i64 x932.2.2.1]) H.ok rfl ty3 rfl rfl rfl (fun _ => rfl) rfl) rfl rfl rfl ?_
      replace H := H.f2
      obtain ⟨q995, hq995, ho987⟩ := bnd ho987
      refine ge (E_callV fn74 rfl rfl (c_74 H gle   hq995)) rfl rfl rfl ?_
      rintro _ wd998 ⟨x997, rfl, rfl, H⟩
      try dsimp only at ho987
      refine gq (Q_not rfl) rfl rfl rfl <| nq (Q_pickF rfl rfl) rfl rfl <| nq (Q_assign rfl) rfl rfl <| WL_nil ?_
      replace H := H.f1
      replace H := H.f1
      replace H := H.f2
      obtain rfl := Option.some.inj ho987
      refine x_A fun a hf => ⟨!x997, rfl, hf.sub ⟨rfl, rfl, rfl, rfl, rfl, rfl, rfl, rfl, trivial⟩, H⟩
    ·rintro a wd999 ⟨x986, rfl, hf, H⟩
     try dsimp only at hB929
     refine CW.at hf ?_
     obtain ⟨o1005, ho1005, hB929⟩ := bnd hB929
     refine C_cut (fun a w' => ∃ (x1004 : Bool), x1004 = o1005 ∧ Fr 80 a [(1, .pointer (some ⟨b517, 0, none⟩)), (3, .pointer (some ⟨b519, 0, none⟩)), (4, .func (.func 74) #[] [.pointer (some ⟨b519, 0, none⟩)].toArray), (14, v1), (15, .int .i64 (x2.length : Int)), (16, .int .i64 x847), (52, .bool x1004)] ∧ Hp C w' ρ (Box b517 [v1, v4] :: Box b519 [.int .i64 (x2.length : Int)] :: hs)) ?_ ?_
     ·refine R_nd <| nq (Q_move rfl) rfl rfl <| nq (Q_not rfl) rfl rfl <| nq (Q_move rfl) rfl rfl ?_
      rcases Bool.eq_false_or_eq_true (!x986) with hb | hb
      ·rw [hb]
       replace ho1005 := itT hb ho1005
       refine gs rfl rfl rfl rfl <| gs rfl rfl rfl rfl <| gs rfl rfl rfl rfl <| gs rfl rfl rfl rfl <| nq (Q_pickT rfl rfl) rfl rfl <| nq (Q_move rfl) rfl rfl <| gs rfl rfl rfl rfl <| gs rfl rfl rfl rfl <| gs rfl rfl rfl rfl <| nq (Q_pickT rfl rfl) rfl rfl <| nq (Q_move rfl) rfl rfl <| gs rfl rfl rfl rfl <| gs rfl rfl rfl rfl <| gs rfl rfl rfl rfl ?_
       refine nq (Q_pickT rfl rfl) rfl rfl <| WL_nil ?_
       replace H := H.f1
       replace H := H.f1
       replace H := H.drop 2 rfl
       dsimp only [List.eraseIdx] at H
       obtain rfl := Option.some.inj ho1005
       refine x_A fun a hf => ⟨true, rfl, hf.sub ⟨rfl, rfl, rfl, rfl, rfl, rfl, rfl, trivial⟩, H⟩
      ·rw [hb]
       replace ho1005 := itF hb ho1005
       refine gq (v := .pointer (some ⟨b972, 0, none⟩)) (Q_fld Tryz.underlying41 rfl ty23 (by decide) rfl rfl) rfl rfl rfl <| gq (v := v944) (Q_ldB (k := 2) (cs := [v944]) H.ok rfl ty23 rfl rfl rfl (fun _ => rfl) rfl) rfl rfl rfl <| gq (Q_move rfl) rfl rfl rfl ?_
       replace H := H.f1
       obtain ⟨q1006, hq1006, ho1005⟩ := bnd ho1005
       refine ge (E_call fn76 rfl (c_76_2 H gle  r946 hq1006)) rfl rfl rfl ?_
       rintro _ wd1009 ⟨x1008, rfl, rfl, H⟩
       try dsimp only at ho1005
       refine nq (Q_pickF rfl rfl) rfl rfl <| nq (Q_move rfl) rfl rfl ?_
       rcases Bool.eq_false_or_eq_true x1008 with hb | hb
       ·rw [hb]
        replace ho1005 := itT hb ho1005
        refine gs rfl rfl rfl rfl <| gs rfl rfl rfl rfl <| gs rfl rfl rfl rfl <| nq (Q_pickT rfl rfl) rfl rfl <| nq (Q_move rfl) rfl rfl <| gs rfl rfl rfl rfl <| gs rfl rfl rfl rfl <| gs rfl rfl rfl rfl <| nq (Q_pickT rfl rfl) rfl rfl <| WL_nil ?_
        replace H := H.f1
        replace H := H.drop 2 rfl
        dsimp only [List.eraseIdx] at H
        obtain rfl := Option.some.inj ho1005
        refine x_A fun a hf => ⟨true, rfl, hf.sub ⟨rfl, rfl, rfl, rfl, rfl, rfl, rfl, trivial⟩, H⟩
       ·rw [hb]
        replace ho1005 := itF hb ho1005
        refine gq (v := .pointer (some ⟨b972, 6, none⟩)) (Q_fld Tryz.underlying41 rfl ty3 (by decide) rfl rfl) rfl rfl rfl <| gq (v := .int .i64 x932.2.2.2) (Q_ldB (k := 2) (cs := [.int .i64 x932.2.2.2]) H.ok rfl ty3 rfl rfl rfl (fun _ => rfl) rfl) rfl rfl rfl <| gq (Q_lss rfl rfl) rfl rfl rfl <| nq (Q_pickF rfl rfl) rfl rfl <| nq (Q_move rfl) rfl rfl ?_
        rcases Bool.eq_false_or_eq_true (decide (x932.2.2.2 < (-1))) with hb | hb
        ·rw [hb]
         replace ho1005 := itT hb ho1005
         refine gs rfl rfl rfl rfl <| gs rfl rfl rfl rfl <| gs rfl rfl rfl rfl <| nq (Q_pickT rfl rfl) rfl rfl <| WL_nil ?_
         replace H := H.f1
         replace H := H.drop 2 rfl
         dsimp only [List.eraseIdx] at H
         obtain rfl := Option.some.inj ho1005
         refine x_A fun a hf => ⟨true, rfl, hf.sub ⟨rfl, rfl, rfl, rfl, rfl, rfl, rfl, trivial⟩, H⟩
        ·rw [hb]
         replace ho1005 := itF hb ho1005
         refine gq (v := .pointer (some ⟨b972, 6, none⟩)) (Q_fld Tryz.underlying41 rfl ty3 (by decide) rfl rfl) rfl rfl rfl <| gq (v := .int .i64 x932.2.2.2) (Q_ldB (k := 2) (cs := [.int .i64 x932.2.2.2]) H.ok rfl ty3 rfl rfl rfl (fun _ => rfl) rfl) rfl rfl rfl <| gq (Q_geq rfl rfl) rfl rfl rfl <| nq (Q_pickF rfl rfl) rfl rfl <| WL_nil ?_
         replace H := H.f1
         replace H := H.drop 2 rfl
         dsimp only [List.eraseIdx] at H
         obtain rfl := Option.some.inj ho1005
         refine x_A fun a hf => ⟨decide (x932.2.2.2 ≥ 48), rfl, hf.sub ⟨rfl, rfl, rfl, rfl, rfl, rfl, rfl, trivial⟩, H⟩
     ·rintro a wd1010 ⟨x1004, rfl, hf, H⟩
      try dsimp only at hB929
      refine CW.at hf ?_
      refine C_cond rfl (fun hb => ?_) (fun hb => ?_)
      ·replace hB929 := itT hb hB929
       refine C_seq <| R_nd <| nq (Q_assign rfl) rfl rfl <| WL_nil <| x_then <| C_ret <| x_block_ret <| x_then_ret <| x_then_ret <| x_block_ret <| x_then_ret <| x_then_ret ?_
       replace H := H.drop 0 rfl
       dsimp only [List.eraseIdx] at H
       replace H := H.drop 0 rfl
       dsimp only [List.eraseIdx] at H
       obtain rfl := Option.some.inj hB929
       obtain rfl := hO930 _ rfl
       obtain rfl := Option.some.inj (show some _ = some _ from hF)
       exact fn_ret (l := [.tmp 2]) (vs := [.bool false]) rfl rfl rfl ⟨false, rfl, rfl, H⟩
      ·replace hB929 := itF hb hB929
       refine C_skip <| x_block <| x_then <| R_nd <| nq (Q_add rfl rfl) rfl rfl <| nq (Q_move rfl) rfl rfl <| WL_nil ?_
       replace H := H.f1
       replace H := H.f1
       obtain rfl := Option.some.inj hB929
       refine x_A fun a hf => ⟨_, rfl, w64 (x847 + 1), rfl, hf.sub ⟨rfl, rfl, rfl, rfl, rfl, rfl, trivial⟩, H⟩
   ·replace hB929 := itF hb hB929
    refine C_exit <| x_then_exit <| x_then_exit <| x_block_exit ?_
    replace H := H.f1
    replace H := H.f1
    obtain rfl := Option.some.inj hB929
    obtain rfl := hO930 _ rfl
    refine x_A fun a hf => ⟨rfl, hf.sub ⟨rfl, rfl, rfl, trivial⟩, H⟩
 ·rintro a wd1011 ⟨rfl, hf, H⟩
  try dsimp only at hF
  refine XX.at hf <| x_then ?_
  obtain ⟨o1013, ho1013, hF⟩ := bnd hF
  refine C_cut (fun a w' => ∃ (x1012 : Bool), x1012 = o1013 ∧ Fr 80 a [(1, .pointer (some ⟨b517, 0, none⟩)), (3, .pointer (some ⟨b519, 0, none⟩)), (4, .func (.func 74) #[] [.pointer (some ⟨b519, 0, none⟩)].toArray), (8, .bool x1012)] ∧ Hp C w' ρ (Box b517 [v1, v4] :: Box b519 [.int .i64 (x2.length : Int)] :: hs)) ?_ ?_
  ·refine R_nd <| nq (v := .pointer (some ⟨b517, 1, none⟩)) (Q_fld Tryz.underlying25 rfl ty23 (by decide) rfl rfl) rfl rfl <| nq (v := v4) (Q_ldB (k := 0) (cs := [v4]) H.ok rfl ty23 rfl rfl rfl (fun _ => rfl) rfl) rfl rfl <| nq (Q_len Tryz.underlying23 rfl r6) rfl rfl <| nq (Q_geq rfl rfl) rfl rfl <| nq (Q_move rfl) rfl rfl ?_
   rcases Bool.eq_false_or_eq_true (decide ((x5.length : Int) ≥ 1)) with hb | hb
   ·rw [hb]
    replace ho1013 := itT hb ho1013
    refine gq (v := .pointer (some ⟨b517, 1, none⟩)) (Q_fld Tryz.underlying25 rfl ty23 (by decide) rfl rfl) rfl rfl rfl <| gq (v := v4) (Q_ldB (k := 0) (cs := [v4]) H.ok rfl ty23 rfl rfl rfl (fun _ => rfl) rfl) rfl rfl rfl <| gq (Q_len Tryz.underlying23 rfl r6) rfl rfl rfl <| gq (Q_leq rfl rfl) rfl rfl rfl <| nq (Q_pickT rfl rfl) rfl rfl <| nq (Q_assign rfl) rfl rfl <| WL_nil ?_
    replace H := H.f1
    replace H := H.f1
    obtain rfl := Option.some.inj ho1013
    refine x_A fun a hf => ⟨decide ((x5.length : Int) ≤ 8), rfl, hf.sub ⟨rfl, rfl, rfl, rfl, trivial⟩, H⟩
   ·rw [hb]
    replace ho1013 := itF hb ho1013
    refine gs rfl rfl rfl rfl <| gs rfl rfl rfl rfl <| gs rfl rfl rfl rfl <| gs rfl rfl rfl rfl <| nq (Q_pickF rfl rfl) rfl rfl <| nq (Q_assign rfl) rfl rfl <| WL_nil ?_
    replace H := H.f1
    replace H := H.f1
    obtain rfl := Option.some.inj ho1013
    refine x_A fun a hf => ⟨false, rfl, hf.sub ⟨rfl, rfl, rfl, rfl, trivial⟩, H⟩
  ·rintro a wd1014 ⟨x1012, rfl, hf, H⟩
   try dsimp only at hF
   refine CW.at hf ?_
   obtain ⟨o1020, ho1020, hF⟩ := bnd hF
   refine C_cut (fun a w' => ∃ (x1019 : Bool), x1019 = o1020 ∧ Fr 80 a [(2, .bool x1019)] ∧ Hp C w' ρ (hs)) ?_ ?_
   ·refine R_nd <| nq (Q_move rfl) rfl rfl <| nq (Q_move rfl) rfl rfl ?_
    rcases Bool.eq_false_or_eq_true x1012 with hb | hb
    ·rw [hb]
     replace ho1020 := itT hb ho1020
     refine gq (v := .int .i64 (x2.length : Int)) (Q_ldB (k := 1) (cs := [.int .i64 (x2.length : Int)]) H.ok rfl ty3 rfl rfl rfl (fun _ => rfl) rfl) rfl rfl rfl <| gq (Q_geq rfl rfl) rfl rfl rfl <| nq (Q_pickT rfl rfl) rfl rfl <| nq (Q_move rfl) rfl rfl ?_
     rcases Bool.eq_false_or_eq_true (decide ((x2.length : Int) ≥ 1)) with hb | hb
     ·rw [hb]
      replace ho1020 := itT hb ho1020
      refine gq (v := .int .i64 (x2.length : Int)) (Q_ldB (k := 1) (cs := [.int .i64 (x2.length : Int)]) H.ok rfl ty3 rfl rfl rfl (fun _ => rfl) rfl) rfl rfl rfl <| gq (Q_leq rfl rfl) rfl rfl rfl <| nq (Q_pickT rfl rfl) rfl rfl <| nq (Q_move rfl) rfl rfl ?_
      rcases Bool.eq_false_or_eq_true (decide ((x2.length : Int) ≤ 4000)) with hb | hb
      ·rw [hb]
       replace ho1020 := itT hb ho1020
       refine gq (v := .pointer (some ⟨b517, 1, none⟩)) (Q_fld Tryz.underlying25 rfl ty23 (by decide) rfl rfl) rfl rfl rfl <| gq (v := v4) (Q_ldB (k := 0) (cs := [v4]) H.ok rfl ty23 rfl rfl rfl (fun _ => rfl) rfl) rfl rfl rfl <| gq (Q_move rfl) rfl rfl rfl ?_
       replace H := H.f1
       obtain ⟨q1021, hq1021, ho1020⟩ := bnd ho1020
       refine ge (E_call fn76 rfl (c_76_2 H gle  r6 hq1021)) rfl rfl rfl ?_
       rintro _ wd1024 ⟨x1023, rfl, rfl, H⟩
       try dsimp only at ho1020
       refine gq (Q_not rfl) rfl rfl rfl <| nq (Q_pickT rfl rfl) rfl rfl <| nq (Q_assign rfl) rfl rfl <| WL_nil ?_
       replace H := H.drop 0 rfl
       dsimp only [List.eraseIdx] at H
       replace H := H.drop 0 rfl
       dsimp only [List.eraseIdx] at H
       obtain rfl := Option.some.inj ho1020
       refine x_A fun a hf => ⟨!x1023, rfl, hf.sub ⟨rfl, trivial⟩, H⟩
      ·rw [hb]
       replace ho1020 := itF hb ho1020
       refine gs rfl rfl rfl rfl <| gs rfl rfl rfl rfl <| gs rfl rfl rfl rfl <| gs rfl rfl rfl rfl <| gs rfl rfl rfl rfl <| nq (Q_pickF rfl rfl) rfl rfl <| nq (Q_assign rfl) rfl rfl <| WL_nil ?_
       replace H := H.drop 0 rfl
       dsimp only [List.eraseIdx] at H
       replace H := H.drop 0 rfl
       dsimp only [List.eraseIdx] at H
       obtain rfl := Option.some.inj ho1020
       refine x_A fun a hf => ⟨false, rfl, hf.sub ⟨rfl, trivial⟩, H⟩
     ·rw [hb]
      replace ho1020 := itF hb ho1020
      refine gs rfl rfl rfl rfl <| gs rfl rfl rfl rfl <| nq (Q_pickF rfl rfl) rfl rfl <| nq (Q_move rfl) rfl rfl <| gs rfl rfl rfl rfl <| gs rfl rfl rfl rfl <| gs rfl rfl rfl rfl <| gs rfl rfl rfl rfl <| gs rfl rfl rfl rfl <| nq (Q_pickF rfl rfl) rfl rfl <| nq (Q_assign rfl) rfl rfl <| WL_nil ?_
      replace H := H.drop 0 rfl
      dsimp only [List.eraseIdx] at H
      replace H := H.drop 0 rfl
      dsimp only [List.eraseIdx] at H
      obtain rfl := Option.some.inj ho1020
      refine x_A fun a hf => ⟨false, rfl, hf.sub ⟨rfl, trivial⟩, H⟩
    ·rw [hb]
     replace ho1020 := itF hb ho1020
     refine gs rfl rfl rfl rfl <| gs rfl rfl rfl rfl <| nq (Q_pickF rfl rfl) rfl rfl <| nq (Q_move rfl) rfl rfl <| gs rfl rfl rfl rfl <| gs rfl rfl rfl rfl <| nq (Q_pickF rfl rfl) rfl rfl <| nq (Q_move rfl) rfl rfl <| gs rfl rfl rfl rfl <| gs rfl rfl rfl rfl <| gs rfl rfl rfl rfl <| gs rfl rfl rfl rfl <| gs rfl rfl rfl rfl <| nq (Q_pickF rfl rfl) rfl rfl ?_
     refine nq (Q_assign rfl) rfl rfl <| WL_nil ?_
     replace H := H.drop 0 rfl
     dsimp only [List.eraseIdx] at H
     replace H := H.drop 0 rfl
     dsimp only [List.eraseIdx] at H
     obtain rfl := Option.some.inj ho1020
     refine x_A fun a hf => ⟨false, rfl, hf.sub ⟨rfl, trivial⟩, H⟩
   ·rintro a wd1025 ⟨x1019, rfl, hf, H⟩
    try dsimp only at hF
    refine CW.at hf <| C_ret ?_
    obtain rfl := Option.some.inj hF
    exact fn_ret (l := [.tmp 2]) (vs := [.bool x1019]) rfl rfl rfl ⟨x1019, rfl, rfl, H⟩
theorem c_131 {N : Nat} {C : Cx} {w : World} {ρ : View} {hs : List Hl} {gV : Nat → Value} {b1 : Nat} {c2 : List Value} {v5 : Value} {x3 : (List Int)} {x6 : Int} (H : Hp C w ρ (Box b1 [v5, .int .i64 x6] :: Arr v5 1 c2 :: hs)) (_gle : GErrs ρ 394 errIds gV) (_r4 : rdL (eI .u64) ρ x3 c2) {r : Unit} (hF : F_marks_Marks_own N x3 x6 = some r) :
  Calls Tryz.prog 131 [.pointer (some ⟨b1, 0, none⟩)].toArray w (Rets (fun v w' => (() = r ∧ v5 = v ∧ Hp C w' ρ (Box b1 [v5, .int .i64 x6] :: Arr v5 1 c2 :: hs)))) := by
 unfold F_marks_Marks_own at hF
 have h0 : Tryz.f131.body = some _ := rfl
 refine fn_calls' Tryz.func131 h0 (n := 9) rfl (by simp) <| C_seq <| R_nd <| nq (Q_assign rfl) rfl rfl <| WL_nil <| x_then <| C_seq <| C_seq <| R_nd <| nq (Q_move rfl) rfl rfl <| nq (v := .bool false) (Q_eqlP (o := (some ⟨b1, 0, none⟩)) Tryz.underlying51 rfl) rfl rfl <| WL_nil <| x_then ?_
 refine C_cond rfl (fun h => nomatch h) (fun _ => ?_)
 refine C_skip <| x_then <| C_seq <| R_nd <| nq (Q_move rfl) rfl rfl <| nq (Q_nilP rfl) rfl rfl <| nq (v := .pointer (some ⟨b1, 0, none⟩)) (Q_fld Tryz.underlying139 rfl ty137 (by decide) rfl rfl) rfl rfl <| nq (v := v5) (Q_ldB (k := 0) (cs := [v5]) H.ok rfl ty137 rfl rfl rfl (fun _ => rfl) rfl) rfl rfl <| nq (Q_assign rfl) rfl rfl <| WL_nil <| x_then <| C_ret ?_
 replace H := H.f1
 replace H := H.f1
 obtain rfl := Option.some.inj hF
 exact fn_ret (l := [.tmp 2]) (vs := [v5]) rfl rfl rfl ⟨rfl, rfl, H⟩
theorem c_132 {N : Nat} {C : Cx} {w : World} {ρ : View} {hs : List Hl} {gV : Nat → Value} {x1 : Int} (H : Hp C w ρ (hs)) (_gle : GErrs ρ 394 errIds gV) (gl18 : GTab ρ 18 .u8 tab_math_bits_deBruijn64tab) {r : Int} (hF : F_math_bits_TrailingZeros64 N x1 = some r) :
  Calls Tryz.prog 132 [.int .u64 x1].toArray w (Rets (fun v w' => (∃ (x4 : Int), x4 = r ∧ .int .i64 x4 = v ∧ Hp C w' ρ (hs)))) := by
 unfold F_math_bits_TrailingZeros64 at hF
 have h0 : Tryz.f132.body = some _ := rfl
 refine fn_calls' Tryz.func132 h0 (n := 14) rfl (by simp) <| C_seq <| R_nd <| nq (Q_assign rfl) rfl rfl <| WL_nil <| x_then <| C_seq <| C_seq <| R_nd <| nq (Q_move rfl) rfl rfl <| nq (Q_eql rfl rfl) rfl rfl <| WL_nil <| x_then ?_
 refine C_cond rfl (fun hb => ?_) (fun hb => ?_)
 ·replace hF := itT hb hF
  refine C_seq <| R_nd <| nq (Q_assign rfl) rfl rfl <| WL_nil <| x_then <| C_ret <| x_then_ret ?_
  obtain rfl := Option.some.inj hF
  exact fn_ret (l := [.tmp 2]) (vs := [.int .i64 64]) rfl rfl rfl ⟨64, rfl, rfl, H⟩
 ·replace hF := itF hb hF
  refine C_skip <| x_then <| C_seq <| R_nd <| nq (Q_move rfl) rfl rfl <| nq (Q_move rfl) rfl rfl <| nq (v := .int .u64 (IntKind.wrap .u64 (0 - x1))) (Q_neg rfl) rfl rfl <| nq (Q_and rfl rfl) rfl rfl <| nq (Q_mul rfl rfl) rfl rfl <| nq (Q_shr rfl rfl (by decide)) rfl rfl ?_
  obtain ⟨x5, hx5, hF⟩ := bnd hF
  have hn6 := idx_lt (N := 64) (xs := tab_math_bits_deBruijn64tab) rfl hx5
  refine nq (Q_idxA hn6.1 hn6.2 Tryz.underlying260 ty5 rfl rfl) rfl rfl <| nq (v := .int .u8 x5) (Q_ld ((GTab.at gl18 hx5).up H.ok.view) ty5 rfl (fun _ => rfl) rfl rfl) rfl rfl <| nq (Q_cvI ⟨_, Tryz.underlying5⟩ Tryz.underlying3 rfl) rfl rfl <| nq (Q_assign rfl) rfl rfl <| WL_nil <| x_then <| C_ret ?_
  obtain rfl := Option.some.inj hF
  exact fn_ret (l := [.tmp 2]) (vs := [.int .i64 (IntKind.wrap .i64 x5)]) rfl rfl rfl ⟨IntKind.wrap .i64 x5, rfl, rfl, H⟩
theorem c_83 {N : Nat} {C : Cx} {w : World} {ρ : View} {hs : List Hl} {gV : Nat → Value} {b1 : Nat} {c2 : List Value} {v5 : Value} {x3 : (List Int)} {x6 : Int} {x7 : Int} (H : Hp C w ρ (Box b1 [v5, .int .i64 x6] :: Arr v5 1 c2 :: hs)) (gle : GErrs ρ 394 errIds gV) (gl18 : GTab ρ 18 .u8 tab_math_bits_deBruijn64tab) (r4 : rdL (eI .u64) ρ x3 c2) {r : Int} (hF : F_marks_Marks_After N x3 x6 x7 = some r) :
  Calls Tryz.prog 83 [.pointer (some ⟨b1, 0, none⟩), .int .i64 x7].toArray w (Rets (fun v w' => (∃ (x233 : Int), x233 = r ∧ .int .i64 x233 = v ∧ Hp C w' ρ (Box b1 [v5, .int .i64 x6] :: Arr v5 1 c2 :: hs)))) := by
 unfold F_marks_Marks_After at hF
 have h0 : Tryz.f83.body = some _ := rfl
 refine fn_calls' Tryz.func83 h0 (n := 48) rfl (by simp) <| C_seq <| R_nd <| nq (Q_assign rfl) rfl rfl <| WL_nil <| x_then <| C_seq <| C_seq <| R_nd <| nq (Q_move rfl) rfl rfl <| nq (Q_move rfl) rfl rfl ?_
 replace H := H.f1
 replace H := H.f1
 obtain ⟨q234, hq234, hF⟩ := bnd hF
 refine ne (E_call fn87 rfl (c_87 H gle  r4 hq234)) rfl rfl ?_
 rintro _ wd236 ⟨rfl, rfl, H⟩
 try dsimp only at hF
 refine nq (Q_geq rfl rfl) rfl rfl <| WL_nil <| x_then ?_
 refine C_cond rfl (fun hb => ?_) (fun hb => ?_)
 ·replace hF := itT hb hF
  refine C_seq <| R_nd <| nq (Q_assign rfl) rfl rfl <| WL_nil <| x_then <| C_ret <| x_then_ret ?_
  replace H := H.f1
  replace H := H.f1
  obtain rfl := Option.some.inj hF
  exact fn_ret (l := [.tmp 4]) (vs := [.int .i64 (-1)]) rfl rfl rfl ⟨(-1), rfl, rfl, H⟩
 ·replace hF := itF hb hF
  refine C_skip <| x_then <| C_seq <| R_nd <| nq (Q_move rfl) rfl rfl <| nq (v := .int .i64 (imax x7 (-1))) (Q_max rfl rfl) rfl rfl <| nq (Q_add rfl rfl) rfl rfl <| nq (Q_assign rfl) rfl rfl <| WL_nil <| x_then <| C_seq <| C_seq <| R_nd <| nq (Q_move rfl) rfl rfl ?_
  refine nq (Q_quo rfl rfl (by decide)) rfl rfl <| nq (Q_assign rfl) rfl rfl <| WL_nil <| x_then ?_
  obtain ⟨o367, ho367, hF⟩ := bnd hF
  refine C_cutQ (fun a w' => .inl () = o367 ∧ Fr 48 a [] ∧ Hp C w' ρ (Box b1 [v5, .int .i64 x6] :: Arr v5 1 c2 :: hs)) ?_ ?_
  ·refine C_block ?_
   replace H := H.f1
   replace H := H.f1
   refine C_iter (f := fun s => F_marks_Marks_After_l0 N x3 x6 x7 s) ho367 (fun s a w' => ∃ (x410 : Int), x410 = s ∧ Fr 48 a [(0, .pointer (some ⟨b1, 0, none⟩)), (1, .int .i64 (w64 ((imax x7 (-1)) + 1))), (5, .int .i64 x410)] ∧ Hp C w' ρ (Box b1 [v5, .int .i64 x6] :: Arr v5 1 c2 :: hs)) ?_ ?_
   ·exact fun a hf => ⟨w64 ((w64 ((imax x7 (-1)) + 1)).tdiv 64), rfl, hf.sub ⟨rfl, rfl, rfl, trivial⟩, H⟩
   ·rintro s o453 a wd456 ⟨x410, rfl, hf, H⟩ hB454 hO455
    replace hB454 : F_marks_Marks_After_l0 N x3 x6 x7 x410 = some o453 := hB454
    unfold F_marks_Marks_After_l0 at hB454
    refine CW.at hf <| C_seq <| C_seq <| R_nd <| nq (Q_move rfl) rfl rfl <| nq (Q_move rfl) rfl rfl ?_
    replace H := H.f1
    replace H := H.f1
    obtain ⟨q457, hq457, hB454⟩ := bnd hB454
    refine ne (E_call fn131 rfl (c_131 H gle  r4 hq457)) rfl rfl ?_
    rintro _ wd459 ⟨rfl, rfl, H⟩
    try dsimp only at hB454
    refine nq (Q_lenA (k := 1) H.ok rfl r4 (by decide) Tryz.underlying137 rfl) rfl rfl <| nq (Q_lss rfl rfl) rfl rfl <| WL_nil <| x_then ?_
    refine C_cond rfl (fun hb => ?_) (fun hb => ?_)
    ·replace hB454 := itT hb hB454
     refine C_skip <| x_then ?_
     obtain ⟨o478, ho478, hB454⟩ := bnd hB454
     refine C_cut (fun a w' => .inl () = o478 ∧ Fr 48 a [(0, .pointer (some ⟨b1, 0, none⟩)), (1, .int .i64 (w64 ((imax x7 (-1)) + 1))), (5, .int .i64 x410)] ∧ Hp C w' ρ (Box b1 [v5, .int .i64 x6] :: Arr v5 1 c2 :: hs)) ?_ ?_
     ·refine C_block <| C_seq <| R_nd <| nq (Q_move rfl) rfl rfl <| nq (Q_nilP rfl) rfl rfl <| nq (v := .pointer (some ⟨b1, 0, none⟩)) (Q_fld Tryz.underlying139 rfl ty137 (by decide) rfl rfl) rfl rfl <| nq (v := v5) (Q_ldB (k := 0) (cs := [v5]) H.ok rfl ty137 rfl rfl rfl (fun _ => rfl) rfl) rfl rfl <| nq (Q_move rfl) rfl rfl ?_
      obtain ⟨x479, hx479, ho478⟩ := bnd ho478
      obtain ⟨b480, o481, hi485, hc483, ha484⟩ := arr_at (hs := [Arr v5 1 c2]) (k := 0) (by decide) (H.okS (by simp)) rfl r4 hx479
      refine nq (Q_idx hi485 Tryz.underlying137 ty37 rfl rfl) rfl rfl <| nq (v := .int .u64 x479) (Q_ld (show cellsAt _ _ _ [.int .u64 x479] from (show _ = [_] from hc483) ▸ (ha484 _ (Ok.subS (by simp) H.ok))) ty37 rfl (fun _ => rfl) rfl rfl) rfl rfl <| nq (Q_assign rfl) rfl rfl <| WL_nil <| x_then <| C_seq <| C_seq <| R_nd <| nq (Q_move rfl) rfl rfl <| nq (Q_move rfl) rfl rfl <| nq (Q_quo rfl rfl (by decide)) rfl rfl <| nq (Q_eql rfl rfl) rfl rfl <| WL_nil <| x_then ?_
      obtain ⟨o489, ho489, ho478⟩ := bnd ho478
      refine C_cutQ (fun a w' => ∃ (x488 : Int), x488 = o489 ∧ Fr 48 a [(0, .pointer (some ⟨b1, 0, none⟩)), (1, .int .i64 (w64 ((imax x7 (-1)) + 1))), (5, .int .i64 x410), (6, .int .u64 x488)] ∧ Hp C w' ρ (Box b1 [v5, .int .i64 x6] :: Arr v5 1 c2 :: hs)) ?_ ?_
      ·refine C_cond rfl (fun hb => ?_) (fun hb => ?_)
       ·replace ho489 := itT hb ho489
        refine R_nd <| nq (Q_move rfl) rfl rfl <| nq (Q_move rfl) rfl rfl <| nq (Q_rem rfl rfl (by decide)) rfl rfl ?_
        obtain ⟨x490, hx490, ho489⟩ := bnd ho489
        refine nq (Q_shr rfl rfl (nn_some hx490)) rfl rfl <| nq (Q_move rfl) rfl rfl <| nq (Q_rem rfl rfl (by decide)) rfl rfl ?_
        obtain ⟨x491, hx491, ho489⟩ := bnd ho489
        refine nq (Q_shl rfl rfl (nn_some hx491)) rfl rfl <| nq (Q_assign rfl) rfl rfl <| WL_nil ?_
        replace H := H.f1
        replace H := H.f1
        obtain rfl := Option.some.inj ho489
        refine x_A fun a hf => ⟨shlI .u64 (shrI .u64 x479 ((w64 ((imax x7 (-1)) + 1)).tmod 64)) ((w64 ((imax x7 (-1)) + 1)).tmod 64), rfl, hf.sub ⟨rfl, rfl, rfl, rfl, trivial⟩, H⟩
       ·replace ho489 := itF hb ho489
        refine C_skip ?_
        replace H := H.f1
        replace H := H.f1
        obtain rfl := Option.some.inj ho489
        refine x_A fun a hf => ⟨x479, rfl, hf.sub ⟨rfl, rfl, rfl, rfl, trivial⟩, H⟩
      ·rintro a wd492 ⟨x488, rfl, hf, H⟩
       try dsimp only at ho478
       refine XX.at hf <| x_then <| C_seq <| R_nd <| nq (Q_move rfl) rfl rfl <| nq (Q_neq rfl rfl) rfl rfl <| WL_nil <| x_then ?_
       refine C_cond rfl (fun hb => ?_) (fun hb => ?_)
       ·replace ho478 := itT hb ho478
        refine C_seq <| R_nd <| nq (Q_move rfl) rfl rfl <| nq (Q_mul rfl rfl) rfl rfl <| nq (Q_move rfl) rfl rfl ?_
        obtain ⟨q493, hq493, ho478⟩ := bnd ho478
        refine ne (E_call fn132 rfl (c_132 H gle gl18  hq493)) rfl rfl ?_
        rintro _ wd496 ⟨x495, rfl, rfl, H⟩
        try dsimp only at ho478
        refine nq (Q_add rfl rfl) rfl rfl <| nq (Q_assign rfl) rfl rfl <| WL_nil <| x_then <| C_ret <| x_block_ret <| x_then_ret <| x_then_ret <| x_block_ret <| x_then_ret <| x_then_ret ?_
        replace H := H.f1
        replace H := H.f1
        obtain rfl := Option.some.inj ho478
        obtain rfl := Option.some.inj (show some _ = some _ from hB454)
        obtain rfl := hO455 _ rfl
        obtain rfl := Option.some.inj (show some _ = some _ from hF)
        exact fn_ret (l := [.tmp 4]) (vs := [.int .i64 (w64 ((w64 (64 * x410)) + x495))]) rfl rfl rfl ⟨w64 ((w64 (64 * x410)) + x495), rfl, rfl, H⟩
       ·replace ho478 := itF hb ho478
        refine C_skip <| x_block ?_
        replace H := H.f1
        replace H := H.f1
        obtain rfl := Option.some.inj ho478
        refine x_A fun a hf => ⟨rfl, hf.sub ⟨rfl, rfl, rfl, trivial⟩, H⟩
     ·rintro a wd497 ⟨rfl, hf, H⟩
      try dsimp only at hB454
      refine CW.at hf <| R_nd <| nq (Q_move rfl) rfl rfl <| nq (Q_add rfl rfl) rfl rfl <| nq (Q_assign rfl) rfl rfl <| WL_nil ?_
      replace H := H.f1
      replace H := H.f1
      obtain rfl := Option.some.inj hB454
      refine x_A fun a hf => ⟨_, rfl, w64 (x410 + 1), rfl, hf.sub ⟨rfl, rfl, rfl, trivial⟩, H⟩
    ·replace hB454 := itF hb hB454
     refine C_exit <| x_then_exit <| x_then_exit <| x_block_exit ?_
     replace H := H.f1
     replace H := H.f1
     obtain rfl := Option.some.inj hB454
     obtain rfl := hO455 _ rfl
     refine x_A fun a hf => ⟨rfl, hf.sub trivial, H⟩
  ·rintro a wd498 ⟨rfl, hf, H⟩
   try dsimp only at hF
   refine XX.at hf <| x_then <| C_seq <| R_nd <| nq (Q_assign rfl) rfl rfl <| WL_nil <| x_then <| C_ret ?_
   replace H := H.f1
   replace H := H.f1
   obtain rfl := Option.some.inj hF
   exact fn_ret (l := [.tmp 4]) (vs := [.int .i64 (-1)]) rfl rfl rfl ⟨(-1), rfl, rfl, H⟩
theorem c_32 {N : Nat} {C : Cx} {w : World} {ρ : View} {hs : List Hl} {gV : Nat → Value} {b1 : Nat} {c2 : List Value} {v5 : Value} {x3 : (List Int)} {x6 : Int} (H : Hp C w ρ (Box b1 [v5, .int .i64 x6] :: Arr v5 1 c2 :: hs)) (gle : GErrs ρ 394 errIds gV) (gl18 : GTab ρ 18 .u8 tab_math_bits_deBruijn64tab) (r4 : rdL (eI .u64) ρ x3 c2) {r : (List Int)} (hF : F_marks_Marks_List N x3 x6 = some r) :
  Calls Tryz.prog 32 [.pointer (some ⟨b1, 0, none⟩)].toArray w (Rets (fun v w' => (∃ (v127 : Value) (c128 : (List Value)) (x129 : (List Int)), x129 = r ∧ v127 = v ∧ rdL (eI .i64) ρ x129 c128 ∧ Hp C w' ρ (Box b1 [v5, .int .i64 x6] :: Arr v5 1 c2 :: Arr v127 1 c128 :: hs)))) := by
 unfold F_marks_Marks_List at hF
 have h0 : Tryz.f32.body = some _ := rfl
 refine fn_calls' Tryz.func32 h0 (n := 17) rfl (by simp) <| C_seq <| R_nd <| nq (Q_assign rfl) rfl rfl <| WL_nil <| x_then <| C_seq <| R_nd <| nq (Q_assign rfl) rfl rfl <| WL_nil <| x_then <| C_seq <| C_seq <| R_nd ?_
 refine nq (Q_move rfl) rfl rfl ?_
 replace H := H.f1
 replace H := H.f1
 obtain ⟨q131, hq131, hF⟩ := bnd hF
 refine ne (E_call fn83 rfl (c_83 H gle gl18 r4 hq131)) rfl rfl ?_
 rintro _ wd134 ⟨x133, rfl, rfl, H⟩
 try dsimp only at hF
 refine nq (Q_assign rfl) rfl rfl <| WL_nil <| x_then ?_
 obtain ⟨o194, ho194, hF⟩ := bnd hF
 refine C_cutQ (fun a w' => ∃ (v190 : Value) (c191 : (List Value)) (x192 : (List Int)), x192 = o194 ∧ rdL (eI .i64) ρ x192 c191 ∧ Fr 17 a [(3, v190)] ∧ Hp C w' ρ (Box b1 [v5, .int .i64 x6] :: Arr v5 1 c2 :: Arr v190 1 c191 :: hs)) ?_ ?_
 ·refine C_block ?_
  have H := H.nilArr 1
  replace H := H.f2
  replace H := H.f2
  refine C_iter (f := fun s => F_marks_Marks_List_l0 N x3 x6 s.1 s.2) ho194 (fun s a w' => ∃ (v212 : Value) (c213 : (List Value)) (x214 : (List Int)) (x216 : Int), (x214, x216) = s ∧ rdL (eI .i64) ρ x214 c213 ∧ Fr 17 a [(0, .pointer (some ⟨b1, 0, none⟩)), (3, v212), (4, .int .i64 x216)] ∧ Hp C w' ρ (Box b1 [v5, .int .i64 x6] :: Arr v5 1 c2 :: Arr v212 1 c213 :: hs)) ?_ ?_
  ·exact fun a hf => ⟨(.slice none 0 0), [], [], x133, rfl, rdL.nil, hf.sub ⟨rfl, rfl, rfl, trivial⟩, H⟩
  ·rintro s o234 a wd237 ⟨v212, c213, x214, x216, rfl, r215, hf, H⟩ hB235 hO236
   replace hB235 : F_marks_Marks_List_l0 N x3 x6 x214 x216 = some o234 := hB235
   unfold F_marks_Marks_List_l0 at hB235
   refine CW.at hf <| C_seq <| C_seq <| R_nd <| nq (Q_move rfl) rfl rfl <| nq (Q_geq rfl rfl) rfl rfl <| WL_nil <| x_then ?_
   refine C_cond rfl (fun hb => ?_) (fun hb => ?_)
   ·replace hB235 := itT hb hB235
    refine C_skip <| x_then <| C_seq <| C_block <| R_nd <| nq (Q_move rfl) rfl rfl <| nq (Q_move rfl) rfl rfl <| ne (E_bslice (xs := [.tmp 13]) (vs := [.int .i64 x216]) H Tryz.underlying23 ty3 (by decide) (cs := [.int .i64 x216]) rfl (sz_cons rfl sz_nil) rfl (by simp) (by simp) rfl rfl) rfl rfl ?_
    rintro _ wd239 ⟨b238, rfl, H⟩
    obtain ⟨x240, hx240, hB235⟩ := bnd hB235
    obtain ⟨ha241a, ha241b⟩ := app_some hx240
    have r243 : rdL (eI .i64) ρ x240 (c213 ++ ([.int .i64 x216])) := ha241b ▸ rdL.app r215 (show rdL (eI .i64) ρ ([x216]) ([.int .i64 x216]) from ⟨([.int .i64 x216]), _, rfl, rfl, rdL.nil⟩)
    refine ne (E_append (k := 3) H rfl Tryz.underlying23 ty3 rfl (by decide) (by decide) rfl rfl (Src.ofArr (k := 0) H.ok rfl) (rdL.one (show rdL (eI .i64) ρ ([x216]) ([.int .i64 x216]) from ⟨([.int .i64 x216]), _, rfl, rfl, rdL.nil⟩)) (app_fit r215 (show rdL (eI .i64) ρ ([x216]) ([.int .i64 x216]) from ⟨([.int .i64 x216]), _, rfl, rfl, rdL.nil⟩) ha241a)) rfl rfl ?_
    rintro v242 wd245 ⟨H, hc244⟩
    dsimp only [List.set] at H
    refine nq (Q_assign rfl) rfl rfl <| WL_nil <| x_block <| x_then <| R_nd <| nq (Q_move rfl) rfl rfl <| nq (Q_move rfl) rfl rfl ?_
    replace H := H.f2
    replace H := H.f2
    obtain ⟨q246, hq246, hB235⟩ := bnd hB235
    refine ne (E_call fn83 rfl (c_83 H gle gl18 r4 hq246)) rfl rfl ?_
    rintro _ wd249 ⟨x248, rfl, rfl, H⟩
    try dsimp only at hB235
    refine nq (Q_assign rfl) rfl rfl <| WL_nil ?_
    replace H := H.f3
    replace H := H.f2
    replace H := H.f2
    replace H := H.drop 3 rfl
    dsimp only [List.eraseIdx] at H
    obtain rfl := Option.some.inj hB235
    refine x_A fun a hf => ⟨_, rfl, v242, (c213 ++ ([.int .i64 x216])), x240, x248, rfl, r243, hf.sub ⟨rfl, rfl, rfl, trivial⟩, H⟩
   ·replace hB235 := itF hb hB235
    refine C_exit <| x_then_exit <| x_then_exit <| x_block_exit ?_
    replace H := H.f2
    replace H := H.f2
    replace H := H.f2
    obtain rfl := Option.some.inj hB235
    obtain rfl := hO236 _ rfl
    refine x_A fun a hf => ⟨v212, c213, x214, rfl, r215, hf.sub ⟨rfl, trivial⟩, H⟩
 ·rintro a wd250 ⟨v190, c191, x192, rfl, r193, hf, H⟩
  try dsimp only at hF
  refine XX.at hf <| x_then <| C_seq <| R_nd <| nq (Q_move rfl) rfl rfl <| nq (Q_assign rfl) rfl rfl <| WL_nil <| x_then <| C_ret ?_
  replace H := H.f2
  replace H := H.f2
  replace H := H.f2
  obtain rfl := Option.some.inj hF
  exact fn_ret (l := [.tmp 2]) (vs := [v190]) rfl rfl rfl ⟨v190, c191, x192, rfl, rfl, r193, H⟩
theorem c_130 {N : Nat} {C : Cx} {w : World} {ρ : View} {hs : List Hl} {gV : Nat → Value} {v1 : Value} {v4 : Value} {x2 : (List ((List Int) × (Int × Int × Int × Int) × Int × Int))} {x5 : (List Int)} (H : Hp C w ρ (hs)) (gle : GErrs ρ 394 errIds gV) (r3 : RdSl ρ (eP (eL (eI .i64)) (eP (eP (eI .u64) (eP (eI .u64) (eP (eI .u64) (eI .u64)))) (eP (eI .i64) (eI .i64)))) v1 x2) (_r6 : RdSl ρ (eI .i64) v4 x5) {r : (List Int)} (hF : F_walk_walker_none N x2 x5 = some r) :
  Calls Tryz.prog 130 [.agg #[v1, v4]].toArray w (Rets (fun v w' => (∃ (b17 : Nat) (v18 : Value) (c19 : (List Value)) (x20 : (List Int)), x20 = r ∧ .pointer (some ⟨b17, 0, none⟩) = v ∧ rdL (eI .u64) ρ x20 c19 ∧ Hp C w' ρ (Box b17 [v18, .int .i64 (x2.length : Int)] :: Arr v18 1 c19 :: hs)))) := by
 unfold F_walk_walker_none at hF
 have h0 : Tryz.f130.body = some _ := rfl
 refine fn_calls' Tryz.func130 h0 (n := 16) rfl (by simp) <| C_seq <| R_nd <| ne (E_box H (vs := [v1, v4]) rfl rfl) rfl rfl ?_
 rintro _ wd23 ⟨b22, rfl, H⟩
 refine nq (Q_assign rfl) rfl rfl <| WL_nil <| x_then <| C_seq <| R_nd <| nq (v := .pointer (some ⟨b22, 0, none⟩)) (Q_fld Tryz.underlying135 rfl ty25 (by decide) rfl rfl) rfl rfl <| nq (v := .pointer (some ⟨b22, 0, none⟩)) (Q_fld Tryz.underlying25 rfl ty22 (by decide) rfl rfl) rfl rfl <| nq (v := v1) (Q_ldB (k := 0) (cs := [v1]) H.ok rfl ty22 rfl rfl rfl (fun _ => rfl) rfl) rfl rfl <| nq (Q_len Tryz.underlying22 rfl r3) rfl rfl ?_
 obtain ⟨q24, hq24, hF⟩ := bnd hF
 refine ne (E_call fn28 rfl (c_28 H gle   hq24)) rfl rfl ?_
 rintro _ wd31 (⟨rfl, rfl, H⟩ | ⟨b26, v27, c28, x29, rfl, rfl, r30, H⟩)
 ·try dsimp only at hF
  refine nq (Q_move rfl) rfl rfl <| nq (Q_extract rfl rfl) rfl rfl <| nq (Q_extract rfl rfl) rfl rfl <| nq (Q_assign rfl) rfl rfl <| nq (Q_assign rfl) rfl rfl <| WL_nil <| x_then <| C_seq <| C_seq <| R_nd <| nq (Q_move rfl) rfl rfl <| nq (v := .bool true) (Q_known (by decide) (Q_neqV Tryz.underlying53 gle rfl)) rfl rfl <| WL_nil <| x_then ?_
  refine C_cond rfl (fun _ => ?_) (fun h => nomatch h)
  refine C_seq <| R_nd <| nq (Q_assign rfl) rfl rfl <| WL_nil <| x_then <| C_ret <| x_then_ret ?_
  cases hF
 ·try dsimp only at hF
  refine nq (Q_move rfl) rfl rfl <| nq (Q_extract rfl rfl) rfl rfl <| nq (Q_extract rfl rfl) rfl rfl <| nq (Q_assign rfl) rfl rfl <| nq (Q_assign rfl) rfl rfl <| WL_nil <| x_then <| C_seq <| C_seq <| R_nd <| nq (Q_move rfl) rfl rfl <| nq (v := .bool false) (Q_known (by decide) (Q_neqV Tryz.underlying53 gle rfl)) rfl rfl <| WL_nil <| x_then ?_
  refine C_cond rfl (fun h => nomatch h) (fun _ => ?_)
  refine C_skip <| x_then <| C_seq <| R_nd <| nq (Q_move rfl) rfl rfl <| nq (Q_assign rfl) rfl rfl <| WL_nil <| x_then <| C_ret ?_
  replace H := H.f1
  replace H := H.f1
  replace H := H.drop 2 rfl
  dsimp only [List.eraseIdx] at H
  obtain rfl := Option.some.inj hF
  exact fn_ret (l := [.tmp 2]) (vs := [.pointer (some ⟨b26, 0, none⟩)]) rfl rfl rfl ⟨b26, v27, c28, x29, rfl, rfl, r30, H⟩
theorem c_82_1 {N : Nat} {C : Cx} {w : World} {ρ : View} {hs : List Hl} {gV : Nat → Value} {v1 : Value} {v4 : Value} {c7 : List Value} {v10 : Value} {x2 : (List ((List Int) × (Int × Int × Int × Int) × Int × Int))} {x5 : (List Int)} {x8 : (List Int)} (H : Hp C w ρ (Arr v10 1 c7 :: hs)) (gle : GErrs ρ 394 errIds gV) (r3 : RdSl ρ (eP (eL (eI .i64)) (eP (eP (eI .u64) (eP (eI .u64) (eP (eI .u64) (eI .u64)))) (eP (eI .i64) (eI .i64)))) v1 x2) (r6 : RdSl ρ (eI .i64) v4 x5) (r9 : rdL (eI .i64) ρ x8 c7) {r : ((List Int) × (List Int))} (hF : F_walk_walker_closed_1 N x2 x5 x8 = some r) :
  Calls Tryz.prog 82 [.agg #[v1, v4], v10].toArray w (Rets (fun v w' => (∃ (v986 : Value) (c987 : (List Value)) (b990 : Nat) (v991 : Value) (c992 : (List Value)) (x988 : (List Int)) (x993 : (List Int)), (x988, x993) = r ∧ .pointer (some ⟨b990, 0, none⟩) = v ∧ rdL (eI .i64) ρ x988 c987 ∧ rdL (eI .u64) ρ x993 c992 ∧ Hp C w' ρ (Arr v986 1 c987 :: Box b990 [v991, .int .i64 (x2.length : Int)] :: Arr v991 1 c992 :: hs)))) := by
 unfold F_walk_walker_closed_1 at hF
 have h0 : Tryz.f82.body = some _ := rfl
 refine fn_calls' Tryz.func82 h0 (n := 38) rfl (by simp) <| C_seq <| R_nd <| ne (E_box H (vs := [v1, v4]) rfl rfl) rfl rfl ?_
 rintro _ wd996 ⟨b995, rfl, H⟩
 refine nq (Q_assign rfl) rfl rfl <| WL_nil <| x_then <| C_seq <| R_nd <| nq (v := .agg #[v1, v4]) (Q_ldB (k := 0) (cs := [v1, v4]) H.ok rfl ty135 rfl rfl rfl (fun h => nomatch h) rfl) rfl rfl ?_
 obtain ⟨q997, hq997, hF⟩ := bnd hF
 refine ne (E_call fn130 rfl (c_130 H gle  r3 r6 hq997)) rfl rfl ?_
 rintro _ wd1004 ⟨b999, v1000, c1001, x1002, rfl, rfl, r1003, H⟩
 try dsimp only at hF
 refine nq (Q_assign rfl) rfl rfl <| WL_nil <| x_then <| C_seq <| R_nd <| nq (Q_move rfl) rfl rfl <| nq (Q_assign rfl) rfl rfl <| WL_nil <| x_then ?_
 obtain ⟨o1490, ho1490, hF⟩ := bnd hF
 refine C_cut (fun a w' => ∃ (v1483 : Value) (c1484 : (List Value)) (c1487 : (List Value)) (x1485 : (List Int)) (x1488 : (List Int)), (x1485, x1488) = o1490 ∧ rdL (eI .i64) ρ x1485 c1484 ∧ rdL (eI .u64) ρ x1488 c1487 ∧ Fr 38 a [(5, .pointer (some ⟨b999, 0, none⟩))] ∧ Hp C w' ρ (Arr v1483 1 c1484 :: Box b999 [v1000, .int .i64 (x2.length : Int)] :: Arr v1000 1 c1487 :: hs)) ?_ ?_
 ·refine C_block ?_
  replace H := H.f1
  replace H := H.f1
  replace H := H.f2
  replace H := H.f3
  refine C_iter (f := fun s => F_walk_walker_closed_1_l0 N x2 s.1 s.2) ho1490 (fun s a w' => ∃ (v1649 : Value) (c1650 : (List Value)) (c1653 : (List Value)) (x1651 : (List Int)) (x1654 : (List Int)), (x1651, x1654) = s ∧ rdL (eI .i64) ρ x1651 c1650 ∧ rdL (eI .u64) ρ x1654 c1653 ∧ Fr 38 a [(2, .pointer (some ⟨b995, 0, none⟩)), (5, .pointer (some ⟨b999, 0, none⟩)), (6, v1649)] ∧ Hp C w' ρ (Arr v1649 1 c1650 :: Box b995 [v1, v4] :: Box b999 [v1000, .int .i64 (x2.length : Int)] :: Arr v1000 1 c1653 :: hs)) ?_ ?_
  ·exact fun a hf => ⟨v10, c7, c1001, x8, x1002, rfl, r9, r1003, hf.sub ⟨rfl, rfl, rfl, trivial⟩, H⟩
  ·rintro s o1814 a wd1817 ⟨v1649, c1650, c1653, x1651, x1654, rfl, r1652, r1655, hf, H⟩ hB1815 hO1816
   replace hB1815 : F_walk_walker_closed_1_l0 N x2 x1651 x1654 = some o1814 := hB1815
   unfold F_walk_walker_closed_1_l0 at hB1815
   refine CW.at hf <| C_seq <| C_seq <| R_nd <| nq (Q_move rfl) rfl rfl <| nq (Q_lenA (k := 0) H.ok rfl r1652 (by decide) Tryz.underlying23 rfl) rfl rfl <| nq (Q_gtr rfl rfl) rfl rfl <| WL_nil <| x_then ?_
   refine C_cond rfl (fun hb => ?_) (fun hb => ?_)
   ·replace hB1815 := itT hb hB1815
    refine C_skip <| x_then ?_
    obtain ⟨o1896, ho1896, hB1815⟩ := bnd hB1815
    refine C_cutQ (fun a w' => ∃ (v1889 : Value) (c1890 : (List Value)) (c1893 : (List Value)) (x1891 : (List Int)) (x1894 : (List Int)), (x1891, x1894) = o1896 ∧ rdL (eI .i64) ρ x1891 c1890 ∧ rdL (eI .u64) ρ x1894 c1893 ∧ Fr 38 a [(2, .pointer (some ⟨b995, 0, none⟩)), (5, .pointer (some ⟨b999, 0, none⟩)), (6, v1889)] ∧ Hp C w' ρ (Arr v1889 1 c1890 :: Box b995 [v1, v4] :: Box b999 [v1000, .int .i64 (x2.length : Int)] :: Arr v1000 1 c1893 :: hs)) ?_ ?_
    ·refine C_block <| C_seq <| R_nd <| nq (Q_move rfl) rfl rfl <| nq (Q_move rfl) rfl rfl <| nq (Q_lenA (k := 0) H.ok rfl r1652 (by decide) Tryz.underlying23 rfl) rfl rfl <| nq (Q_sub rfl rfl) rfl rfl ?_
     obtain ⟨x1897, hx1897, ho1896⟩ := bnd ho1896
     obtain ⟨b1898, o1899, hi1903, hc1901, ha1902⟩ := arr_at (hs := [Arr v1649 1 c1650]) (k := 0) (by decide) (H.okS (by simp)) rfl r1652 hx1897
     refine nq (Q_idx hi1903 Tryz.underlying23 ty3 rfl rfl) rfl rfl <| nq (v := .int .i64 x1897) (Q_ld (show cellsAt _ _ _ [.int .i64 x1897] from (show _ = [_] from hc1901) ▸ (ha1902 _ (Ok.subS (by simp) H.ok))) ty3 rfl (fun _ => rfl) rfl rfl) rfl rfl <| nq (Q_assign rfl) rfl rfl <| WL_nil <| x_then <| C_seq <| R_nd <| nq (Q_move rfl) rfl rfl <| nq (Q_move rfl) rfl rfl <| nq (Q_lenA (k := 0) H.ok rfl r1652 (by decide) Tryz.underlying23 rfl) rfl rfl <| nq (Q_sub rfl rfl) rfl rfl ?_
     obtain ⟨x1904, hx1904, ho1896⟩ := bnd ho1896
     obtain ⟨v1906, c1909, H, r1907, hq1910⟩ := sliceW (P := Tryz.prog) (en := (eI .i64)) (k := 0) H rfl (by decide) r1652 hx1904
     dsimp only [List.set] at H
     refine nq (v := v1906) (hq1910 _ _ _ _ _ _ _ _ _ _ _ _ _ _ _ Tryz.underlying23 ty3 rfl rfl ⟨_, rfl⟩) rfl rfl <| nq (Q_assign rfl) rfl rfl <| WL_nil <| x_then <| C_seq <| R_nd <| nq (Q_move rfl) rfl rfl <| nq (Q_move rfl) rfl rfl ?_
     replace H := H.f3
     replace H := H.f3
     obtain ⟨q1911, hq1911, ho1896⟩ := bnd ho1896
     refine ne (E_call fn29 rfl (c_29 H gle  r1655 hq1911)) rfl rfl ?_
     rintro _ wd1917 ⟨c1913, x1914, x1915, rfl, rfl, r1916, H⟩
     try dsimp only at ho1896
     refine WL_nil <| x_then ?_
     obtain ⟨o1944, ho1944, ho1896⟩ := bnd ho1896
     refine C_cutQ (fun a w' => ∃ (v1940 : Value) (c1941 : (List Value)) (x1942 : (List Int)), x1942 = o1944 ∧ rdL (eI .i64) ρ x1942 c1941 ∧ Fr 38 a [(2, .pointer (some ⟨b995, 0, none⟩)), (5, .pointer (some ⟨b999, 0, none⟩)), (6, v1940)] ∧ Hp C w' ρ (Arr v1940 1 c1941 :: Box b995 [v1, v4] :: Box b999 [v1000, .int .i64 (x2.length : Int)] :: Arr v1000 1 c1913 :: hs)) ?_ ?_
     ·refine C_cond rfl (fun hb => ?_) (fun hb => ?_)
      ·replace ho1944 := itT hb ho1944
       refine R_nd <| nq (Q_move rfl) rfl rfl <| nq (v := .pointer (some ⟨b995, 0, none⟩)) (Q_fld Tryz.underlying135 rfl ty25 (by decide) rfl rfl) rfl rfl <| nq (v := .pointer (some ⟨b995, 0, none⟩)) (Q_fld Tryz.underlying25 rfl ty22 (by decide) rfl rfl) rfl rfl <| nq (v := v1) (Q_ldB (k := 3) (cs := [v1]) H.ok rfl ty22 rfl rfl rfl (fun _ => rfl) rfl) rfl rfl <| nq (Q_move rfl) rfl rfl ?_
       obtain ⟨x1945, hx1945, ho1944⟩ := bnd ho1944
       obtain ⟨b1946, o1947, c1948, hc1949, ha1950, hi1951⟩ := idxR r3 hx1945
       refine nq (Q_idx hi1951 Tryz.underlying22 ty41 rfl rfl) rfl rfl <| nq (v := .pointer (some ⟨b1946, o1947 + 0, none⟩)) (Q_fld Tryz.underlying41 rfl ty23 (by decide) rfl (Addr.add_none _ _ _)) rfl rfl ?_
       obtain ⟨c1952, hc1953, ha1954⟩ := fstR hc1949 ha1950
       obtain ⟨v1955, he1956, r1957⟩ := (id hc1953)
       refine nq (v := v1955) (Q_ld (show cellsAt _ _ _ [v1955] from he1956 ▸ (ha1954.up H.ok.view)) ty23 rfl (fun _ => rfl) rfl rfl) rfl rfl ?_
       obtain ⟨x1958, hx1958, ho1944⟩ := bnd ho1944
       obtain ⟨ha1959a, ha1959b⟩ := app_some hx1958
       obtain ⟨c1960, r1961, hs1962⟩ := Src.ofRd H.ok r1957
       have r1964 : rdL (eI .i64) ρ x1958 (c1909 ++ c1960) := ha1959b ▸ rdL.app r1907 r1961
       refine ne (E_append (k := 2) H rfl Tryz.underlying23 ty3 rfl (by decide) (by decide) rfl rfl hs1962 (rdL.one r1961) (app_fit r1907 r1961 ha1959a)) rfl rfl ?_
       rintro v1963 wd1966 ⟨H, hc1965⟩
       dsimp only [List.set] at H
       refine nq (Q_assign rfl) rfl rfl <| WL_nil ?_
       replace H := H.f1
       replace H := H.f1
       replace H := H.f3
       replace H := H.f3
       obtain rfl := Option.some.inj ho1944
       refine x_A fun a hf => ⟨v1963, (c1909 ++ c1960), x1958, rfl, r1964, hf.sub ⟨rfl, rfl, rfl, trivial⟩, H⟩
      ·replace ho1944 := itF hb ho1944
       refine C_skip ?_
       replace H := H.f1
       replace H := H.f1
       replace H := H.f3
       replace H := H.f3
       obtain rfl := Option.some.inj ho1944
       refine x_A fun a hf => ⟨v1906, c1909, x1904, rfl, r1907, hf.sub ⟨rfl, rfl, rfl, trivial⟩, H⟩
     ·rintro a wd1967 ⟨v1940, c1941, x1942, rfl, r1943, hf, H⟩
      try dsimp only at ho1896
      refine XX.at hf <| x_block ?_
      replace H := H.f3
      replace H := H.f3
      replace H := H.f3
      replace H := H.f3
      obtain rfl := Option.some.inj ho1896
      refine x_A fun a hf => ⟨v1940, c1941, c1913, x1942, x1914, rfl, r1943, r1916, hf.sub ⟨rfl, rfl, rfl, trivial⟩, H⟩
    ·rintro a wd1968 ⟨v1889, c1890, c1893, x1891, x1894, rfl, r1892, r1895, hf, H⟩
     try dsimp only at hB1815
     refine XX.at hf ?_
     replace H := H.f3
     replace H := H.f3
     replace H := H.f3
     replace H := H.f3
     obtain rfl := Option.some.inj hB1815
     refine x_A fun a hf => ⟨_, rfl, v1889, c1890, c1893, x1891, x1894, rfl, r1892, r1895, hf.sub ⟨rfl, rfl, rfl, trivial⟩, H⟩
   ·replace hB1815 := itF hb hB1815
    refine C_exit <| x_then_exit <| x_then_exit <| x_block_exit ?_
    replace H := H.f3
    replace H := H.f3
    replace H := H.f2
    replace H := H.drop 3 rfl
    dsimp only [List.eraseIdx] at H
    obtain rfl := Option.some.inj hB1815
    obtain rfl := hO1816 _ rfl
    refine x_A fun a hf => ⟨v1649, c1650, c1653, x1651, x1654, rfl, r1652, r1655, hf.sub ⟨rfl, trivial⟩, H⟩
 ·rintro a wd1969 ⟨v1483, c1484, c1487, x1485, x1488, rfl, r1486, r1489, hf, H⟩
  try dsimp only at hF
  refine CW.at hf <| C_seq <| R_nd <| nq (Q_move rfl) rfl rfl <| nq (Q_assign rfl) rfl rfl <| WL_nil <| x_then <| C_ret ?_
  replace H := H.f2
  replace H := H.f2
  replace H := H.f2
  obtain rfl := Option.some.inj hF
  exact fn_ret (l := [.tmp 4]) (vs := [.pointer (some ⟨b999, 0, none⟩)]) rfl rfl rfl ⟨v1483, c1484, b999, v1000, c1487, x1485, x1488, rfl, rfl, r1486, r1489, H⟩
theorem c_30 {N : Nat} {C : Cx} {w : World} {ρ : View} {hs : List Hl} {gV : Nat → Value} {v1 : Value} {v4 : Value} {b7 : Nat} {c8 : List Value} {v11 : Value} {x2 : (List ((List Int) × (Int × Int × Int × Int) × Int × Int))} {x5 : (List Int)} {x9 : (List Int)} {x12 : Int} (H : Hp C w ρ (Box b7 [v11, .int .i64 x12] :: Arr v11 1 c8 :: hs)) (gle : GErrs ρ 394 errIds gV) (gl18 : GTab ρ 18 .u8 tab_math_bits_deBruijn64tab) (r3 : RdSl ρ (eP (eL (eI .i64)) (eP (eP (eI .u64) (eP (eI .u64) (eP (eI .u64) (eI .u64)))) (eP (eI .i64) (eI .i64)))) v1 x2) (r6 : RdSl ρ (eI .i64) v4 x5) (r10 : rdL (eI .u64) ρ x9 c8) {r : (Unit ⊕ (List Int))} (hF : F_walk_Closed N x2 x5 x9 x12 = some r) :
  Calls Tryz.prog 30 [.agg #[v1, v4], .pointer (some ⟨b7, 0, none⟩)].toArray w (Rets (fun v w' => (.inl () = r ∧ .pointer none = v ∧ Hp C w' ρ (Box b7 [v11, .int .i64 x12] :: Arr v11 1 c8 :: hs)) ∨ (∃ (b466 : Nat) (v467 : Value) (c468 : (List Value)) (x469 : (List Int)), .inr x469 = r ∧ .pointer (some ⟨b466, 0, none⟩) = v ∧ rdL (eI .u64) ρ x469 c468 ∧ Hp C w' ρ (Box b7 [v11, .int .i64 x12] :: Arr v11 1 c8 :: Box b466 [v467, .int .i64 (x2.length : Int)] :: Arr v467 1 c468 :: hs)))) := by
 unfold F_walk_Closed at hF
 have h0 : Tryz.f30.body = some _ := rfl
 refine fn_calls' Tryz.func30 h0 (n := 32) rfl (by simp) <| C_seq <| R_nd <| ne (E_box H (vs := [v1, v4]) rfl rfl) rfl rfl ?_
 rintro _ wd472 ⟨b471, rfl, H⟩
 refine nq (Q_assign rfl) rfl rfl <| WL_nil <| x_then <| C_seq <| C_seq <| R_nd <| nq (v := .agg #[v1, v4]) (Q_ldB (k := 0) (cs := [v1, v4]) H.ok rfl ty25 rfl rfl rfl (fun h => nomatch h) rfl) rfl rfl ?_
 obtain ⟨q473, hq473, hF⟩ := bnd hF
 refine ne (E_call fn18 rfl (c_18 H gle  r3 r6 hq473)) rfl rfl ?_
 rintro _ wd476 ⟨x475, rfl, rfl, H⟩
 try dsimp only at hF
 refine nq (Q_not rfl) rfl rfl <| WL_nil <| x_then ?_
 refine C_cond rfl (fun hb => ?_) (fun hb => ?_)
 ·replace hF := itT hb hF
  refine C_seq <| R_nd <| nq (Q_assign rfl) rfl rfl <| WL_nil <| x_then <| C_ret <| x_then_ret ?_
  replace H := H.f2
  replace H := H.f2
  replace H := H.drop 2 rfl
  dsimp only [List.eraseIdx] at H
  obtain rfl := Option.some.inj hF
  exact fn_ret (l := [.tmp 4]) (vs := [.pointer none]) rfl rfl rfl (.inl ⟨rfl, rfl, H⟩)
 ·replace hF := itF hb hF
  refine C_skip <| x_then <| C_seq <| R_nd <| nq (Q_assign rfl) rfl rfl <| WL_nil <| x_then <| C_seq <| C_seq <| R_nd <| nq (Q_move rfl) rfl rfl ?_
  replace H := H.f2
  replace H := H.f2
  obtain ⟨q477, hq477, hF⟩ := bnd hF
  refine ne (E_call fn32 rfl (c_32 H gle gl18 r10 hq477)) rfl rfl ?_
  rintro _ wd483 ⟨v479, c480, x481, rfl, rfl, r482, H⟩
  try dsimp only at hF
  refine nq (Q_lenA (k := 2) H.ok rfl r482 (by decide) Tryz.underlying23 rfl) rfl rfl <| nq (Q_move rfl) rfl rfl <| WL_nil <| x_then ?_
  obtain ⟨o699, ho699, hF⟩ := bnd hF
  refine C_cutQ (fun a w' => ∃ (v695 : Value) (c696 : (List Value)) (x697 : (List Int)), x697 = o699 ∧ rdL (eI .i64) ρ x697 c696 ∧ Fr 32 a [(2, .pointer (some ⟨b471, 0, none⟩)), (5, v695)] ∧ Hp C w' ρ (Box b7 [v11, .int .i64 x12] :: Arr v11 1 c8 :: Box b471 [v1, v4] :: Arr v695 1 c696 :: hs)) ?_ ?_
  ·refine C_block ?_
   have H := H.nilArr 1
   replace H := H.f4
   replace H := H.f4
   replace H := H.f4
   replace H := H.f4
   refine C_iter (f := fun s => F_walk_Closed_l0 N x2 x481 s.1 s.2) ho699 (fun s a w' => ∃ (v770 : Value) (c771 : (List Value)) (x769 : Int) (x772 : (List Int)), (x769, x772) = s ∧ rdL (eI .i64) ρ x772 c771 ∧ Fr 32 a [(2, .pointer (some ⟨b471, 0, none⟩)), (5, v770), (12, v479), (13, .int .i64 (x481.length : Int)), (14, .int .i64 x769)] ∧ Hp C w' ρ (Box b7 [v11, .int .i64 x12] :: Arr v11 1 c8 :: Arr v479 1 c480 :: Box b471 [v1, v4] :: Arr v770 1 c771 :: hs)) ?_ ?_
   ·exact fun a hf => ⟨(.slice none 0 0), [], 0, [], rfl, rdL.nil, hf.sub ⟨rfl, rfl, rfl, rfl, rfl, trivial⟩, H⟩
   ·rintro s o843 a wd846 ⟨v770, c771, x769, x772, rfl, r773, hf, H⟩ hB844 hO845
    replace hB844 : F_walk_Closed_l0 N x2 x481 x769 x772 = some o843 := hB844
    unfold F_walk_Closed_l0 at hB844
    refine CW.at hf <| C_seq <| R_nd <| nq (Q_lss rfl rfl) rfl rfl <| WL_nil <| x_then <| C_seq ?_
    refine C_cond rfl (fun hb => ?_) (fun hb => ?_)
    ·replace hB844 := itT hb hB844
     refine C_skip <| x_then ?_
     obtain ⟨o880, ho880, hB844⟩ := bnd hB844
     refine C_cut (fun a w' => ∃ (v876 : Value) (c877 : (List Value)) (x878 : (List Int)), x878 = o880 ∧ rdL (eI .i64) ρ x878 c877 ∧ Fr 32 a [(2, .pointer (some ⟨b471, 0, none⟩)), (5, v876), (12, v479), (13, .int .i64 (x481.length : Int)), (14, .int .i64 x769)] ∧ Hp C w' ρ (Box b7 [v11, .int .i64 x12] :: Arr v11 1 c8 :: Arr v479 1 c480 :: Box b471 [v1, v4] :: Arr v876 1 c877 :: hs)) ?_ ?_
     ·refine C_block <| C_seq <| R_nd ?_
      obtain ⟨x881, hx881, ho880⟩ := bnd ho880
      obtain ⟨b882, o883, hi887, hc885, ha886⟩ := arr_at (hs := [Arr v479 1 c480]) (k := 0) (by decide) (H.okS (by simp)) rfl r482 hx881
      refine nq (Q_idx hi887 Tryz.underlying23 ty3 rfl rfl) rfl rfl <| nq (v := .int .i64 x881) (Q_ld (show cellsAt _ _ _ [.int .i64 x881] from (show _ = [_] from hc885) ▸ (ha886 _ (Ok.subS (by simp) H.ok))) ty3 rfl (fun _ => rfl) rfl rfl) rfl rfl <| nq (Q_assign rfl) rfl rfl <| WL_nil <| x_then <| C_seq <| R_nd <| nq (Q_move rfl) rfl rfl <| nq (v := .pointer (some ⟨b471, 0, none⟩)) (Q_fld Tryz.underlying25 rfl ty22 (by decide) rfl rfl) rfl rfl <| nq (v := v1) (Q_ldB (k := 3) (cs := [v1]) H.ok rfl ty22 rfl rfl rfl (fun _ => rfl) rfl) rfl rfl <| nq (Q_len Tryz.underlying22 rfl r3) rfl rfl <| nq (Q_lss rfl rfl) rfl rfl <| WL_nil <| x_then ?_
      obtain ⟨o900, ho900, ho880⟩ := bnd ho880
      refine C_cutQ (fun a w' => ∃ (v896 : Value) (c897 : (List Value)) (x898 : (List Int)), x898 = o900 ∧ rdL (eI .i64) ρ x898 c897 ∧ Fr 32 a [(2, .pointer (some ⟨b471, 0, none⟩)), (5, v896), (12, v479), (13, .int .i64 (x481.length : Int)), (14, .int .i64 x769)] ∧ Hp C w' ρ (Box b7 [v11, .int .i64 x12] :: Arr v11 1 c8 :: Arr v479 1 c480 :: Box b471 [v1, v4] :: Arr v896 1 c897 :: hs)) ?_ ?_
      ·refine C_cond rfl (fun hb => ?_) (fun hb => ?_)
       ·replace ho900 := itT hb ho900
        refine R_nd <| nq (Q_move rfl) rfl rfl <| nq (Q_move rfl) rfl rfl <| ne (E_bslice (xs := [.tmp 24]) (vs := [.int .i64 x881]) H Tryz.underlying23 ty3 (by decide) (cs := [.int .i64 x881]) rfl (sz_cons rfl sz_nil) rfl (by simp) (by simp) rfl rfl) rfl rfl ?_
        rintro _ wd902 ⟨b901, rfl, H⟩
        obtain ⟨x903, hx903, ho900⟩ := bnd ho900
        obtain ⟨ha904a, ha904b⟩ := app_some hx903
        have r906 : rdL (eI .i64) ρ x903 (c771 ++ ([.int .i64 x881])) := ha904b ▸ rdL.app r773 (show rdL (eI .i64) ρ ([x881]) ([.int .i64 x881]) from ⟨([.int .i64 x881]), _, rfl, rfl, rdL.nil⟩)
        refine ne (E_append (k := 5) H rfl Tryz.underlying23 ty3 rfl (by decide) (by decide) rfl rfl (Src.ofArr (k := 0) H.ok rfl) (rdL.one (show rdL (eI .i64) ρ ([x881]) ([.int .i64 x881]) from ⟨([.int .i64 x881]), _, rfl, rfl, rdL.nil⟩)) (app_fit r773 (show rdL (eI .i64) ρ ([x881]) ([.int .i64 x881]) from ⟨([.int .i64 x881]), _, rfl, rfl, rdL.nil⟩) ha904a)) rfl rfl ?_
        rintro v905 wd908 ⟨H, hc907⟩
        dsimp only [List.set] at H
        refine nq (Q_assign rfl) rfl rfl <| WL_nil ?_
        replace H := H.f5
        replace H := H.f5
        replace H := H.f5
        replace H := H.f5
        replace H := H.f5
        replace H := H.drop 5 rfl
        dsimp only [List.eraseIdx] at H
        obtain rfl := Option.some.inj ho900
        refine x_A fun a hf => ⟨v905, (c771 ++ ([.int .i64 x881])), x903, rfl, r906, hf.sub ⟨rfl, rfl, rfl, rfl, rfl, trivial⟩, H⟩
       ·replace ho900 := itF hb ho900
        refine C_skip ?_
        replace H := H.f4
        replace H := H.f4
        replace H := H.f4
        replace H := H.f4
        replace H := H.f4
        obtain rfl := Option.some.inj ho900
        refine x_A fun a hf => ⟨v770, c771, x772, rfl, r773, hf.sub ⟨rfl, rfl, rfl, rfl, rfl, trivial⟩, H⟩
      ·rintro a wd909 ⟨v896, c897, x898, rfl, r899, hf, H⟩
       try dsimp only at ho880
       refine XX.at hf <| x_block ?_
       replace H := H.f4
       replace H := H.f4
       replace H := H.f4
       replace H := H.f4
       replace H := H.f4
       obtain rfl := Option.some.inj ho880
       refine x_A fun a hf => ⟨v896, c897, x898, rfl, r899, hf.sub ⟨rfl, rfl, rfl, rfl, rfl, trivial⟩, H⟩
     ·rintro a wd910 ⟨v876, c877, x878, rfl, r879, hf, H⟩
      try dsimp only at hB844
      refine CW.at hf <| R_nd <| nq (Q_add rfl rfl) rfl rfl <| nq (Q_move rfl) rfl rfl <| WL_nil ?_
      replace H := H.f4
      replace H := H.f4
      replace H := H.f4
      replace H := H.f4
      replace H := H.f4
      obtain rfl := Option.some.inj hB844
      refine x_A fun a hf => ⟨_, rfl, v876, c877, w64 (x769 + 1), x878, rfl, r879, hf.sub ⟨rfl, rfl, rfl, rfl, rfl, trivial⟩, H⟩
    ·replace hB844 := itF hb hB844
     refine C_exit <| x_then_exit <| x_then_exit <| x_block_exit ?_
     replace H := H.f4
     replace H := H.f4
     replace H := H.f3
     replace H := H.f3
     replace H := H.drop 4 rfl
     dsimp only [List.eraseIdx] at H
     obtain rfl := Option.some.inj hB844
     obtain rfl := hO845 _ rfl
     refine x_A fun a hf => ⟨v770, c771, x772, rfl, r773, hf.sub ⟨rfl, rfl, trivial⟩, H⟩
  ·rintro a wd911 ⟨v695, c696, x697, rfl, r698, hf, H⟩
   try dsimp only at hF
   refine XX.at hf <| x_then <| C_seq <| R_nd <| nq (v := .agg #[v1, v4]) (Q_ldB (k := 2) (cs := [v1, v4]) H.ok rfl ty25 rfl rfl rfl (fun h => nomatch h) rfl) rfl rfl <| nq (v := .agg #[v1, v4]) (Q_buildS st135.choose_spec (ps := [(0, [v1, v4])]) rfl ⟨rfl, rfl, by simp, trivial⟩ rfl) rfl rfl <| nq (Q_move rfl) rfl rfl ?_
   replace H := H.f3
   obtain ⟨q912, hq912, hF⟩ := bnd hF
   refine ne (E_call fn82 rfl (c_82_1 H gle  r3 r6 r698 hq912)) rfl rfl ?_
   rintro _ wd923 ⟨v914, c915, b916, v917, c918, x919, x920, rfl, rfl, r921, r922, H⟩
   try dsimp only at hF
   refine nq (Q_assign rfl) rfl rfl <| WL_nil <| x_then <| C_ret ?_
   replace H := H.f2
   replace H := H.f2
   replace H := H.f4
   replace H := H.f4
   replace H := H.drop 4 rfl
   dsimp only [List.eraseIdx] at H
   replace H := H.drop 4 rfl
   dsimp only [List.eraseIdx] at H
   obtain rfl := Option.some.inj hF
   exact fn_ret (l := [.tmp 4]) (vs := [.pointer (some ⟨b916, 0, none⟩)]) rfl rfl rfl (.inr ⟨b916, v917, c918, x920, rfl, rfl, r922, H⟩)
theorem c_87_1 {N : Nat} {C : Cx} {w : World} {ρ : View} {hs : List Hl} {gV : Nat → Value} (H : Hp C w ρ (hs)) (_gle : GErrs ρ 394 errIds gV) {r : Unit} (hF : F_marks_Marks_Size_1 N = some r) :
  Calls Tryz.prog 87 [.pointer none].toArray w (Rets (fun v w' => (() = r ∧ .int .i64 0 = v ∧ Hp C w' ρ (hs)))) := by
 unfold F_marks_Marks_Size_1 at hF
 have h0 : Tryz.f87.body = some _ := rfl
 refine fn_calls' Tryz.func87 h0 (n := 9) rfl (by simp) <| C_seq <| R_nd <| nq (Q_assign rfl) rfl rfl <| WL_nil <| x_then <| C_seq <| C_seq <| R_nd <| nq (Q_move rfl) rfl rfl <| nq (v := .bool true) (Q_eqlP (o := none) Tryz.underlying51 rfl) rfl rfl <| WL_nil <| x_then ?_
 refine C_cond rfl (fun _ => ?_) (fun h => nomatch h)
 refine C_seq <| R_nd <| nq (Q_assign rfl) rfl rfl <| WL_nil <| x_then <| C_ret <| x_then_ret ?_
 obtain rfl := Option.some.inj hF
 exact fn_ret (l := [.tmp 2]) (vs := [.int .i64 0]) rfl rfl rfl ⟨rfl, rfl, H⟩
theorem c_131_1 {N : Nat} {C : Cx} {w : World} {ρ : View} {hs : List Hl} {gV : Nat → Value} (H : Hp C w ρ (hs)) (_gle : GErrs ρ 394 errIds gV) {r : Unit} (hF : F_marks_Marks_own_1 N = some r) :
  Calls Tryz.prog 131 [.pointer none].toArray w (Rets (fun v w' => (() = r ∧ (.slice none 0 0) = v ∧ Hp C w' ρ (Arr (.slice none 0 0) 1 ([]) :: hs)))) := by
 unfold F_marks_Marks_own_1 at hF
 have h0 : Tryz.f131.body = some _ := rfl
 refine fn_calls' Tryz.func131 h0 (n := 9) rfl (by simp) <| C_seq <| R_nd <| nq (Q_assign rfl) rfl rfl <| WL_nil <| x_then <| C_seq <| C_seq <| R_nd <| nq (Q_move rfl) rfl rfl <| nq (v := .bool true) (Q_eqlP (o := none) Tryz.underlying51 rfl) rfl rfl <| WL_nil <| x_then ?_
 refine C_cond rfl (fun _ => ?_) (fun h => nomatch h)
 refine C_seq <| R_nd <| nq (Q_assign rfl) rfl rfl <| WL_nil <| x_then <| C_ret <| x_then_ret ?_
 have H := H.nilArr 1
 obtain rfl := Option.some.inj hF
 exact fn_ret (l := [.tmp 2]) (vs := [(.slice none 0 0)]) rfl rfl rfl ⟨rfl, rfl, H⟩
theorem c_83_1 {N : Nat} {C : Cx} {w : World} {ρ : View} {hs : List Hl} {gV : Nat → Value} {x1 : Int} (H : Hp C w ρ (hs)) (gle : GErrs ρ 394 errIds gV) {r : Unit} (hF : F_marks_Marks_After_1 N x1 = some r) :
  Calls Tryz.prog 83 [.pointer none, .int .i64 x1].toArray w (Rets (fun v w' => (() = r ∧ .int .i64 (-1) = v ∧ Hp C w' ρ (hs)))) := by
 unfold F_marks_Marks_After_1 at hF
 have h0 : Tryz.f83.body = some _ := rfl
 refine fn_calls' Tryz.func83 h0 (n := 48) rfl (by simp) <| C_seq <| R_nd <| nq (Q_assign rfl) rfl rfl <| WL_nil <| x_then <| C_seq <| C_seq <| R_nd <| nq (Q_move rfl) rfl rfl <| nq (Q_move rfl) rfl rfl ?_
 obtain ⟨q35, hq35, hF⟩ := bnd hF
 refine ne (E_call fn87 rfl (c_87_1 H gle   hq35)) rfl rfl ?_
 rintro _ wd37 ⟨rfl, rfl, H⟩
 try dsimp only at hF
 refine nq (Q_geq rfl rfl) rfl rfl <| WL_nil <| x_then ?_
 refine C_cond rfl (fun hb => ?_) (fun hb => ?_)
 ·replace hF := itT hb hF
  refine C_seq <| R_nd <| nq (Q_assign rfl) rfl rfl <| WL_nil <| x_then <| C_ret <| x_then_ret ?_
  obtain rfl := Option.some.inj hF
  exact fn_ret (l := [.tmp 4]) (vs := [.int .i64 (-1)]) rfl rfl rfl ⟨rfl, rfl, H⟩
 ·replace hF := itF hb hF
  refine C_skip <| x_then <| C_seq <| R_nd <| nq (Q_move rfl) rfl rfl <| nq (v := .int .i64 (imax x1 (-1))) (Q_max rfl rfl) rfl rfl <| nq (Q_add rfl rfl) rfl rfl <| nq (Q_assign rfl) rfl rfl <| WL_nil <| x_then <| C_seq <| C_seq <| R_nd <| nq (Q_move rfl) rfl rfl ?_
  refine nq (Q_quo rfl rfl (by decide)) rfl rfl <| nq (Q_assign rfl) rfl rfl <| WL_nil <| x_then ?_
  obtain ⟨o52, ho52, hF⟩ := bnd hF
  refine C_cutQ (fun a w' => Fr 48 a [] ∧ Hp C w' ρ (hs)) ?_ ?_
  ·refine C_block ?_
   refine C_iter (f := fun s => F_marks_Marks_After_1_l0 N s.1 s.2) ho52 (fun s a w' => ∃ (x53 : Int) (x54 : Int), (x53, x54) = s ∧ Fr 48 a [(0, .pointer none), (1, .int .i64 x53), (5, .int .i64 x54)] ∧ Hp C w' ρ (hs)) ?_ ?_
   ·exact fun a hf => ⟨w64 ((imax x1 (-1)) + 1), w64 ((w64 ((imax x1 (-1)) + 1)).tdiv 64), rfl, hf.sub ⟨rfl, rfl, rfl, trivial⟩, H⟩
   ·rintro s o60 a wd63 ⟨x53, x54, rfl, hf, H⟩ hB61 hO62
    replace hB61 : F_marks_Marks_After_1_l0 N x53 x54 = some o60 := hB61
    unfold F_marks_Marks_After_1_l0 at hB61
    refine CW.at hf <| C_seq <| C_seq <| R_nd <| nq (Q_move rfl) rfl rfl <| nq (Q_move rfl) rfl rfl ?_
    obtain ⟨q64, hq64, hB61⟩ := bnd hB61
    refine ne (E_call fn131 rfl (c_131_1 H gle   hq64)) rfl rfl ?_
    rintro _ wd66 ⟨rfl, rfl, H⟩
    try dsimp only at hB61
    refine nq (Q_lenA (en := (eI .u64)) (k := 0) H.ok rfl rdL.nil (by decide) Tryz.underlying137 rfl) rfl rfl <| nq (Q_lss rfl rfl) rfl rfl <| WL_nil <| x_then ?_
    refine C_cond rfl (fun hb => ?_) (fun hb => ?_)
    ·replace hB61 := itT hb hB61
     refine C_skip <| x_then <| C_seq <| C_block <| C_seq <| R_nd <| nq (Q_move rfl) rfl rfl ?_
     cases hB61
    ·replace hB61 := itF hb hB61
     refine C_exit <| x_then_exit <| x_then_exit <| x_block_exit ?_
     replace H := H.drop 0 rfl
     dsimp only [List.eraseIdx] at H
     obtain rfl := Option.some.inj hB61
     obtain rfl := hO62 _ rfl
     refine x_A fun a hf => ⟨hf.sub trivial, H⟩
  ·rintro a wd67 ⟨hf, H⟩
   try dsimp only at hF
   refine XX.at hf <| x_then <| C_seq <| R_nd <| nq (Q_assign rfl) rfl rfl <| WL_nil <| x_then <| C_ret ?_
   obtain rfl := Option.some.inj hF
   exact fn_ret (l := [.tmp 4]) (vs := [.int .i64 (-1)]) rfl rfl rfl ⟨rfl, rfl, H⟩
theorem c_32_1 {N : Nat} {C : Cx} {w : World} {ρ : View} {hs : List Hl} {gV : Nat → Value} (H : Hp C w ρ (hs)) (gle : GErrs ρ 394 errIds gV) {r : Unit} (hF : F_marks_Marks_List_1 N = some r) :
  Calls Tryz.prog 32 [.pointer none].toArray w (Rets (fun v w' => (() = r ∧ (.slice none 0 0) = v ∧ Hp C w' ρ (Arr (.slice none 0 0) 1 ([]) :: hs)))) := by
 unfold F_marks_Marks_List_1 at hF
 have h0 : Tryz.f32.body = some _ := rfl
 refine fn_calls' Tryz.func32 h0 (n := 17) rfl (by simp) <| C_seq <| R_nd <| nq (Q_assign rfl) rfl rfl <| WL_nil <| x_then <| C_seq <| R_nd <| nq (Q_assign rfl) rfl rfl <| WL_nil <| x_then <| C_seq <| C_seq <| R_nd ?_
 refine nq (Q_move rfl) rfl rfl ?_
 obtain ⟨q14, hq14, hF⟩ := bnd hF
 refine ne (E_call fn83 rfl (c_83_1 H gle   hq14)) rfl rfl ?_
 rintro _ wd16 ⟨rfl, rfl, H⟩
 try dsimp only at hF
 refine nq (Q_assign rfl) rfl rfl <| WL_nil <| x_then ?_
 obtain ⟨o21, ho21, hF⟩ := bnd hF
 refine C_cutQ (fun a w' => Fr 17 a [(3, .slice none 0 0)] ∧ Hp C w' ρ (hs)) ?_ ?_
 ·refine C_block ?_
  refine C_iter (f := fun s => F_marks_Marks_List_1_l0 N) ho21 (fun s a w' => () = s ∧ Fr 17 a [(0, .pointer none), (3, .slice none 0 0), (4, .int .i64 (-1))] ∧ Hp C w' ρ (hs)) ?_ ?_
  ·exact fun a hf => ⟨rfl, hf.sub ⟨rfl, rfl, rfl, trivial⟩, H⟩
  ·rintro s o22 a wd25 ⟨rfl, hf, H⟩ hB23 hO24
   replace hB23 : F_marks_Marks_List_1_l0 N = some o22 := hB23
   unfold F_marks_Marks_List_1_l0 at hB23
   refine CW.at hf <| C_seq <| C_seq <| R_nd <| nq (Q_move rfl) rfl rfl <| nq (v := .bool false) (Q_known (by decide) (Q_geq rfl rfl)) rfl rfl <| WL_nil <| x_then ?_
   refine C_cond rfl (fun h => nomatch h) (fun _ => ?_)
   refine C_exit <| x_then_exit <| x_then_exit <| x_block_exit ?_
   obtain rfl := Option.some.inj hB23
   obtain rfl := hO24 _ rfl
   refine x_A fun a hf => ⟨hf.sub ⟨rfl, trivial⟩, H⟩
 ·rintro a wd26 ⟨hf, H⟩
  try dsimp only at hF
  refine XX.at hf <| x_then <| C_seq <| R_nd <| nq (Q_move rfl) rfl rfl <| nq (Q_assign rfl) rfl rfl <| WL_nil <| x_then <| C_ret ?_
  have H := H.nilArr 1
  obtain rfl := Option.some.inj hF
  exact fn_ret (l := [.tmp 2]) (vs := [(.slice none 0 0)]) rfl rfl rfl ⟨rfl, rfl, H⟩
theorem c_30_1 {N : Nat} {C : Cx} {w : World} {ρ : View} {hs : List Hl} {gV : Nat → Value} {v1 : Value} {v4 : Value} {x2 : (List ((List Int) × (Int × Int × Int × Int) × Int × Int))} {x5 : (List Int)} (H : Hp C w ρ (hs)) (gle : GErrs ρ 394 errIds gV) (r3 : RdSl ρ (eP (eL (eI .i64)) (eP (eP (eI .u64) (eP (eI .u64) (eP (eI .u64) (eI .u64)))) (eP (eI .i64) (eI .i64)))) v1 x2) (r6 : RdSl ρ (eI .i64) v4 x5) {r : (Unit ⊕ (List Int))} (hF : F_walk_Closed_1 N x2 x5 = some r) :
  Calls Tryz.prog 30 [.agg #[v1, v4], .pointer none].toArray w (Rets (fun v w' => (.inl () = r ∧ .pointer none = v ∧ Hp C w' ρ (hs)) ∨ (∃ (b456 : Nat) (v457 : Value) (c458 : (List Value)) (x459 : (List Int)), .inr x459 = r ∧ .pointer (some ⟨b456, 0, none⟩) = v ∧ rdL (eI .u64) ρ x459 c458 ∧ Hp C w' ρ (Box b456 [v457, .int .i64 (x2.length : Int)] :: Arr v457 1 c458 :: hs)))) := by
 unfold F_walk_Closed_1 at hF
 have h0 : Tryz.f30.body = some _ := rfl
 refine fn_calls' Tryz.func30 h0 (n := 32) rfl (by simp) <| C_seq <| R_nd <| ne (E_box H (vs := [v1, v4]) rfl rfl) rfl rfl ?_
 rintro _ wd462 ⟨b461, rfl, H⟩
 refine nq (Q_assign rfl) rfl rfl <| WL_nil <| x_then <| C_seq <| C_seq <| R_nd <| nq (v := .agg #[v1, v4]) (Q_ldB (k := 0) (cs := [v1, v4]) H.ok rfl ty25 rfl rfl rfl (fun h => nomatch h) rfl) rfl rfl ?_
 obtain ⟨q463, hq463, hF⟩ := bnd hF
 refine ne (E_call fn18 rfl (c_18 H gle  r3 r6 hq463)) rfl rfl ?_
 rintro _ wd466 ⟨x465, rfl, rfl, H⟩
 try dsimp only at hF
 refine nq (Q_not rfl) rfl rfl <| WL_nil <| x_then ?_
 refine C_cond rfl (fun hb => ?_) (fun hb => ?_)
 ·replace hF := itT hb hF
  refine C_seq <| R_nd <| nq (Q_assign rfl) rfl rfl <| WL_nil <| x_then <| C_ret <| x_then_ret ?_
  replace H := H.drop 0 rfl
  dsimp only [List.eraseIdx] at H
  obtain rfl := Option.some.inj hF
  exact fn_ret (l := [.tmp 4]) (vs := [.pointer none]) rfl rfl rfl (.inl ⟨rfl, rfl, H⟩)
 ·replace hF := itF hb hF
  refine C_skip <| x_then <| C_seq <| R_nd <| nq (Q_assign rfl) rfl rfl <| WL_nil <| x_then <| C_seq <| C_seq <| R_nd <| nq (Q_move rfl) rfl rfl ?_
  obtain ⟨q467, hq467, hF⟩ := bnd hF
  refine ne (E_call fn32 rfl (c_32_1 H gle   hq467)) rfl rfl ?_
  rintro _ wd469 ⟨rfl, rfl, H⟩
  try dsimp only at hF
  refine nq (Q_lenA (en := (eI .i64)) (k := 0) H.ok rfl rdL.nil (by decide) Tryz.underlying23 rfl) rfl rfl <| nq (Q_move rfl) rfl rfl <| WL_nil <| x_then ?_
  obtain ⟨o685, ho685, hF⟩ := bnd hF
  refine C_cutQ (fun a w' => ∃ (v681 : Value) (c682 : (List Value)) (x683 : (List Int)), x683 = o685 ∧ rdL (eI .i64) ρ x683 c682 ∧ Fr 32 a [(2, .pointer (some ⟨b461, 0, none⟩)), (5, v681)] ∧ Hp C w' ρ (Box b461 [v1, v4] :: Arr v681 1 c682 :: hs)) ?_ ?_
  ·refine C_block ?_
   have H := H.nilArr 1
   replace H := H.f2
   replace H := H.f2
   refine C_iter (f := fun s => F_walk_Closed_1_l0 N x2 s.1 s.2) ho685 (fun s a w' => ∃ (v756 : Value) (c757 : (List Value)) (x755 : Int) (x758 : (List Int)), (x755, x758) = s ∧ rdL (eI .i64) ρ x758 c757 ∧ Fr 32 a [(2, .pointer (some ⟨b461, 0, none⟩)), (5, v756), (12, (.slice none 0 0)), (13, .int .i64 (([] : List Int).length : Int)), (14, .int .i64 x755)] ∧ Hp C w' ρ (Arr (.slice none 0 0) 1 ([]) :: Box b461 [v1, v4] :: Arr v756 1 c757 :: hs)) ?_ ?_
   ·exact fun a hf => ⟨(.slice none 0 0), [], 0, [], rfl, rdL.nil, hf.sub ⟨rfl, rfl, rfl, rfl, rfl, trivial⟩, H⟩
   ·rintro s o829 a wd832 ⟨v756, c757, x755, x758, rfl, r759, hf, H⟩ hB830 hO831
    replace hB830 : F_walk_Closed_1_l0 N x2 x755 x758 = some o829 := hB830
    unfold F_walk_Closed_1_l0 at hB830
    refine CW.at hf <| C_seq <| R_nd <| nq (Q_lss rfl rfl) rfl rfl <| WL_nil <| x_then <| C_seq ?_
    refine C_cond rfl (fun hb => ?_) (fun hb => ?_)
    ·replace hB830 := itT hb hB830
     refine C_skip <| x_then ?_
     obtain ⟨o866, ho866, hB830⟩ := bnd hB830
     refine C_cut (fun a w' => ∃ (v862 : Value) (c863 : (List Value)) (x864 : (List Int)), x864 = o866 ∧ rdL (eI .i64) ρ x864 c863 ∧ Fr 32 a [(2, .pointer (some ⟨b461, 0, none⟩)), (5, v862), (12, (.slice none 0 0)), (13, .int .i64 (([] : List Int).length : Int)), (14, .int .i64 x755)] ∧ Hp C w' ρ (Arr (.slice none 0 0) 1 ([]) :: Box b461 [v1, v4] :: Arr v862 1 c863 :: hs)) ?_ ?_
     ·refine C_block <| C_seq <| R_nd ?_
      obtain ⟨x867, hx867, ho866⟩ := bnd ho866
      obtain ⟨b868, o869, hi873, hc871, ha872⟩ := arr_at (en := (eI .i64)) (hs := [Arr (.slice none 0 0) 1 ([])]) (k := 0) (by decide) (H.okS (by simp)) rfl rdL.nil hx867
      refine nq (Q_idx hi873 Tryz.underlying23 ty3 rfl rfl) rfl rfl <| nq (v := .int .i64 x867) (Q_ld (show cellsAt _ _ _ [.int .i64 x867] from (show _ = [_] from hc871) ▸ (ha872 _ (Ok.subS (by simp) H.ok))) ty3 rfl (fun _ => rfl) rfl rfl) rfl rfl <| nq (Q_assign rfl) rfl rfl <| WL_nil <| x_then <| C_seq <| R_nd <| nq (Q_move rfl) rfl rfl <| nq (v := .pointer (some ⟨b461, 0, none⟩)) (Q_fld Tryz.underlying25 rfl ty22 (by decide) rfl rfl) rfl rfl <| nq (v := v1) (Q_ldB (k := 1) (cs := [v1]) H.ok rfl ty22 rfl rfl rfl (fun _ => rfl) rfl) rfl rfl <| nq (Q_len Tryz.underlying22 rfl r3) rfl rfl <| nq (Q_lss rfl rfl) rfl rfl <| WL_nil <| x_then ?_
      obtain ⟨o886, ho886, ho866⟩ := bnd ho866
      refine C_cutQ (fun a w' => ∃ (v882 : Value) (c883 : (List Value)) (x884 : (List Int)), x884 = o886 ∧ rdL (eI .i64) ρ x884 c883 ∧ Fr 32 a [(2, .pointer (some ⟨b461, 0, none⟩)), (5, v882), (12, (.slice none 0 0)), (13, .int .i64 (([] : List Int).length : Int)), (14, .int .i64 x755)] ∧ Hp C w' ρ (Arr (.slice none 0 0) 1 ([]) :: Box b461 [v1, v4] :: Arr v882 1 c883 :: hs)) ?_ ?_
      ·refine C_cond rfl (fun hb => ?_) (fun hb => ?_)
       ·replace ho886 := itT hb ho886
        refine R_nd <| nq (Q_move rfl) rfl rfl <| nq (Q_move rfl) rfl rfl <| ne (E_bslice (xs := [.tmp 24]) (vs := [.int .i64 x867]) H Tryz.underlying23 ty3 (by decide) (cs := [.int .i64 x867]) rfl (sz_cons rfl sz_nil) rfl (by simp) (by simp) rfl rfl) rfl rfl ?_
        rintro _ wd888 ⟨b887, rfl, H⟩
        obtain ⟨x889, hx889, ho886⟩ := bnd ho886
        obtain ⟨ha890a, ha890b⟩ := app_some hx889
        have r892 : rdL (eI .i64) ρ x889 (c757 ++ ([.int .i64 x867])) := ha890b ▸ rdL.app r759 (show rdL (eI .i64) ρ ([x867]) ([.int .i64 x867]) from ⟨([.int .i64 x867]), _, rfl, rfl, rdL.nil⟩)
        refine ne (E_append (k := 3) H rfl Tryz.underlying23 ty3 rfl (by decide) (by decide) rfl rfl (Src.ofArr (k := 0) H.ok rfl) (rdL.one (show rdL (eI .i64) ρ ([x867]) ([.int .i64 x867]) from ⟨([.int .i64 x867]), _, rfl, rfl, rdL.nil⟩)) (app_fit r759 (show rdL (eI .i64) ρ ([x867]) ([.int .i64 x867]) from ⟨([.int .i64 x867]), _, rfl, rfl, rdL.nil⟩) ha890a)) rfl rfl ?_
        rintro v891 wd894 ⟨H, hc893⟩
        dsimp only [List.set] at H
        refine nq (Q_assign rfl) rfl rfl <| WL_nil ?_
        replace H := H.f3
        replace H := H.f3
        replace H := H.f3
        replace H := H.drop 3 rfl
        dsimp only [List.eraseIdx] at H
        obtain rfl := Option.some.inj ho886
        refine x_A fun a hf => ⟨v891, (c757 ++ ([.int .i64 x867])), x889, rfl, r892, hf.sub ⟨rfl, rfl, rfl, rfl, rfl, trivial⟩, H⟩
       ·replace ho886 := itF hb ho886
        refine C_skip ?_
        replace H := H.f2
        replace H := H.f2
        replace H := H.f2
        obtain rfl := Option.some.inj ho886
        refine x_A fun a hf => ⟨v756, c757, x758, rfl, r759, hf.sub ⟨rfl, rfl, rfl, rfl, rfl, trivial⟩, H⟩
      ·rintro a wd895 ⟨v882, c883, x884, rfl, r885, hf, H⟩
       try dsimp only at ho866
       refine XX.at hf <| x_block ?_
       replace H := H.f2
       replace H := H.f2
       replace H := H.f2
       obtain rfl := Option.some.inj ho866
       refine x_A fun a hf => ⟨v882, c883, x884, rfl, r885, hf.sub ⟨rfl, rfl, rfl, rfl, rfl, trivial⟩, H⟩
     ·rintro a wd896 ⟨v862, c863, x864, rfl, r865, hf, H⟩
      try dsimp only at hB830
      refine CW.at hf <| R_nd <| nq (Q_add rfl rfl) rfl rfl <| nq (Q_move rfl) rfl rfl <| WL_nil ?_
      replace H := H.f2
      replace H := H.f2
      replace H := H.f2
      obtain rfl := Option.some.inj hB830
      refine x_A fun a hf => ⟨_, rfl, v862, c863, w64 (x755 + 1), x864, rfl, r865, hf.sub ⟨rfl, rfl, rfl, rfl, rfl, trivial⟩, H⟩
    ·replace hB830 := itF hb hB830
     refine C_exit <| x_then_exit <| x_then_exit <| x_block_exit ?_
     replace H := H.f2
     replace H := H.f2
     replace H := H.drop 2 rfl
     dsimp only [List.eraseIdx] at H
     obtain rfl := Option.some.inj hB830
     obtain rfl := hO831 _ rfl
     refine x_A fun a hf => ⟨v756, c757, x758, rfl, r759, hf.sub ⟨rfl, rfl, trivial⟩, H⟩
  ·rintro a wd897 ⟨v681, c682, x683, rfl, r684, hf, H⟩
   try dsimp only at hF
   refine XX.at hf <| x_then <| C_seq <| R_nd <| nq (v := .agg #[v1, v4]) (Q_ldB (k := 0) (cs := [v1, v4]) H.ok rfl ty25 rfl rfl rfl (fun h => nomatch h) rfl) rfl rfl <| nq (v := .agg #[v1, v4]) (Q_buildS st135.choose_spec (ps := [(0, [v1, v4])]) rfl ⟨rfl, rfl, by simp, trivial⟩ rfl) rfl rfl <| nq (Q_move rfl) rfl rfl ?_
   replace H := H.f1
   obtain ⟨q898, hq898, hF⟩ := bnd hF
   refine ne (E_call fn82 rfl (c_82_1 H gle  r3 r6 r684 hq898)) rfl rfl ?_
   rintro _ wd909 ⟨v900, c901, b902, v903, c904, x905, x906, rfl, rfl, r907, r908, H⟩
   try dsimp only at hF
   refine nq (Q_assign rfl) rfl rfl <| WL_nil <| x_then <| C_ret ?_
   replace H := H.f2
   replace H := H.f2
   replace H := H.drop 2 rfl
   dsimp only [List.eraseIdx] at H
   replace H := H.drop 2 rfl
   dsimp only [List.eraseIdx] at H
   obtain rfl := Option.some.inj hF
   exact fn_ret (l := [.tmp 4]) (vs := [.pointer (some ⟨b902, 0, none⟩)]) rfl rfl rfl (.inr ⟨b902, v903, c904, x906, rfl, rfl, r908, H⟩)
theorem c_31 {N : Nat} {C : Cx} {w : World} {ρ : View} {hs : List Hl} {gV : Nat → Value} {b1 : Nat} {c2 : List Value} {v5 : Value} {b7 : Nat} {c8 : List Value} {v11 : Value} {x3 : (List Int)} {x6 : Int} {x9 : (List Int)} {x12 : Int} (H : Hp C w ρ (Box b1 [v5, .int .i64 x6] :: Arr v5 1 c2 :: Box b7 [v11, .int .i64 x12] :: Arr v11 1 c8 :: hs)) (gle : GErrs ρ 394 errIds gV) (gl18 : GTab ρ 18 .u8 tab_math_bits_deBruijn64tab) (r4 : rdL (eI .u64) ρ x3 c2) (r10 : rdL (eI .u64) ρ x9 c8) {r : Bool} (hF : F_marks_Marks_Same N x3 x6 x9 x12 = some r) :
  Calls Tryz.prog 31 [.pointer (some ⟨b1, 0, none⟩), .pointer (some ⟨b7, 0, none⟩)].toArray w (Rets (fun v w' => (∃ (x31 : Bool), x31 = r ∧ .bool x31 = v ∧ Hp C w' ρ (Box b1 [v5, .int .i64 x6] :: Arr v5 1 c2 :: Box b7 [v11, .int .i64 x12] :: Arr v11 1 c8 :: hs)))) := by
 unfold F_marks_Marks_Same at hF
 have h0 : Tryz.f31.body = some _ := rfl
 refine fn_calls' Tryz.func31 h0 (n := 10) rfl (by simp) <| C_seq <| R_nd <| nq (Q_assign rfl) rfl rfl <| WL_nil <| x_then <| C_seq <| R_nd <| nq (Q_move rfl) rfl rfl ?_
 replace H := H.f1
 replace H := H.f1
 obtain ⟨q32, hq32, hF⟩ := bnd hF
 refine ne (E_call fn32 rfl (c_32 H gle gl18 r4 hq32)) rfl rfl ?_
 rintro _ wd38 ⟨v34, c35, x36, rfl, rfl, r37, H⟩
 try dsimp only at hF
 refine nq (Q_move rfl) rfl rfl ?_
 replace H := H.f4
 replace H := H.f4
 obtain ⟨q39, hq39, hF⟩ := bnd hF
 refine ne (E_call fn32 rfl (c_32 H gle gl18 r10 hq39)) rfl rfl ?_
 rintro _ wd45 ⟨v41, c42, x43, rfl, rfl, r44, H⟩
 try dsimp only at hF
 replace H := H.f2
 replace H := H.f5
 obtain ⟨q46, hq46, hF⟩ := bnd hF
 obtain ⟨C', ρ', hl47, HA, hL, hback⟩ := Hp.lend (A := []) (L := [Arr v34 1 c35, Arr v41 1 c42]) (F := Box b7 [v11, .int .i64 x12] :: Arr v11 1 c8 :: Box b1 [v5, .int .i64 x6] :: Arr v5 1 c2 :: hs) H
 refine ne (E_call fn77 rfl (c_77 HA (gle.up hl47)  (arr_rd (by decide) hl47 (hL (Arr v34 1 c35) (by simp)) r37) (arr_rd (by decide) hl47 (hL (Arr v41 1 c42) (by simp)) r44) hq46)) rfl rfl ?_
 rintro _ wd49 ⟨x48, rfl, rfl, H⟩
 try dsimp only at hF
 replace H := hback H
 dsimp only [List.cons_append, List.nil_append] at H
 refine nq (Q_assign rfl) rfl rfl <| WL_nil <| x_then <| C_ret ?_
 replace H := H.f3
 replace H := H.f3
 replace H := H.f5
 replace H := H.f5
 replace H := H.drop 4 rfl
 dsimp only [List.eraseIdx] at H
 replace H := H.drop 4 rfl
 dsimp only [List.eraseIdx] at H
 obtain rfl := Option.some.inj hF
 exact fn_ret (l := [.tmp 4]) (vs := [.bool x48]) rfl rfl rfl ⟨x48, rfl, rfl, H⟩
theorem c_33 {N : Nat} {C : Cx} {w : World} {ρ : View} {hs : List Hl} {gV : Nat → Value} {b1 : Nat} {c2 : List Value} {v5 : Value} {x3 : (List Int)} {x6 : Int} {x7 : Int} (H : Hp C w ρ (Box b1 [v5, .int .i64 x6] :: Arr v5 1 c2 :: hs)) (gle : GErrs ρ 394 errIds gV) (r4 : rdL (eI .u64) ρ x3 c2) {r : Bool} (hF : F_marks_Marks_Has N x3 x6 x7 = some r) :
  Calls Tryz.prog 33 [.pointer (some ⟨b1, 0, none⟩), .int .i64 x7].toArray w (Rets (fun v w' => (∃ (x31 : Bool), x31 = r ∧ .bool x31 = v ∧ Hp C w' ρ (Box b1 [v5, .int .i64 x6] :: Arr v5 1 c2 :: hs)))) := by
 unfold F_marks_Marks_Has at hF
 have h0 : Tryz.f33.body = some _ := rfl
 refine fn_calls' Tryz.func33 h0 (n := 28) rfl (by simp) <| C_seq <| R_nd <| nq (Q_assign rfl) rfl rfl <| WL_nil <| x_then <| C_seq <| R_nd <| nq (Q_move rfl) rfl rfl <| nq (Q_move rfl) rfl rfl ?_
 replace H := H.f1
 replace H := H.f1
 obtain ⟨q32, hq32, hF⟩ := bnd hF
 refine ne (E_call fn81 rfl (c_81 H gle  r4 hq32)) rfl rfl ?_
 rintro _ wd37 ⟨x34, x35, x36, rfl, rfl, H⟩
 try dsimp only at hF
 refine nq (Q_move rfl) rfl rfl <| nq (Q_extract rfl rfl) rfl rfl <| nq (Q_extract rfl rfl) rfl rfl <| nq (Q_extract rfl rfl) rfl rfl <| nq (Q_assign rfl) rfl rfl <| nq (Q_assign rfl) rfl rfl <| nq (Q_assign rfl) rfl rfl <| WL_nil <| x_then ?_
 obtain ⟨o46, ho46, hF⟩ := bnd hF
 refine C_cut (fun a w' => ∃ (x45 : Bool), x45 = o46 ∧ Fr 28 a [(4, .bool x45)] ∧ Hp C w' ρ (Box b1 [v5, .int .i64 x6] :: Arr v5 1 c2 :: hs)) ?_ ?_
 ·refine R_nd <| nq (Q_move rfl) rfl rfl <| nq (Q_move rfl) rfl rfl ?_
  rcases Bool.eq_false_or_eq_true x36 with hb | hb
  ·rw [hb]
   replace ho46 := itT hb ho46
   refine gq (Q_move rfl) rfl rfl rfl <| gq (Q_nilP rfl) rfl rfl rfl <| gq (v := .pointer (some ⟨b1, 0, none⟩)) (Q_fld Tryz.underlying139 rfl ty137 (by decide) rfl rfl) rfl rfl rfl <| gq (v := v5) (Q_ldB (k := 0) (cs := [v5]) H.ok rfl ty137 rfl rfl rfl (fun _ => rfl) rfl) rfl rfl rfl <| gq (Q_move rfl) rfl rfl rfl ?_
   obtain ⟨x47, hx47, ho46⟩ := bnd ho46
   obtain ⟨b48, o49, hi53, hc51, ha52⟩ := arr_at (hs := [Arr v5 1 c2]) (k := 0) (by decide) (H.okS (by simp)) rfl r4 hx47
   refine gq (Q_idx hi53 Tryz.underlying137 ty37 rfl rfl) rfl rfl rfl <| gq (v := .int .u64 x47) (Q_ld (show cellsAt _ _ _ [.int .u64 x47] from (show _ = [_] from hc51) ▸ (ha52 _ (Ok.subS (by simp) H.ok))) ty37 rfl (fun _ => rfl) rfl rfl) rfl rfl rfl <| gq (Q_move rfl) rfl rfl rfl <| gq (Q_and rfl rfl) rfl rfl rfl <| gq (Q_neq rfl rfl) rfl rfl rfl <| nq (Q_pickT rfl rfl) rfl rfl <| nq (Q_assign rfl) rfl rfl <| WL_nil ?_
   replace H := H.f1
   replace H := H.f1
   obtain rfl := Option.some.inj ho46
   refine x_A fun a hf => ⟨(iand .u64 x47 x35) != 0, rfl, hf.sub ⟨rfl, trivial⟩, H⟩
  ·rw [hb]
   replace ho46 := itF hb ho46
   refine gs rfl rfl rfl rfl <| gs rfl rfl rfl rfl <| gs rfl rfl rfl rfl <| gs rfl rfl rfl rfl <| gs rfl rfl rfl rfl <| gs rfl rfl rfl rfl <| gs rfl rfl rfl rfl <| gs rfl rfl rfl rfl <| gs rfl rfl rfl rfl <| gs rfl rfl rfl rfl <| nq (Q_pickF rfl rfl) rfl rfl <| nq (Q_assign rfl) rfl rfl <| WL_nil ?_
   replace H := H.f1
   replace H := H.f1
   obtain rfl := Option.some.inj ho46
   refine x_A fun a hf => ⟨false, rfl, hf.sub ⟨rfl, trivial⟩, H⟩
 ·rintro a wd54 ⟨x45, rfl, hf, H⟩
  try dsimp only at hF
  refine CW.at hf <| C_ret ?_
  replace H := H.f1
  replace H := H.f1
  obtain rfl := Option.some.inj hF
  exact fn_ret (l := [.tmp 4]) (vs := [.bool x45]) rfl rfl rfl ⟨x45, rfl, rfl, H⟩
theorem c_81_1 {N : Nat} {C : Cx} {w : World} {ρ : View} {hs : List Hl} {gV : Nat → Value} {x1 : Int} (H : Hp C w ρ (hs)) (gle : GErrs ρ 394 errIds gV) {r : (Int × Int × Bool)} (hF : F_marks_Marks_at_1 N x1 = some r) :
  Calls Tryz.prog 81 [.pointer none, .int .i64 x1].toArray w (Rets (fun v w' => (∃ (x15 : Int) (x16 : Int) (x17 : Bool), (x15, x16, x17) = r ∧ .tuple [.int .i64 x15, .int .u64 x16, .bool x17].toArray = v ∧ Hp C w' ρ (hs)))) := by
 unfold F_marks_Marks_at_1 at hF
 have h0 : Tryz.f81.body = some _ := rfl
 refine fn_calls' Tryz.func81 h0 (n := 21) rfl (by simp) <| C_seq <| R_nd <| nq (Q_assign rfl) rfl rfl <| nq (Q_assign rfl) rfl rfl <| nq (Q_assign rfl) rfl rfl <| WL_nil <| x_then ?_
 obtain ⟨o25, ho25, hF⟩ := bnd hF
 refine C_cut (fun a w' => ∃ (x22 : Int) (x23 : Int) (x24 : Bool), (x22, x23, x24) = o25 ∧ Fr 21 a [(4, .int .i64 x22), (5, .int .u64 x23), (6, .bool x24)] ∧ Hp C w' ρ (hs)) ?_ ?_
 ·refine R_nd <| nq (Q_move rfl) rfl rfl <| nq (Q_quo rfl rfl (by decide)) rfl rfl <| nq (Q_move rfl) rfl rfl <| nq (Q_cvI ⟨_, Tryz.underlying3⟩ Tryz.underlying143 rfl) rfl rfl <| nq (Q_rem rfl rfl (by decide)) rfl rfl ?_
  obtain ⟨x26, hx26, ho25⟩ := bnd ho25
  refine nq (Q_shl rfl rfl (nn_some hx26)) rfl rfl <| nq (Q_move rfl) rfl rfl <| nq (Q_geq rfl rfl) rfl rfl <| nq (Q_move rfl) rfl rfl ?_
  rcases Bool.eq_false_or_eq_true (decide (x1 ≥ 0)) with hb | hb
  ·rw [hb]
   replace ho25 := itT hb ho25
   refine gq (Q_move rfl) rfl rfl rfl <| gq (Q_move rfl) rfl rfl rfl ?_
   obtain ⟨q27, hq27, ho25⟩ := bnd ho25
   refine ge (E_call fn87 rfl (c_87_1 H gle   hq27)) rfl rfl rfl ?_
   rintro _ wd29 ⟨rfl, rfl, H⟩
   try dsimp only at ho25
   refine gq (Q_lss rfl rfl) rfl rfl rfl <| nq (Q_pickT rfl rfl) rfl rfl <| nq (Q_assign rfl) rfl rfl <| nq (Q_assign rfl) rfl rfl <| nq (Q_assign rfl) rfl rfl <| WL_nil ?_
   obtain rfl := Option.some.inj ho25
   refine x_A fun a hf => ⟨w64 (x1.tdiv 64), shlI .u64 1 ((IntKind.wrap .u64 x1).tmod 64), decide (x1 < 0), rfl, hf.sub ⟨rfl, rfl, rfl, trivial⟩, H⟩
  ·rw [hb]
   replace ho25 := itF hb ho25
   refine gs rfl rfl rfl rfl <| gs rfl rfl rfl rfl <| gs rfl rfl rfl rfl <| gs rfl rfl rfl rfl <| nq (Q_pickF rfl rfl) rfl rfl <| nq (Q_assign rfl) rfl rfl <| nq (Q_assign rfl) rfl rfl <| nq (Q_assign rfl) rfl rfl <| WL_nil ?_
   obtain rfl := Option.some.inj ho25
   refine x_A fun a hf => ⟨w64 (x1.tdiv 64), shlI .u64 1 ((IntKind.wrap .u64 x1).tmod 64), false, rfl, hf.sub ⟨rfl, rfl, rfl, trivial⟩, H⟩
 ·rintro a wd30 ⟨x22, x23, x24, rfl, hf, H⟩
  try dsimp only at hF
  refine CW.at hf <| C_ret ?_
  obtain rfl := Option.some.inj hF
  exact fn_ret (l := [.tmp 4, .tmp 5, .tmp 6]) (vs := [.int .i64 x22, .int .u64 x23, .bool x24]) rfl rfl rfl ⟨x22, x23, x24, rfl, rfl, H⟩
theorem c_33_1 {N : Nat} {C : Cx} {w : World} {ρ : View} {hs : List Hl} {gV : Nat → Value} {x1 : Int} (H : Hp C w ρ (hs)) (gle : GErrs ρ 394 errIds gV) {r : Unit} (hF : F_marks_Marks_Has_1 N x1 = some r) :
  Calls Tryz.prog 33 [.pointer none, .int .i64 x1].toArray w (Rets (fun v w' => (() = r ∧ .bool false = v ∧ Hp C w' ρ (hs)))) := by
 unfold F_marks_Marks_Has_1 at hF
 have h0 : Tryz.f33.body = some _ := rfl
 refine fn_calls' Tryz.func33 h0 (n := 28) rfl (by simp) <| C_seq <| R_nd <| nq (Q_assign rfl) rfl rfl <| WL_nil <| x_then <| C_seq <| R_nd <| nq (Q_move rfl) rfl rfl <| nq (Q_move rfl) rfl rfl ?_
 obtain ⟨q10, hq10, hF⟩ := bnd hF
 refine ne (E_call fn81 rfl (c_81_1 H gle   hq10)) rfl rfl ?_
 rintro _ wd15 ⟨x12, x13, x14, rfl, rfl, H⟩
 try dsimp only at hF
 refine nq (Q_move rfl) rfl rfl <| nq (Q_extract rfl rfl) rfl rfl <| nq (Q_extract rfl rfl) rfl rfl <| nq (Q_extract rfl rfl) rfl rfl <| nq (Q_assign rfl) rfl rfl <| nq (Q_assign rfl) rfl rfl <| nq (Q_assign rfl) rfl rfl <| WL_nil <| x_then ?_
 obtain ⟨o16, ho16, hF⟩ := bnd hF
 refine C_cut (fun a w' => Fr 28 a [(4, .bool false)] ∧ Hp C w' ρ (hs)) ?_ ?_
 ·refine R_nd <| nq (Q_move rfl) rfl rfl <| nq (Q_move rfl) rfl rfl ?_
  rcases Bool.eq_false_or_eq_true x14 with hb | hb
  ·rw [hb]
   replace ho16 := itT hb ho16
   refine gq (Q_move rfl) rfl rfl rfl ?_
   cases ho16
  ·rw [hb]
   replace ho16 := itF hb ho16
   refine gs rfl rfl rfl rfl <| gs rfl rfl rfl rfl <| gs rfl rfl rfl rfl <| gs rfl rfl rfl rfl <| gs rfl rfl rfl rfl <| gs rfl rfl rfl rfl <| gs rfl rfl rfl rfl <| gs rfl rfl rfl rfl <| gs rfl rfl rfl rfl <| gs rfl rfl rfl rfl <| nq (Q_pickF rfl rfl) rfl rfl <| nq (Q_assign rfl) rfl rfl <| WL_nil ?_
   obtain rfl := Option.some.inj ho16
   refine x_A fun a hf => ⟨hf.sub ⟨rfl, trivial⟩, H⟩
 ·rintro a wd17 ⟨hf, H⟩
  try dsimp only at hF
  refine CW.at hf <| C_ret ?_
  obtain rfl := Option.some.inj hF
  exact fn_ret (l := [.tmp 4]) (vs := [.bool false]) rfl rfl rfl ⟨rfl, rfl, H⟩
set_option maxHeartbeats 8000000 in
theorem c_5 {N : Nat} {C : Cx} {w : World} {ρ : View} {hs : List Hl} {gV : Nat → Value} {v1 : Value} {v4 : Value} {v7 : Value} {x2 : (List ((List Int) × (Int × Int × Int × Int) × Int × Int))} {x5 : (List Int)} {x8 : (List Int)} {x10 : Int} (H : Hp C w ρ (hs)) (gle : GErrs ρ 394 errIds gV) (gl18 : GTab ρ 18 .u8 tab_math_bits_deBruijn64tab) (r3 : RdSl ρ (eP (eL (eI .i64)) (eP (eP (eI .u64) (eP (eI .u64) (eP (eI .u64) (eI .u64)))) (eP (eI .i64) (eI .i64)))) v1 x2) (r6 : RdSl ρ (eI .i64) v4 x5) (r9 : RdSl ρ (eI .i64) v7 x8) {r : Bool} (hF : F_dofferlaw16_WalkClosed N x2 x5 x8 x10 = some r) :
  Calls Tryz.prog 5 [.agg #[v1, v4], v7, .int .i64 x10].toArray w (Rets (fun v w' => (∃ (x1436 : Bool), x1436 = r ∧ .bool x1436 = v ∧ Hp C w' ρ (hs)))) := by
 unfold F_dofferlaw16_WalkClosed at hF
 have h0 : Tryz.f5.body = some _ := rfl
 refine fn_calls' Tryz.func5 h0 (n := 133) rfl (by simp) <| C_seq <| R_nd <| ne (E_box H (vs := [v1, v4]) rfl rfl) rfl rfl ?_
 rintro _ wd1438 ⟨b1437, rfl, H⟩
 refine nq (Q_assign rfl) rfl rfl <| WL_nil <| x_then <| C_seq <| C_seq <| R_nd <| ne (E_call fn22 rfl (Cr.c_run runC22 (fun hl => GTab.up hl gl18) H)) rfl rfl ?_
 rintro _ wd1439 ⟨rfl, H⟩
 refine nq (Q_not rfl) rfl rfl <| WL_nil <| x_then ?_
 refine C_cond rfl (fun h => nomatch h) (fun _ => ?_)
 refine C_skip <| x_then <| C_seq <| R_nd <| nq (v := .agg #[v1, v4]) (Q_ldB (k := 0) (cs := [v1, v4]) H.ok rfl ty25 rfl rfl rfl (fun h => nomatch h) rfl) rfl rfl ?_
 obtain ⟨q1440, hq1440, hF⟩ := bnd hF
 refine ne (E_call fn16 rfl (c_16 H gle  r3 r6 hq1440)) rfl rfl ?_
 rintro _ wd1447 ⟨v1442, c1443, x1444, x1445, rfl, rfl, r1446, H⟩
 try dsimp only at hF
 refine nq (Q_move rfl) rfl rfl <| nq (Q_extract rfl rfl) rfl rfl <| nq (Q_extract rfl rfl) rfl rfl <| ne (E_alloc H ty29 (zs := [.slice none 0 0, .slice none 0 0]) rfl) rfl rfl ?_
 rintro _ wd1449 ⟨b1448, rfl, H⟩
 refine ne (E_stB (k := 0) (cs := [v1442, v4]) (vs' := [v1442, v4]) H rfl ty29 rfl rfl rfl rfl (one_cons (arr_cells (H.ok.get (k := 1) rfl)).2 (one_cons (RdSl.one r6) one_nil)) (by simp) rfl) rfl rfl ?_
 rintro _ wd1450 H
 dsimp only [List.set] at H
 refine nq (Q_assign rfl) rfl rfl <| WL_nil <| x_then <| C_seq ?_
 obtain ⟨o1456, ho1456, hF⟩ := bnd hF
 refine C_cut (fun a w' => ∃ (x1455 : Bool), x1455 = o1456 ∧ Fr 133 a [(1, v7), (2, .int .i64 x10), (3, .pointer (some ⟨b1437, 0, none⟩)), (40, .bool x1455)] ∧ Hp C w' ρ (Box b1437 [v1, v4] :: hs)) ?_ ?_
 ·refine R_nd <| nq (Q_move rfl) rfl rfl <| nq (Q_not rfl) rfl rfl <| nq (Q_move rfl) rfl rfl ?_
  rcases Bool.eq_false_or_eq_true (!x1445) with hb | hb
  ·rw [hb]
   replace ho1456 := itT hb ho1456
   refine gs rfl rfl rfl rfl <| gs rfl rfl rfl rfl <| gs rfl rfl rfl rfl <| nq (Q_pickT rfl rfl) rfl rfl <| nq (Q_move rfl) rfl rfl <| gs rfl rfl rfl rfl <| gs rfl rfl rfl rfl <| gs rfl rfl rfl rfl <| nq (Q_pickT rfl rfl) rfl rfl <| WL_nil ?_
   replace H := H.f2
   replace H := H.drop 1 rfl
   dsimp only [List.eraseIdx] at H
   replace H := H.drop 1 rfl
   dsimp only [List.eraseIdx] at H
   obtain rfl := Option.some.inj ho1456
   refine x_A fun a hf => ⟨true, rfl, hf.sub ⟨rfl, rfl, rfl, rfl, trivial⟩, H⟩
  ·rw [hb]
   replace ho1456 := itF hb ho1456
   refine gq (Q_move rfl) rfl rfl rfl <| gq (Q_len Tryz.underlying23 rfl r9) rfl rfl rfl <| gq (Q_gtr rfl rfl) rfl rfl rfl <| nq (Q_pickF rfl rfl) rfl rfl <| nq (Q_move rfl) rfl rfl ?_
   rcases Bool.eq_false_or_eq_true (decide ((x8.length : Int) > 60)) with hb | hb
   ·rw [hb]
    replace ho1456 := itT hb ho1456
    refine gs rfl rfl rfl rfl <| gs rfl rfl rfl rfl <| gs rfl rfl rfl rfl <| nq (Q_pickT rfl rfl) rfl rfl <| WL_nil ?_
    replace H := H.f2
    replace H := H.drop 1 rfl
    dsimp only [List.eraseIdx] at H
    replace H := H.drop 1 rfl
    dsimp only [List.eraseIdx] at H
    obtain rfl := Option.some.inj ho1456
    refine x_A fun a hf => ⟨true, rfl, hf.sub ⟨rfl, rfl, rfl, rfl, trivial⟩, H⟩
   ·rw [hb]
    replace ho1456 := itF hb ho1456
    refine gq (v := .agg #[v1442, v4]) (Q_ldB (k := 0) (cs := [v1442, v4]) H.ok rfl ty29 rfl rfl rfl (fun h => nomatch h) rfl) rfl rfl rfl ?_
    replace H := H.f1
    obtain ⟨q1457, hq1457, ho1456⟩ := bnd ho1456
    obtain ⟨C', ρ', hl1458, HA, hL, hback⟩ := Hp.lend (A := []) (L := [Arr v1442 7 c1443]) (F := Box b1448 [v1442, v4] :: Box b1437 [v1, v4] :: hs) H
    refine ge (E_call fn19 rfl (c_19 HA (gle.up hl1458)  (arr_rd (by decide) hl1458 (hL (Arr v1442 7 c1443) (by simp)) r1446) (r6.up hl1458) hq1457)) rfl rfl rfl ?_
    rintro _ wd1460 ⟨x1459, rfl, rfl, H⟩
    try dsimp only at ho1456
    replace H := hback H
    dsimp only [List.cons_append, List.nil_append] at H
    refine gq (Q_not rfl) rfl rfl rfl <| nq (Q_pickF rfl rfl) rfl rfl <| WL_nil ?_
    replace H := H.f2
    replace H := H.drop 1 rfl
    dsimp only [List.eraseIdx] at H
    replace H := H.drop 1 rfl
    dsimp only [List.eraseIdx] at H
    obtain rfl := Option.some.inj ho1456
    refine x_A fun a hf => ⟨!x1459, rfl, hf.sub ⟨rfl, rfl, rfl, rfl, trivial⟩, H⟩
 ·rintro a wd1461 ⟨x1455, rfl, hf, H⟩
  try dsimp only at hF
  refine CW.at hf ?_
  refine C_cond rfl (fun hb => ?_) (fun hb => ?_)
  ·replace hF := itT hb hF
   refine C_seq <| R_nd <| nq (Q_assign rfl) rfl rfl <| WL_nil <| x_then <| C_ret <| x_then_ret ?_
   replace H := H.drop 0 rfl
   dsimp only [List.eraseIdx] at H
   obtain rfl := Option.some.inj hF
   exact fn_ret (l := [.tmp 6]) (vs := [.bool true]) rfl rfl rfl ⟨true, rfl, rfl, H⟩
  ·replace hF := itF hb hF
   refine C_skip <| x_then <| C_seq <| R_nd <| nq (v := .pointer (some ⟨b1437, 0, none⟩)) (Q_fld Tryz.underlying25 rfl ty22 (by decide) rfl rfl) rfl rfl <| nq (v := v1) (Q_ldB (k := 0) (cs := [v1]) H.ok rfl ty22 rfl rfl rfl (fun _ => rfl) rfl) rfl rfl <| nq (Q_len Tryz.underlying22 rfl r3) rfl rfl ?_
   obtain ⟨q1462, hq1462, hF⟩ := bnd hF
   refine ne (E_call fn28 rfl (c_28 H gle   hq1462)) rfl rfl ?_
   rintro _ wd1469 (⟨rfl, rfl, H⟩ | ⟨b1464, v1465, c1466, x1467, rfl, rfl, r1468, H⟩)
   ·try dsimp only at hF
    refine nq (Q_move rfl) rfl rfl <| nq (Q_extract rfl rfl) rfl rfl <| nq (Q_extract rfl rfl) rfl rfl <| nq (Q_assign rfl) rfl rfl <| nq (Q_assign rfl) rfl rfl <| WL_nil <| x_then <| C_seq <| C_seq <| R_nd <| nq (Q_move rfl) rfl rfl <| nq (v := .bool true) (Q_known (by decide) (Q_neqV Tryz.underlying53 gle rfl)) rfl rfl <| WL_nil <| x_then ?_
    refine C_cond rfl (fun _ => ?_) (fun h => nomatch h)
    refine C_seq <| R_nd <| nq (Q_assign rfl) rfl rfl <| WL_nil <| x_then <| C_ret <| x_then_ret ?_
    replace H := H.drop 0 rfl
    dsimp only [List.eraseIdx] at H
    obtain rfl := Option.some.inj hF
    exact fn_ret (l := [.tmp 6]) (vs := [.bool false]) rfl rfl rfl ⟨false, rfl, rfl, H⟩
   ·try dsimp only at hF
    refine nq (Q_move rfl) rfl rfl <| nq (Q_extract rfl rfl) rfl rfl <| nq (Q_extract rfl rfl) rfl rfl <| nq (Q_assign rfl) rfl rfl <| nq (Q_assign rfl) rfl rfl <| WL_nil <| x_then <| C_seq <| C_seq <| R_nd <| nq (Q_move rfl) rfl rfl <| nq (v := .bool false) (Q_known (by decide) (Q_neqV Tryz.underlying53 gle rfl)) rfl rfl <| WL_nil <| x_then ?_
    refine C_cond rfl (fun h => nomatch h) (fun _ => ?_)
    refine C_skip <| x_then <| C_seq <| C_seq <| R_nd <| nq (Q_move rfl) rfl rfl <| nq (Q_len Tryz.underlying23 rfl r9) rfl rfl <| nq (Q_move rfl) rfl rfl <| WL_nil <| x_then ?_
    obtain ⟨o1531, ho1531, hF⟩ := bnd hF
    refine C_cutQ (fun a w' => ∃ (c1528 : (List Value)) (x1529 : (List Int)), x1529 = o1531 ∧ rdL (eI .u64) ρ x1529 c1528 ∧ Fr 133 a [(2, .int .i64 x10), (3, .pointer (some ⟨b1437, 0, none⟩)), (9, .pointer (some ⟨b1464, 0, none⟩))] ∧ Hp C w' ρ (Box b1437 [v1, v4] :: Box b1464 [v1465, .int .i64 (x2.length : Int)] :: Arr v1465 1 c1528 :: hs)) ?_ ?_
    ·refine C_block ?_
     replace H := H.f1
     replace H := H.f1
     replace H := H.f2
     refine C_iter (f := fun s => F_dofferlaw16_WalkClosed_l0 N x2 x8 s.1 s.2) ho1531 (fun s a w' => ∃ (c1551 : (List Value)) (x1550 : Int) (x1552 : (List Int)), (x1550, x1552) = s ∧ rdL (eI .u64) ρ x1552 c1551 ∧ Fr 133 a [(2, .int .i64 x10), (3, .pointer (some ⟨b1437, 0, none⟩)), (9, .pointer (some ⟨b1464, 0, none⟩)), (50, v7), (51, .int .i64 (x8.length : Int)), (52, .int .i64 x1550)] ∧ Hp C w' ρ (Box b1437 [v1, v4] :: Box b1464 [v1465, .int .i64 (x2.length : Int)] :: Arr v1465 1 c1551 :: hs)) ?_ ?_
     ·exact fun a hf => ⟨c1466, 0, x1467, rfl, r1468, hf.sub ⟨rfl, rfl, rfl, rfl, rfl, rfl, trivial⟩, H⟩
     ·rintro s o1572 a wd1575 ⟨c1551, x1550, x1552, rfl, r1553, hf, H⟩ hB1573 hO1574
      replace hB1573 : F_dofferlaw16_WalkClosed_l0 N x2 x8 x1550 x1552 = some o1572 := hB1573
      unfold F_dofferlaw16_WalkClosed_l0 at hB1573
      refine CW.at hf <| C_seq <| R_nd <| nq (Q_lss rfl rfl) rfl rfl <| WL_nil <| x_then <| C_seq ?_
      refine C_cond rfl (fun hb => ?_) (fun hb => ?_)
      ·replace hB1573 := itT hb hB1573
       refine C_skip <| x_then <| C_seq <| C_block <| C_seq <| R_nd ?_
       obtain ⟨x1576, hx1576, hB1573⟩ := bnd hB1573
       obtain ⟨b1577, o1578, c1579, hc1580, ha1581, hi1582⟩ := idxR r9 hx1576
       refine nq (Q_idx hi1582 Tryz.underlying23 ty3 rfl rfl) rfl rfl <| nq (v := .int .i64 x1576) (Q_ld (show cellsAt _ _ _ [.int .i64 x1576] from (show _ = [_] from hc1580) ▸ (ha1581.up H.ok.view)) ty3 rfl (fun _ => rfl) rfl rfl) rfl rfl <| nq (Q_assign rfl) rfl rfl <| WL_nil <| x_then <| R_nd <| nq (Q_move rfl) rfl rfl <| nq (Q_move rfl) rfl rfl ?_
       replace H := H.f2
       replace H := H.f2
       obtain ⟨q1583, hq1583, hB1573⟩ := bnd hB1573
       refine ne (E_call fn29 rfl (c_29 H gle  r1553 hq1583)) rfl rfl ?_
       rintro _ wd1589 ⟨c1585, x1586, x1587, rfl, rfl, r1588, H⟩
       try dsimp only at hB1573
       refine WL_nil <| x_block <| x_then <| R_nd <| nq (Q_add rfl rfl) rfl rfl <| nq (Q_move rfl) rfl rfl <| WL_nil ?_
       replace H := H.f1
       replace H := H.f1
       replace H := H.f2
       obtain rfl := Option.some.inj hB1573
       refine x_A fun a hf => ⟨_, rfl, c1585, w64 (x1550 + 1), x1586, rfl, r1588, hf.sub ⟨rfl, rfl, rfl, rfl, rfl, rfl, trivial⟩, H⟩
      ·replace hB1573 := itF hb hB1573
       refine C_exit <| x_then_exit <| x_then_exit <| x_block_exit ?_
       replace H := H.f2
       replace H := H.f2
       replace H := H.f2
       obtain rfl := Option.some.inj hB1573
       obtain rfl := hO1574 _ rfl
       refine x_A fun a hf => ⟨c1551, x1552, rfl, r1553, hf.sub ⟨rfl, rfl, rfl, trivial⟩, H⟩
    ·rintro a wd1590 ⟨c1528, x1529, rfl, r1530, hf, H⟩
     try dsimp only at hF
     refine XX.at hf <| x_then <| C_seq <| R_nd <| nq (v := .agg #[v1, v4]) (Q_ldB (k := 0) (cs := [v1, v4]) H.ok rfl ty25 rfl rfl rfl (fun h => nomatch h) rfl) rfl rfl <| nq (Q_move rfl) rfl rfl ?_
     replace H := H.f2
     replace H := H.f2
     obtain ⟨q1591, hq1591, hF⟩ := bnd hF
     refine ne (E_call fn30 rfl (c_30 H gle gl18 r3 r6 r1530 hq1591)) rfl rfl ?_
     rintro _ wd1598 (⟨rfl, rfl, H⟩ | ⟨b1593, v1594, c1595, x1596, rfl, rfl, r1597, H⟩)
     ·try dsimp only at hF
      refine nq (Q_assign rfl) rfl rfl <| WL_nil <| x_then <| C_seq <| R_nd <| nq (v := .agg #[v1, v4]) (Q_ldB (k := 2) (cs := [v1, v4]) H.ok rfl ty25 rfl rfl rfl (fun h => nomatch h) rfl) rfl rfl <| nq (Q_move rfl) rfl rfl ?_
      obtain ⟨q1599, hq1599, hF⟩ := bnd hF
      refine ne (E_call fn30 rfl (c_30_1 H gle  r3 r6 hq1599)) rfl rfl ?_
      rintro _ wd1606 (⟨rfl, rfl, H⟩ | ⟨b1601, v1602, c1603, x1604, rfl, rfl, r1605, H⟩)
      ·try dsimp only at hF
       refine nq (Q_assign rfl) rfl rfl <| WL_nil <| x_then <| C_seq ?_
       obtain ⟨o1607, ho1607, hF⟩ := bnd hF
       refine C_cut (fun a w' => Fr 133 a [(2, .int .i64 x10), (3, .pointer (some ⟨b1437, 0, none⟩)), (9, .pointer (some ⟨b1464, 0, none⟩)), (13, .pointer none), (77, .bool true)] ∧ Hp C w' ρ (Box b1437 [v1, v4] :: Box b1464 [v1465, .int .i64 (x2.length : Int)] :: Arr v1465 1 c1528 :: hs)) ?_ ?_
       ·refine R_nd <| nq (Q_move rfl) rfl rfl <| nq (v := .bool true) (Q_eqlP (o := none) Tryz.underlying51 rfl) rfl rfl <| nq (Q_move rfl) rfl rfl <| gs rfl rfl rfl rfl <| gs rfl rfl rfl rfl <| nq (Q_pickT rfl rfl) rfl rfl <| nq (Q_move rfl) rfl rfl <| gs rfl rfl rfl rfl <| gs rfl rfl rfl rfl <| gs rfl rfl rfl rfl <| gs rfl rfl rfl rfl <| nq (Q_pickT rfl rfl) rfl rfl <| WL_nil ?_
        replace H := H.f1
        replace H := H.f1
        replace H := H.f2
        obtain rfl := Option.some.inj ho1607
        refine x_A fun a hf => ⟨hf.sub ⟨rfl, rfl, rfl, rfl, rfl, trivial⟩, H⟩
       ·rintro a wd1608 ⟨hf, H⟩
        try dsimp only at hF
        refine CW.at hf ?_
        refine C_cond rfl (fun _ => ?_) (fun h => nomatch h)
        refine C_seq <| R_nd <| nq (Q_assign rfl) rfl rfl <| WL_nil <| x_then <| C_ret <| x_then_ret ?_
        replace H := H.drop 0 rfl
        dsimp only [List.eraseIdx] at H
        replace H := H.drop 0 rfl
        dsimp only [List.eraseIdx] at H
        replace H := H.drop 0 rfl
        dsimp only [List.eraseIdx] at H
        obtain rfl := Option.some.inj hF
        exact fn_ret (l := [.tmp 6]) (vs := [.bool false]) rfl rfl rfl ⟨false, rfl, rfl, H⟩
      ·try dsimp only at hF
       refine nq (Q_assign rfl) rfl rfl <| WL_nil <| x_then <| C_seq ?_
       obtain ⟨o1609, ho1609, hF⟩ := bnd hF
       refine C_cut (fun a w' => Fr 133 a [(2, .int .i64 x10), (3, .pointer (some ⟨b1437, 0, none⟩)), (9, .pointer (some ⟨b1464, 0, none⟩)), (13, .pointer none), (77, .bool true)] ∧ Hp C w' ρ (Box b1437 [v1, v4] :: Box b1464 [v1465, .int .i64 (x2.length : Int)] :: Arr v1465 1 c1528 :: hs)) ?_ ?_
       ·refine R_nd <| nq (Q_move rfl) rfl rfl <| nq (v := .bool true) (Q_eqlP (o := none) Tryz.underlying51 rfl) rfl rfl <| nq (Q_move rfl) rfl rfl <| gs rfl rfl rfl rfl <| gs rfl rfl rfl rfl <| nq (Q_pickT rfl rfl) rfl rfl <| nq (Q_move rfl) rfl rfl <| gs rfl rfl rfl rfl <| gs rfl rfl rfl rfl <| gs rfl rfl rfl rfl <| gs rfl rfl rfl rfl <| nq (Q_pickT rfl rfl) rfl rfl <| WL_nil ?_
        replace H := H.f3
        replace H := H.f3
        replace H := H.f4
        replace H := H.drop 3 rfl
        dsimp only [List.eraseIdx] at H
        replace H := H.drop 3 rfl
        dsimp only [List.eraseIdx] at H
        obtain rfl := Option.some.inj ho1609
        refine x_A fun a hf => ⟨hf.sub ⟨rfl, rfl, rfl, rfl, rfl, trivial⟩, H⟩
       ·rintro a wd1610 ⟨hf, H⟩
        try dsimp only at hF
        refine CW.at hf ?_
        refine C_cond rfl (fun _ => ?_) (fun h => nomatch h)
        refine C_seq <| R_nd <| nq (Q_assign rfl) rfl rfl <| WL_nil <| x_then <| C_ret <| x_then_ret ?_
        replace H := H.drop 0 rfl
        dsimp only [List.eraseIdx] at H
        replace H := H.drop 0 rfl
        dsimp only [List.eraseIdx] at H
        replace H := H.drop 0 rfl
        dsimp only [List.eraseIdx] at H
        obtain rfl := Option.some.inj hF
        exact fn_ret (l := [.tmp 6]) (vs := [.bool false]) rfl rfl rfl ⟨false, rfl, rfl, H⟩
     ·try dsimp only at hF
      refine nq (Q_assign rfl) rfl rfl <| WL_nil <| x_then <| C_seq <| R_nd <| nq (v := .agg #[v1, v4]) (Q_ldB (k := 4) (cs := [v1, v4]) H.ok rfl ty25 rfl rfl rfl (fun h => nomatch h) rfl) rfl rfl <| nq (Q_move rfl) rfl rfl ?_
      replace H := H.f3
      replace H := H.f3
      obtain ⟨q1611, hq1611, hF⟩ := bnd hF
      refine ne (E_call fn30 rfl (c_30 H gle gl18 r3 r6 r1597 hq1611)) rfl rfl ?_
      rintro _ wd1618 (⟨rfl, rfl, H⟩ | ⟨b1613, v1614, c1615, x1616, rfl, rfl, r1617, H⟩)
      ·try dsimp only at hF
       refine nq (Q_assign rfl) rfl rfl <| WL_nil <| x_then <| C_seq ?_
       obtain ⟨o1619, ho1619, hF⟩ := bnd hF
       refine C_cut (fun a w' => Fr 133 a [(2, .int .i64 x10), (3, .pointer (some ⟨b1437, 0, none⟩)), (9, .pointer (some ⟨b1464, 0, none⟩)), (13, .pointer (some ⟨b1593, 0, none⟩)), (77, .bool true)] ∧ Hp C w' ρ (Box b1593 [v1594, .int .i64 (x2.length : Int)] :: Arr v1594 1 c1595 :: Box b1437 [v1, v4] :: Box b1464 [v1465, .int .i64 (x2.length : Int)] :: Arr v1465 1 c1528 :: hs)) ?_ ?_
       ·refine R_nd <| nq (Q_move rfl) rfl rfl <| nq (v := .bool false) (Q_eqlP (o := (some ⟨b1593, 0, none⟩)) Tryz.underlying51 rfl) rfl rfl <| nq (Q_move rfl) rfl rfl <| gq (Q_move rfl) rfl rfl rfl <| gq (v := .bool true) (Q_eqlP (o := none) Tryz.underlying51 rfl) rfl rfl rfl <| nq (Q_pickF rfl rfl) rfl rfl <| nq (Q_move rfl) rfl rfl <| gs rfl rfl rfl rfl <| gs rfl rfl rfl rfl <| gs rfl rfl rfl rfl <| gs rfl rfl rfl rfl <| nq (Q_pickT rfl rfl) rfl rfl <| WL_nil ?_
        replace H := H.f3
        replace H := H.f3
        replace H := H.f4
        replace H := H.f4
        replace H := H.f4
        obtain rfl := Option.some.inj ho1619
        refine x_A fun a hf => ⟨hf.sub ⟨rfl, rfl, rfl, rfl, rfl, trivial⟩, H⟩
       ·rintro a wd1620 ⟨hf, H⟩
        try dsimp only at hF
        refine CW.at hf ?_
        refine C_cond rfl (fun _ => ?_) (fun h => nomatch h)
        refine C_seq <| R_nd <| nq (Q_assign rfl) rfl rfl <| WL_nil <| x_then <| C_ret <| x_then_ret ?_
        replace H := H.drop 0 rfl
        dsimp only [List.eraseIdx] at H
        replace H := H.drop 0 rfl
        dsimp only [List.eraseIdx] at H
        replace H := H.drop 0 rfl
        dsimp only [List.eraseIdx] at H
        replace H := H.drop 0 rfl
        dsimp only [List.eraseIdx] at H
        replace H := H.drop 0 rfl
        dsimp only [List.eraseIdx] at H
        obtain rfl := Option.some.inj hF
        exact fn_ret (l := [.tmp 6]) (vs := [.bool false]) rfl rfl rfl ⟨false, rfl, rfl, H⟩
      ·try dsimp only at hF
       refine nq (Q_assign rfl) rfl rfl <| WL_nil <| x_then <| C_seq ?_
       obtain ⟨o1626, ho1626, hF⟩ := bnd hF
       refine C_cut (fun a w' => ∃ (x1625 : Bool), x1625 = o1626 ∧ Fr 133 a [(2, .int .i64 x10), (3, .pointer (some ⟨b1437, 0, none⟩)), (9, .pointer (some ⟨b1464, 0, none⟩)), (13, .pointer (some ⟨b1593, 0, none⟩)), (77, .bool x1625)] ∧ Hp C w' ρ (Box b1593 [v1594, .int .i64 (x2.length : Int)] :: Arr v1594 1 c1595 :: Box b1437 [v1, v4] :: Box b1464 [v1465, .int .i64 (x2.length : Int)] :: Arr v1465 1 c1528 :: hs)) ?_ ?_
       ·refine R_nd <| nq (Q_move rfl) rfl rfl <| nq (v := .bool false) (Q_eqlP (o := (some ⟨b1593, 0, none⟩)) Tryz.underlying51 rfl) rfl rfl <| nq (Q_move rfl) rfl rfl <| gq (Q_move rfl) rfl rfl rfl <| gq (v := .bool false) (Q_eqlP (o := (some ⟨b1613, 0, none⟩)) Tryz.underlying51 rfl) rfl rfl rfl <| nq (Q_pickF rfl rfl) rfl rfl <| nq (Q_move rfl) rfl rfl <| gq (Q_move rfl) rfl rfl rfl <| gq (Q_move rfl) rfl rfl rfl ?_
        replace H := H.f1
        replace H := H.f1
        replace H := H.f3
        replace H := H.f3
        obtain ⟨q1627, hq1627, ho1626⟩ := bnd ho1626
        refine ge (E_call fn31 rfl (c_31 H gle gl18 r1617 r1597 hq1627)) rfl rfl rfl ?_
        rintro _ wd1630 ⟨x1629, rfl, rfl, H⟩
        try dsimp only at ho1626
        refine gq (Q_not rfl) rfl rfl rfl <| nq (Q_pickF rfl rfl) rfl rfl <| WL_nil ?_
        replace H := H.f5
        replace H := H.f5
        replace H := H.f6
        replace H := H.f6
        replace H := H.f6
        replace H := H.drop 5 rfl
        dsimp only [List.eraseIdx] at H
        replace H := H.drop 5 rfl
        dsimp only [List.eraseIdx] at H
        obtain rfl := Option.some.inj ho1626
        refine x_A fun a hf => ⟨!x1629, rfl, hf.sub ⟨rfl, rfl, rfl, rfl, rfl, trivial⟩, H⟩
       ·rintro a wd1631 ⟨x1625, rfl, hf, H⟩
        try dsimp only at hF
        refine CW.at hf ?_
        refine C_cond rfl (fun hb => ?_) (fun hb => ?_)
        ·replace hF := itT hb hF
         refine C_seq <| R_nd <| nq (Q_assign rfl) rfl rfl <| WL_nil <| x_then <| C_ret <| x_then_ret ?_
         replace H := H.drop 0 rfl
         dsimp only [List.eraseIdx] at H
         replace H := H.drop 0 rfl
         dsimp only [List.eraseIdx] at H
         replace H := H.drop 0 rfl
         dsimp only [List.eraseIdx] at H
         replace H := H.drop 0 rfl
         dsimp only [List.eraseIdx] at H
         replace H := H.drop 0 rfl
         dsimp only [List.eraseIdx] at H
         obtain rfl := Option.some.inj hF
         exact fn_ret (l := [.tmp 6]) (vs := [.bool false]) rfl rfl rfl ⟨false, rfl, rfl, H⟩
        ·replace hF := itF hb hF
         refine C_skip <| x_then <| C_seq <| C_seq <| R_nd <| nq (Q_move rfl) rfl rfl ?_
         replace H := H.f4
         replace H := H.f4
         obtain ⟨q1632, hq1632, hF⟩ := bnd hF
         refine ne (E_call fn32 rfl (c_32 H gle gl18 r1530 hq1632)) rfl rfl ?_
         rintro _ wd1638 ⟨v1634, c1635, x1636, rfl, rfl, r1637, H⟩
         try dsimp only at hF
         refine nq (Q_lenA (k := 2) H.ok rfl r1637 (by decide) Tryz.underlying23 rfl) rfl rfl <| nq (Q_move rfl) rfl rfl <| WL_nil <| x_then ?_
         obtain ⟨o1679, ho1679, hF⟩ := bnd hF
         refine C_cutQ (fun a w' => .inl () = o1679 ∧ Fr 133 a [(2, .int .i64 x10), (3, .pointer (some ⟨b1437, 0, none⟩)), (9, .pointer (some ⟨b1464, 0, none⟩)), (13, .pointer (some ⟨b1593, 0, none⟩))] ∧ Hp C w' ρ (Box b1593 [v1594, .int .i64 (x2.length : Int)] :: Arr v1594 1 c1595 :: Box b1437 [v1, v4] :: Box b1464 [v1465, .int .i64 (x2.length : Int)] :: Arr v1465 1 c1528 :: hs)) ?_ ?_
         ·refine C_block ?_
          replace H := H.f1
          replace H := H.f1
          replace H := H.f2
          replace H := H.f5
          replace H := H.f5
          replace H := H.f5
          refine C_iter (f := fun s => F_dofferlaw16_WalkClosed_l1 N x2 x1596 x1636 s) ho1679 (fun s a w' => ∃ (x1692 : Int), x1692 = s ∧ Fr 133 a [(2, .int .i64 x10), (3, .pointer (some ⟨b1437, 0, none⟩)), (9, .pointer (some ⟨b1464, 0, none⟩)), (13, .pointer (some ⟨b1593, 0, none⟩)), (79, v1634), (80, .int .i64 (x1636.length : Int)), (81, .int .i64 x1692)] ∧ Hp C w' ρ (Box b1593 [v1594, .int .i64 (x2.length : Int)] :: Arr v1594 1 c1595 :: Box b1437 [v1, v4] :: Arr v1634 1 c1635 :: Box b1464 [v1465, .int .i64 (x2.length : Int)] :: Arr v1465 1 c1528 :: hs)) ?_ ?_
          ·exact fun a hf => ⟨0, rfl, hf.sub ⟨rfl, rfl, rfl, rfl, rfl, rfl, rfl, trivial⟩, H⟩
          ·rintro s o1705 a wd1708 ⟨x1692, rfl, hf, H⟩ hB1706 hO1707
           replace hB1706 : F_dofferlaw16_WalkClosed_l1 N x2 x1596 x1636 x1692 = some o1705 := hB1706
           unfold F_dofferlaw16_WalkClosed_l1 at hB1706
           refine CW.at hf <| C_seq <| R_nd <| nq (Q_lss rfl rfl) rfl rfl <| WL_nil <| x_then <| C_seq ?_
           refine C_cond rfl (fun hb => ?_) (fun hb => ?_)
           ·replace hB1706 := itT hb hB1706
            refine C_skip <| x_then <| C_seq <| C_block <| C_seq <| R_nd ?_
            obtain ⟨x1709, hx1709, hB1706⟩ := bnd hB1706
            obtain ⟨b1710, o1711, hi1715, hc1713, ha1714⟩ := arr_at (hs := [Arr v1634 1 c1635]) (k := 0) (by decide) (H.okS (by simp)) rfl r1637 hx1709
            refine nq (Q_idx hi1715 Tryz.underlying23 ty3 rfl rfl) rfl rfl <| nq (v := .int .i64 x1709) (Q_ld (show cellsAt _ _ _ [.int .i64 x1709] from (show _ = [_] from hc1713) ▸ (ha1714 _ (Ok.subS (by simp) H.ok))) ty3 rfl (fun _ => rfl) rfl rfl) rfl rfl <| nq (Q_assign rfl) rfl rfl <| WL_nil <| x_then <| C_seq <| R_nd <| nq (Q_move rfl) rfl rfl <| nq (Q_move rfl) rfl rfl ?_
            replace H := H.f1
            replace H := H.f1
            obtain ⟨q1716, hq1716, hB1706⟩ := bnd hB1706
            refine ne (E_call fn33 rfl (c_33 H gle  r1597 hq1716)) rfl rfl ?_
            rintro _ wd1719 ⟨x1718, rfl, rfl, H⟩
            try dsimp only at hB1706
            refine nq (Q_not rfl) rfl rfl <| WL_nil <| x_then ?_
            refine C_cond rfl (fun hb => ?_) (fun hb => ?_)
            ·replace hB1706 := itT hb hB1706
             refine C_seq <| R_nd <| nq (Q_assign rfl) rfl rfl <| WL_nil <| x_then <| C_ret <| x_block_ret <| x_then_ret <| x_then_ret <| x_block_ret <| x_then_ret <| x_then_ret ?_
             replace H := H.drop 0 rfl
             dsimp only [List.eraseIdx] at H
             replace H := H.drop 0 rfl
             dsimp only [List.eraseIdx] at H
             replace H := H.drop 0 rfl
             dsimp only [List.eraseIdx] at H
             replace H := H.drop 0 rfl
             dsimp only [List.eraseIdx] at H
             replace H := H.drop 0 rfl
             dsimp only [List.eraseIdx] at H
             replace H := H.drop 0 rfl
             dsimp only [List.eraseIdx] at H
             obtain rfl := Option.some.inj hB1706
             obtain rfl := hO1707 _ rfl
             obtain rfl := Option.some.inj (show some _ = some _ from hF)
             exact fn_ret (l := [.tmp 6]) (vs := [.bool false]) rfl rfl rfl ⟨false, rfl, rfl, H⟩
            ·replace hB1706 := itF hb hB1706
             refine C_skip <| x_block <| x_then <| R_nd <| nq (Q_add rfl rfl) rfl rfl <| nq (Q_move rfl) rfl rfl <| WL_nil ?_
             replace H := H.f5
             replace H := H.f5
             replace H := H.f5
             replace H := H.f5
             replace H := H.f5
             replace H := H.f5
             obtain rfl := Option.some.inj hB1706
             refine x_A fun a hf => ⟨_, rfl, w64 (x1692 + 1), rfl, hf.sub ⟨rfl, rfl, rfl, rfl, rfl, rfl, rfl, trivial⟩, H⟩
           ·replace hB1706 := itF hb hB1706
            refine C_exit <| x_then_exit <| x_then_exit <| x_block_exit ?_
            replace H := H.f5
            replace H := H.f5
            replace H := H.f4
            replace H := H.f4
            replace H := H.f4
            replace H := H.drop 5 rfl
            dsimp only [List.eraseIdx] at H
            obtain rfl := Option.some.inj hB1706
            obtain rfl := hO1707 _ rfl
            refine x_A fun a hf => ⟨rfl, hf.sub ⟨rfl, rfl, rfl, rfl, trivial⟩, H⟩
         ·rintro a wd1720 ⟨rfl, hf, H⟩
          try dsimp only at hF
          refine XX.at hf <| x_then <| C_seq <| R_nd <| nq (Q_move rfl) rfl rfl <| nq (Q_move rfl) rfl rfl ?_
          replace H := H.f4
          replace H := H.f4
          obtain ⟨q1721, hq1721, hF⟩ := bnd hF
          refine ne (E_call fn29 rfl (c_29 H gle  r1530 hq1721)) rfl rfl ?_
          rintro _ wd1727 ⟨c1723, x1724, x1725, rfl, rfl, r1726, H⟩
          try dsimp only at hF
          refine WL_nil <| x_then <| C_seq <| R_nd <| nq (v := .agg #[v1, v4]) (Q_ldB (k := 4) (cs := [v1, v4]) H.ok rfl ty25 rfl rfl rfl (fun h => nomatch h) rfl) rfl rfl <| nq (Q_move rfl) rfl rfl ?_
          replace H := H.f1
          replace H := H.f1
          obtain ⟨q1728, hq1728, hF⟩ := bnd hF
          refine ne (E_call fn30 rfl (c_30 H gle gl18 r3 r6 r1726 hq1728)) rfl rfl ?_
          rintro _ wd1735 (⟨rfl, rfl, H⟩ | ⟨b1730, v1731, c1732, x1733, rfl, rfl, r1734, H⟩)
          ·try dsimp only at hF
           refine nq (Q_assign rfl) rfl rfl <| WL_nil <| x_then <| C_seq <| C_seq <| R_nd <| nq (Q_move rfl) rfl rfl ?_
           replace H := H.f3
           replace H := H.f3
           obtain ⟨q1736, hq1736, hF⟩ := bnd hF
           refine ne (E_call fn32 rfl (c_32 H gle gl18 r1597 hq1736)) rfl rfl ?_
           rintro _ wd1742 ⟨v1738, c1739, x1740, rfl, rfl, r1741, H⟩
           try dsimp only at hF
           refine nq (Q_lenA (k := 2) H.ok rfl r1741 (by decide) Tryz.underlying23 rfl) rfl rfl <| nq (Q_move rfl) rfl rfl <| WL_nil <| x_then ?_
           obtain ⟨o1963, ho1963, hF⟩ := bnd hF
           refine C_cutQ (fun a w' => .inl () = o1963 ∧ Fr 133 a [] ∧ Hp C w' ρ (hs)) ?_ ?_
           ·refine C_block ?_
            replace H := H.f2
            replace H := H.f5
            replace H := H.f3
            replace H := H.f3
            replace H := H.drop 4 rfl
            dsimp only [List.eraseIdx] at H
            replace H := H.drop 4 rfl
            dsimp only [List.eraseIdx] at H
            refine C_iter (f := fun s => F_dofferlaw16_WalkClosed_l2 N x2 x1596 x1740) ho1963 (fun s a w' => () = s ∧ Fr 133 a [(3, .pointer (some ⟨b1437, 0, none⟩)), (13, .pointer (some ⟨b1593, 0, none⟩)), (17, .pointer none), (97, v1738), (98, .int .i64 (x1740.length : Int)), (99, .int .i64 0)] ∧ Hp C w' ρ (Box b1593 [v1594, .int .i64 (x2.length : Int)] :: Arr v1594 1 c1595 :: Box b1437 [v1, v4] :: Arr v1738 1 c1739 :: hs)) ?_ ?_
            ·exact fun a hf => ⟨rfl, hf.sub ⟨rfl, rfl, rfl, rfl, rfl, rfl, trivial⟩, H⟩
            ·rintro s o2072 a wd2075 ⟨rfl, hf, H⟩ hB2073 hO2074
             replace hB2073 : F_dofferlaw16_WalkClosed_l2 N x2 x1596 x1740 = some o2072 := hB2073
             unfold F_dofferlaw16_WalkClosed_l2 at hB2073
             refine CW.at hf <| C_seq <| R_nd <| nq (Q_lss rfl rfl) rfl rfl <| WL_nil <| x_then <| C_seq ?_
             refine C_cond rfl (fun hb => ?_) (fun hb => ?_)
             ·replace hB2073 := itT hb hB2073
              refine C_skip <| x_then <| C_seq <| C_block <| C_seq <| R_nd ?_
              obtain ⟨x2076, hx2076, hB2073⟩ := bnd hB2073
              obtain ⟨b2077, o2078, hi2082, hc2080, ha2081⟩ := arr_at (hs := [Arr v1738 1 c1739]) (k := 0) (by decide) (H.okS (by simp)) rfl r1741 hx2076
              refine nq (Q_idx hi2082 Tryz.underlying23 ty3 rfl rfl) rfl rfl <| nq (v := .int .i64 x2076) (Q_ld (show cellsAt _ _ _ [.int .i64 x2076] from (show _ = [_] from hc2080) ▸ (ha2081 _ (Ok.subS (by simp) H.ok))) ty3 rfl (fun _ => rfl) rfl rfl) rfl rfl <| nq (Q_assign rfl) rfl rfl <| WL_nil <| x_then <| C_seq ?_
              obtain ⟨o2084, ho2084, hB2073⟩ := bnd hB2073
              refine C_cut (fun a w' => ∃ (x2083 : Bool), x2083 = o2084 ∧ Fr 133 a [(3, .pointer (some ⟨b1437, 0, none⟩)), (13, .pointer (some ⟨b1593, 0, none⟩)), (17, .pointer none), (19, .int .i64 x2076), (97, v1738), (98, .int .i64 (x1740.length : Int)), (99, .int .i64 0), (111, .bool x2083)] ∧ Hp C w' ρ (Box b1593 [v1594, .int .i64 (x2.length : Int)] :: Arr v1594 1 c1595 :: Box b1437 [v1, v4] :: Arr v1738 1 c1739 :: hs)) ?_ ?_
              ·refine R_nd <| nq (Q_move rfl) rfl rfl <| nq (Q_lss rfl rfl) rfl rfl <| nq (Q_move rfl) rfl rfl ?_
               rcases Bool.eq_false_or_eq_true (decide (x2076 < 0)) with hb | hb
               ·rw [hb]
                replace ho2084 := itT hb ho2084
                refine gs rfl rfl rfl rfl <| gs rfl rfl rfl rfl <| gs rfl rfl rfl rfl <| gs rfl rfl rfl rfl <| gs rfl rfl rfl rfl <| nq (Q_pickT rfl rfl) rfl rfl <| WL_nil ?_
                replace H := H.f3
                replace H := H.f3
                replace H := H.f3
                replace H := H.f3
                obtain rfl := Option.some.inj ho2084
                refine x_A fun a hf => ⟨true, rfl, hf.sub ⟨rfl, rfl, rfl, rfl, rfl, rfl, rfl, rfl, trivial⟩, H⟩
               ·rw [hb]
                replace ho2084 := itF hb ho2084
                refine gq (Q_move rfl) rfl rfl rfl <| gq (v := .pointer (some ⟨b1437, 0, none⟩)) (Q_fld Tryz.underlying25 rfl ty22 (by decide) rfl rfl) rfl rfl rfl <| gq (v := v1) (Q_ldB (k := 2) (cs := [v1]) H.ok rfl ty22 rfl rfl rfl (fun _ => rfl) rfl) rfl rfl rfl <| gq (Q_len Tryz.underlying22 rfl r3) rfl rfl rfl <| gq (Q_geq rfl rfl) rfl rfl rfl <| nq (Q_pickF rfl rfl) rfl rfl <| WL_nil ?_
                replace H := H.f3
                replace H := H.f3
                replace H := H.f3
                replace H := H.f3
                obtain rfl := Option.some.inj ho2084
                refine x_A fun a hf => ⟨decide (x2076 ≥ (x2.length : Int)), rfl, hf.sub ⟨rfl, rfl, rfl, rfl, rfl, rfl, rfl, rfl, trivial⟩, H⟩
              ·rintro a wd2085 ⟨x2083, rfl, hf, H⟩
               try dsimp only at hB2073
               refine CW.at hf ?_
               refine C_cond rfl (fun hb => ?_) (fun hb => ?_)
               ·replace hB2073 := itT hb hB2073
                refine C_seq <| R_nd <| nq (Q_assign rfl) rfl rfl <| WL_nil <| x_then <| C_ret <| x_then_ret <| x_block_ret <| x_then_ret <| x_then_ret <| x_block_ret <| x_then_ret <| x_then_ret ?_
                replace H := H.drop 0 rfl
                dsimp only [List.eraseIdx] at H
                replace H := H.drop 0 rfl
                dsimp only [List.eraseIdx] at H
                replace H := H.drop 0 rfl
                dsimp only [List.eraseIdx] at H
                replace H := H.drop 0 rfl
                dsimp only [List.eraseIdx] at H
                obtain rfl := Option.some.inj hB2073
                obtain rfl := hO2074 _ rfl
                obtain rfl := Option.some.inj (show some _ = some _ from hF)
                exact fn_ret (l := [.tmp 6]) (vs := [.bool false]) rfl rfl rfl ⟨false, rfl, rfl, H⟩
               ·replace hB2073 := itF hb hB2073
                refine C_skip <| x_then <| C_seq <| C_seq <| R_nd <| nq (v := .pointer (some ⟨b1437, 0, none⟩)) (Q_fld Tryz.underlying25 rfl ty22 (by decide) rfl rfl) rfl rfl <| nq (v := v1) (Q_ldB (k := 2) (cs := [v1]) H.ok rfl ty22 rfl rfl rfl (fun _ => rfl) rfl) rfl rfl <| nq (Q_move rfl) rfl rfl ?_
                obtain ⟨x2086, hx2086, hB2073⟩ := bnd hB2073
                obtain ⟨b2087, o2088, c2089, hc2090, ha2091, hi2092⟩ := idxR r3 hx2086
                refine nq (Q_idx hi2092 Tryz.underlying22 ty41 rfl rfl) rfl rfl <| nq (v := .pointer (some ⟨b2087, o2088 + 0, none⟩)) (Q_fld Tryz.underlying41 rfl ty23 (by decide) rfl (Addr.add_none _ _ _)) rfl rfl ?_
                obtain ⟨c2093, hc2094, ha2095⟩ := fstR hc2090 ha2091
                obtain ⟨v2096, he2097, r2098⟩ := (id hc2094)
                refine nq (v := v2096) (Q_ld (show cellsAt _ _ _ [v2096] from he2097 ▸ (ha2095.up H.ok.view)) ty23 rfl (fun _ => rfl) rfl rfl) rfl rfl <| nq (Q_len Tryz.underlying23 rfl r2098) rfl rfl <| nq (Q_move rfl) rfl rfl <| WL_nil <| x_then ?_
                obtain ⟨o2139, ho2139, hB2073⟩ := bnd hB2073
                refine C_cutQ (fun a w' => .inl () = o2139 ∧ Fr 133 a [(3, .pointer (some ⟨b1437, 0, none⟩)), (13, .pointer (some ⟨b1593, 0, none⟩)), (17, .pointer none), (19, .int .i64 x2076), (97, v1738), (98, .int .i64 (x1740.length : Int)), (99, .int .i64 0)] ∧ Hp C w' ρ (Box b1593 [v1594, .int .i64 (x2.length : Int)] :: Arr v1594 1 c1595 :: Box b1437 [v1, v4] :: Arr v1738 1 c1739 :: hs)) ?_ ?_
                ·refine C_block ?_
                 replace H := H.f3
                 replace H := H.f3
                 replace H := H.f3
                 replace H := H.f3
                 refine C_iter (f := fun s => F_dofferlaw16_WalkClosed_l3 N x2 x1596 x2086 s) ho2139 (fun s a w' => ∃ (x2152 : Int), x2152 = s ∧ Fr 133 a [(3, .pointer (some ⟨b1437, 0, none⟩)), (13, .pointer (some ⟨b1593, 0, none⟩)), (17, .pointer none), (19, .int .i64 x2076), (97, v1738), (98, .int .i64 (x1740.length : Int)), (99, .int .i64 0), (117, v2096), (118, .int .i64 (x2086.1.length : Int)), (119, .int .i64 x2152)] ∧ Hp C w' ρ (Box b1593 [v1594, .int .i64 (x2.length : Int)] :: Arr v1594 1 c1595 :: Box b1437 [v1, v4] :: Arr v1738 1 c1739 :: hs)) ?_ ?_
                 ·exact fun a hf => ⟨0, rfl, hf.sub ⟨rfl, rfl, rfl, rfl, rfl, rfl, rfl, rfl, rfl, rfl, trivial⟩, H⟩
                 ·rintro s o2165 a wd2168 ⟨x2152, rfl, hf, H⟩ hB2166 hO2167
                  replace hB2166 : F_dofferlaw16_WalkClosed_l3 N x2 x1596 x2086 x2152 = some o2165 := hB2166
                  unfold F_dofferlaw16_WalkClosed_l3 at hB2166
                  refine CW.at hf <| C_seq <| R_nd <| nq (Q_lss rfl rfl) rfl rfl <| WL_nil <| x_then <| C_seq ?_
                  refine C_cond rfl (fun hb => ?_) (fun hb => ?_)
                  ·replace hB2166 := itT hb hB2166
                   refine C_skip <| x_then <| C_seq <| C_block <| C_seq <| R_nd ?_
                   obtain ⟨x2169, hx2169, hB2166⟩ := bnd hB2166
                   obtain ⟨b2170, o2171, c2172, hc2173, ha2174, hi2175⟩ := idxR r2098 hx2169
                   refine nq (Q_idx hi2175 Tryz.underlying23 ty3 rfl rfl) rfl rfl <| nq (v := .int .i64 x2169) (Q_ld (show cellsAt _ _ _ [.int .i64 x2169] from (show _ = [_] from hc2173) ▸ (ha2174.up H.ok.view)) ty3 rfl (fun _ => rfl) rfl rfl) rfl rfl <| nq (Q_assign rfl) rfl rfl <| WL_nil <| x_then <| C_seq <| R_nd <| nq (Q_move rfl) rfl rfl <| nq (Q_move rfl) rfl rfl ?_
                   replace H := H.f1
                   replace H := H.f1
                   obtain ⟨q2176, hq2176, hB2166⟩ := bnd hB2166
                   refine ne (E_call fn33 rfl (c_33 H gle  r1597 hq2176)) rfl rfl ?_
                   rintro _ wd2179 ⟨x2178, rfl, rfl, H⟩
                   try dsimp only at hB2166
                   refine nq (Q_not rfl) rfl rfl <| WL_nil <| x_then ?_
                   refine C_cond rfl (fun hb => ?_) (fun hb => ?_)
                   ·replace hB2166 := itT hb hB2166
                    refine C_seq <| R_nd <| nq (Q_assign rfl) rfl rfl <| WL_nil <| x_then <| C_ret <| x_block_ret <| x_then_ret <| x_then_ret <| x_block_ret <| x_then_ret <| x_then_ret <| x_block_ret <| x_then_ret ?_
                    refine x_then_ret <| x_block_ret <| x_then_ret <| x_then_ret ?_
                    replace H := H.drop 0 rfl
                    dsimp only [List.eraseIdx] at H
                    replace H := H.drop 0 rfl
                    dsimp only [List.eraseIdx] at H
                    replace H := H.drop 0 rfl
                    dsimp only [List.eraseIdx] at H
                    replace H := H.drop 0 rfl
                    dsimp only [List.eraseIdx] at H
                    obtain rfl := Option.some.inj hB2166
                    obtain rfl := hO2167 _ rfl
                    obtain rfl := Option.some.inj (show some _ = some _ from hB2073)
                    obtain rfl := hO2074 _ rfl
                    obtain rfl := Option.some.inj (show some _ = some _ from hF)
                    exact fn_ret (l := [.tmp 6]) (vs := [.bool false]) rfl rfl rfl ⟨false, rfl, rfl, H⟩
                   ·replace hB2166 := itF hb hB2166
                    refine C_skip <| x_block <| x_then <| R_nd <| nq (Q_add rfl rfl) rfl rfl <| nq (Q_move rfl) rfl rfl <| WL_nil ?_
                    replace H := H.f3
                    replace H := H.f3
                    replace H := H.f3
                    replace H := H.f3
                    obtain rfl := Option.some.inj hB2166
                    refine x_A fun a hf => ⟨_, rfl, w64 (x2152 + 1), rfl, hf.sub ⟨rfl, rfl, rfl, rfl, rfl, rfl, rfl, rfl, rfl, rfl, trivial⟩, H⟩
                  ·replace hB2166 := itF hb hB2166
                   refine C_exit <| x_then_exit <| x_then_exit <| x_block_exit ?_
                   replace H := H.f3
                   replace H := H.f3
                   replace H := H.f3
                   replace H := H.f3
                   obtain rfl := Option.some.inj hB2166
                   obtain rfl := hO2167 _ rfl
                   refine x_A fun a hf => ⟨rfl, hf.sub ⟨rfl, rfl, rfl, rfl, rfl, rfl, rfl, trivial⟩, H⟩
                ·rintro a wd2180 ⟨rfl, hf, H⟩
                 try dsimp only at hB2073
                 refine XX.at hf <| x_then <| C_seq <| R_nd <| nq (Q_move rfl) rfl rfl <| nq (Q_move rfl) rfl rfl ?_
                 obtain ⟨q2181, hq2181, hB2073⟩ := bnd hB2073
                 refine ne (E_call fn33 rfl (c_33_1 H gle   hq2181)) rfl rfl ?_
                 rintro _ wd2183 ⟨rfl, rfl, H⟩
                 try dsimp only at hB2073
                 refine nq (Q_not rfl) rfl rfl <| WL_nil <| x_then ?_
                 refine C_cond rfl (fun _ => ?_) (fun h => nomatch h)
                 refine C_seq <| R_nd <| nq (Q_assign rfl) rfl rfl <| WL_nil <| x_then <| C_ret <| x_block_ret <| x_then_ret <| x_then_ret <| x_block_ret <| x_then_ret <| x_then_ret ?_
                 replace H := H.drop 0 rfl
                 dsimp only [List.eraseIdx] at H
                 replace H := H.drop 0 rfl
                 dsimp only [List.eraseIdx] at H
                 replace H := H.drop 0 rfl
                 dsimp only [List.eraseIdx] at H
                 replace H := H.drop 0 rfl
                 dsimp only [List.eraseIdx] at H
                 obtain rfl := Option.some.inj hB2073
                 obtain rfl := hO2074 _ rfl
                 obtain rfl := Option.some.inj (show some _ = some _ from hF)
                 exact fn_ret (l := [.tmp 6]) (vs := [.bool false]) rfl rfl rfl ⟨false, rfl, rfl, H⟩
             ·replace hB2073 := itF hb hB2073
              refine C_exit <| x_then_exit <| x_then_exit <| x_block_exit ?_
              replace H := H.drop 0 rfl
              dsimp only [List.eraseIdx] at H
              replace H := H.drop 0 rfl
              dsimp only [List.eraseIdx] at H
              replace H := H.drop 0 rfl
              dsimp only [List.eraseIdx] at H
              replace H := H.drop 0 rfl
              dsimp only [List.eraseIdx] at H
              obtain rfl := Option.some.inj hB2073
              obtain rfl := hO2074 _ rfl
              refine x_A fun a hf => ⟨rfl, hf.sub trivial, H⟩
           ·rintro a wd2184 ⟨rfl, hf, H⟩
            try dsimp only at hF
            refine XX.at hf <| x_then <| C_seq <| R_nd <| nq (Q_assign rfl) rfl rfl <| WL_nil <| x_then <| C_ret ?_
            obtain rfl := Option.some.inj hF
            exact fn_ret (l := [.tmp 6]) (vs := [.bool true]) rfl rfl rfl ⟨true, rfl, rfl, H⟩
          ·try dsimp only at hF
           refine nq (Q_assign rfl) rfl rfl <| WL_nil <| x_then <| C_seq <| C_seq <| R_nd <| nq (Q_move rfl) rfl rfl ?_
           replace H := H.f5
           replace H := H.f5
           obtain ⟨q2185, hq2185, hF⟩ := bnd hF
           refine ne (E_call fn32 rfl (c_32 H gle gl18 r1597 hq2185)) rfl rfl ?_
           rintro _ wd2191 ⟨v2187, c2188, x2189, rfl, rfl, r2190, H⟩
           try dsimp only at hF
           refine nq (Q_lenA (k := 2) H.ok rfl r2190 (by decide) Tryz.underlying23 rfl) rfl rfl <| nq (Q_move rfl) rfl rfl <| WL_nil <| x_then ?_
           obtain ⟨o2526, ho2526, hF⟩ := bnd hF
           refine C_cutQ (fun a w' => .inl () = o2526 ∧ Fr 133 a [] ∧ Hp C w' ρ (hs)) ?_ ?_
           ·refine C_block ?_
            replace H := H.f2
            replace H := H.f7
            replace H := H.f7
            replace H := H.f7
            replace H := H.f5
            replace H := H.f5
            replace H := H.drop 6 rfl
            dsimp only [List.eraseIdx] at H
            replace H := H.drop 6 rfl
            dsimp only [List.eraseIdx] at H
            refine C_iter (f := fun s => F_dofferlaw16_WalkClosed_l4 N x2 x1596 x1733 x2189 s) ho2526 (fun s a w' => ∃ (x2637 : Int), x2637 = s ∧ Fr 133 a [(3, .pointer (some ⟨b1437, 0, none⟩)), (13, .pointer (some ⟨b1593, 0, none⟩)), (17, .pointer (some ⟨b1730, 0, none⟩)), (97, v2187), (98, .int .i64 (x2189.length : Int)), (99, .int .i64 x2637)] ∧ Hp C w' ρ (Box b1593 [v1594, .int .i64 (x2.length : Int)] :: Arr v1594 1 c1595 :: Box b1730 [v1731, .int .i64 (x2.length : Int)] :: Arr v1731 1 c1732 :: Box b1437 [v1, v4] :: Arr v2187 1 c2188 :: hs)) ?_ ?_
            ·exact fun a hf => ⟨0, rfl, hf.sub ⟨rfl, rfl, rfl, rfl, rfl, rfl, trivial⟩, H⟩
            ·rintro s o2748 a wd2751 ⟨x2637, rfl, hf, H⟩ hB2749 hO2750
             replace hB2749 : F_dofferlaw16_WalkClosed_l4 N x2 x1596 x1733 x2189 x2637 = some o2748 := hB2749
             unfold F_dofferlaw16_WalkClosed_l4 at hB2749
             refine CW.at hf <| C_seq <| R_nd <| nq (Q_lss rfl rfl) rfl rfl <| WL_nil <| x_then <| C_seq ?_
             refine C_cond rfl (fun hb => ?_) (fun hb => ?_)
             ·replace hB2749 := itT hb hB2749
              refine C_skip <| x_then <| C_seq <| C_block <| C_seq <| R_nd ?_
              obtain ⟨x2752, hx2752, hB2749⟩ := bnd hB2749
              obtain ⟨b2753, o2754, hi2758, hc2756, ha2757⟩ := arr_at (hs := [Arr v2187 1 c2188]) (k := 0) (by decide) (H.okS (by simp)) rfl r2190 hx2752
              refine nq (Q_idx hi2758 Tryz.underlying23 ty3 rfl rfl) rfl rfl <| nq (v := .int .i64 x2752) (Q_ld (show cellsAt _ _ _ [.int .i64 x2752] from (show _ = [_] from hc2756) ▸ (ha2757 _ (Ok.subS (by simp) H.ok))) ty3 rfl (fun _ => rfl) rfl rfl) rfl rfl <| nq (Q_assign rfl) rfl rfl <| WL_nil <| x_then <| C_seq ?_
              obtain ⟨o2760, ho2760, hB2749⟩ := bnd hB2749
              refine C_cut (fun a w' => ∃ (x2759 : Bool), x2759 = o2760 ∧ Fr 133 a [(3, .pointer (some ⟨b1437, 0, none⟩)), (13, .pointer (some ⟨b1593, 0, none⟩)), (17, .pointer (some ⟨b1730, 0, none⟩)), (19, .int .i64 x2752), (97, v2187), (98, .int .i64 (x2189.length : Int)), (99, .int .i64 x2637), (111, .bool x2759)] ∧ Hp C w' ρ (Box b1593 [v1594, .int .i64 (x2.length : Int)] :: Arr v1594 1 c1595 :: Box b1730 [v1731, .int .i64 (x2.length : Int)] :: Arr v1731 1 c1732 :: Box b1437 [v1, v4] :: Arr v2187 1 c2188 :: hs)) ?_ ?_
              ·refine R_nd <| nq (Q_move rfl) rfl rfl <| nq (Q_lss rfl rfl) rfl rfl <| nq (Q_move rfl) rfl rfl ?_
               rcases Bool.eq_false_or_eq_true (decide (x2752 < 0)) with hb | hb
               ·rw [hb]
                replace ho2760 := itT hb ho2760
                refine gs rfl rfl rfl rfl <| gs rfl rfl rfl rfl <| gs rfl rfl rfl rfl <| gs rfl rfl rfl rfl <| gs rfl rfl rfl rfl <| nq (Q_pickT rfl rfl) rfl rfl <| WL_nil ?_
                replace H := H.f5
                replace H := H.f5
                replace H := H.f5
                replace H := H.f5
                replace H := H.f5
                replace H := H.f5
                obtain rfl := Option.some.inj ho2760
                refine x_A fun a hf => ⟨true, rfl, hf.sub ⟨rfl, rfl, rfl, rfl, rfl, rfl, rfl, rfl, trivial⟩, H⟩
               ·rw [hb]
                replace ho2760 := itF hb ho2760
                refine gq (Q_move rfl) rfl rfl rfl <| gq (v := .pointer (some ⟨b1437, 0, none⟩)) (Q_fld Tryz.underlying25 rfl ty22 (by decide) rfl rfl) rfl rfl rfl <| gq (v := v1) (Q_ldB (k := 4) (cs := [v1]) H.ok rfl ty22 rfl rfl rfl (fun _ => rfl) rfl) rfl rfl rfl <| gq (Q_len Tryz.underlying22 rfl r3) rfl rfl rfl <| gq (Q_geq rfl rfl) rfl rfl rfl <| nq (Q_pickF rfl rfl) rfl rfl <| WL_nil ?_
                replace H := H.f5
                replace H := H.f5
                replace H := H.f5
                replace H := H.f5
                replace H := H.f5
                replace H := H.f5
                obtain rfl := Option.some.inj ho2760
                refine x_A fun a hf => ⟨decide (x2752 ≥ (x2.length : Int)), rfl, hf.sub ⟨rfl, rfl, rfl, rfl, rfl, rfl, rfl, rfl, trivial⟩, H⟩
              ·rintro a wd2761 ⟨x2759, rfl, hf, H⟩
               try dsimp only at hB2749
               refine CW.at hf ?_
               refine C_cond rfl (fun hb => ?_) (fun hb => ?_)
               ·replace hB2749 := itT hb hB2749
                refine C_seq <| R_nd <| nq (Q_assign rfl) rfl rfl <| WL_nil <| x_then <| C_ret <| x_then_ret <| x_block_ret <| x_then_ret <| x_then_ret <| x_block_ret <| x_then_ret <| x_then_ret ?_
                replace H := H.drop 0 rfl
                dsimp only [List.eraseIdx] at H
                replace H := H.drop 0 rfl
                dsimp only [List.eraseIdx] at H
                replace H := H.drop 0 rfl
                dsimp only [List.eraseIdx] at H
                replace H := H.drop 0 rfl
                dsimp only [List.eraseIdx] at H
                replace H := H.drop 0 rfl
                dsimp only [List.eraseIdx] at H
                replace H := H.drop 0 rfl
                dsimp only [List.eraseIdx] at H
                obtain rfl := Option.some.inj hB2749
                obtain rfl := hO2750 _ rfl
                obtain rfl := Option.some.inj (show some _ = some _ from hF)
                exact fn_ret (l := [.tmp 6]) (vs := [.bool false]) rfl rfl rfl ⟨false, rfl, rfl, H⟩
               ·replace hB2749 := itF hb hB2749
                refine C_skip <| x_then <| C_seq <| C_seq <| R_nd <| nq (v := .pointer (some ⟨b1437, 0, none⟩)) (Q_fld Tryz.underlying25 rfl ty22 (by decide) rfl rfl) rfl rfl <| nq (v := v1) (Q_ldB (k := 4) (cs := [v1]) H.ok rfl ty22 rfl rfl rfl (fun _ => rfl) rfl) rfl rfl <| nq (Q_move rfl) rfl rfl ?_
                obtain ⟨x2762, hx2762, hB2749⟩ := bnd hB2749
                obtain ⟨b2763, o2764, c2765, hc2766, ha2767, hi2768⟩ := idxR r3 hx2762
                refine nq (Q_idx hi2768 Tryz.underlying22 ty41 rfl rfl) rfl rfl <| nq (v := .pointer (some ⟨b2763, o2764 + 0, none⟩)) (Q_fld Tryz.underlying41 rfl ty23 (by decide) rfl (Addr.add_none _ _ _)) rfl rfl ?_
                obtain ⟨c2769, hc2770, ha2771⟩ := fstR hc2766 ha2767
                obtain ⟨v2772, he2773, r2774⟩ := (id hc2770)
                refine nq (v := v2772) (Q_ld (show cellsAt _ _ _ [v2772] from he2773 ▸ (ha2771.up H.ok.view)) ty23 rfl (fun _ => rfl) rfl rfl) rfl rfl <| nq (Q_len Tryz.underlying23 rfl r2774) rfl rfl <| nq (Q_move rfl) rfl rfl <| WL_nil <| x_then ?_
                obtain ⟨o2815, ho2815, hB2749⟩ := bnd hB2749
                refine C_cutQ (fun a w' => .inl () = o2815 ∧ Fr 133 a [(3, .pointer (some ⟨b1437, 0, none⟩)), (13, .pointer (some ⟨b1593, 0, none⟩)), (17, .pointer (some ⟨b1730, 0, none⟩)), (19, .int .i64 x2752), (97, v2187), (98, .int .i64 (x2189.length : Int)), (99, .int .i64 x2637)] ∧ Hp C w' ρ (Box b1593 [v1594, .int .i64 (x2.length : Int)] :: Arr v1594 1 c1595 :: Box b1730 [v1731, .int .i64 (x2.length : Int)] :: Arr v1731 1 c1732 :: Box b1437 [v1, v4] :: Arr v2187 1 c2188 :: hs)) ?_ ?_
                ·refine C_block ?_
                 replace H := H.f5
                 replace H := H.f5
                 replace H := H.f5
                 replace H := H.f5
                 replace H := H.f5
                 replace H := H.f5
                 refine C_iter (f := fun s => F_dofferlaw16_WalkClosed_l5 N x2 x1596 x2762 s) ho2815 (fun s a w' => ∃ (x2828 : Int), x2828 = s ∧ Fr 133 a [(3, .pointer (some ⟨b1437, 0, none⟩)), (13, .pointer (some ⟨b1593, 0, none⟩)), (17, .pointer (some ⟨b1730, 0, none⟩)), (19, .int .i64 x2752), (97, v2187), (98, .int .i64 (x2189.length : Int)), (99, .int .i64 x2637), (117, v2772), (118, .int .i64 (x2762.1.length : Int)), (119, .int .i64 x2828)] ∧ Hp C w' ρ (Box b1593 [v1594, .int .i64 (x2.length : Int)] :: Arr v1594 1 c1595 :: Box b1730 [v1731, .int .i64 (x2.length : Int)] :: Arr v1731 1 c1732 :: Box b1437 [v1, v4] :: Arr v2187 1 c2188 :: hs)) ?_ ?_
                 ·exact fun a hf => ⟨0, rfl, hf.sub ⟨rfl, rfl, rfl, rfl, rfl, rfl, rfl, rfl, rfl, rfl, trivial⟩, H⟩
                 ·rintro s o2841 a wd2844 ⟨x2828, rfl, hf, H⟩ hB2842 hO2843
                  replace hB2842 : F_dofferlaw16_WalkClosed_l5 N x2 x1596 x2762 x2828 = some o2841 := hB2842
                  unfold F_dofferlaw16_WalkClosed_l5 at hB2842
                  refine CW.at hf <| C_seq <| R_nd <| nq (Q_lss rfl rfl) rfl rfl <| WL_nil <| x_then <| C_seq ?_
                  refine C_cond rfl (fun hb => ?_) (fun hb => ?_)
                  ·replace hB2842 := itT hb hB2842
                   refine C_skip <| x_then <| C_seq <| C_block <| C_seq <| R_nd ?_
                   obtain ⟨x2845, hx2845, hB2842⟩ := bnd hB2842
                   obtain ⟨b2846, o2847, c2848, hc2849, ha2850, hi2851⟩ := idxR r2774 hx2845
                   refine nq (Q_idx hi2851 Tryz.underlying23 ty3 rfl rfl) rfl rfl <| nq (v := .int .i64 x2845) (Q_ld (show cellsAt _ _ _ [.int .i64 x2845] from (show _ = [_] from hc2849) ▸ (ha2850.up H.ok.view)) ty3 rfl (fun _ => rfl) rfl rfl) rfl rfl <| nq (Q_assign rfl) rfl rfl <| WL_nil <| x_then <| C_seq <| R_nd <| nq (Q_move rfl) rfl rfl <| nq (Q_move rfl) rfl rfl ?_
                   replace H := H.f1
                   replace H := H.f1
                   obtain ⟨q2852, hq2852, hB2842⟩ := bnd hB2842
                   refine ne (E_call fn33 rfl (c_33 H gle  r1597 hq2852)) rfl rfl ?_
                   rintro _ wd2855 ⟨x2854, rfl, rfl, H⟩
                   try dsimp only at hB2842
                   refine nq (Q_not rfl) rfl rfl <| WL_nil <| x_then ?_
                   refine C_cond rfl (fun hb => ?_) (fun hb => ?_)
                   ·replace hB2842 := itT hb hB2842
                    refine C_seq <| R_nd <| nq (Q_assign rfl) rfl rfl <| WL_nil <| x_then <| C_ret <| x_block_ret <| x_then_ret <| x_then_ret <| x_block_ret <| x_then_ret <| x_then_ret <| x_block_ret <| x_then_ret ?_
                    refine x_then_ret <| x_block_ret <| x_then_ret <| x_then_ret ?_
                    replace H := H.drop 0 rfl
                    dsimp only [List.eraseIdx] at H
                    replace H := H.drop 0 rfl
                    dsimp only [List.eraseIdx] at H
                    replace H := H.drop 0 rfl
                    dsimp only [List.eraseIdx] at H
                    replace H := H.drop 0 rfl
                    dsimp only [List.eraseIdx] at H
                    replace H := H.drop 0 rfl
                    dsimp only [List.eraseIdx] at H
                    replace H := H.drop 0 rfl
                    dsimp only [List.eraseIdx] at H
                    obtain rfl := Option.some.inj hB2842
                    obtain rfl := hO2843 _ rfl
                    obtain rfl := Option.some.inj (show some _ = some _ from hB2749)
                    obtain rfl := hO2750 _ rfl
                    obtain rfl := Option.some.inj (show some _ = some _ from hF)
                    exact fn_ret (l := [.tmp 6]) (vs := [.bool false]) rfl rfl rfl ⟨false, rfl, rfl, H⟩
                   ·replace hB2842 := itF hb hB2842
                    refine C_skip <| x_block <| x_then <| R_nd <| nq (Q_add rfl rfl) rfl rfl <| nq (Q_move rfl) rfl rfl <| WL_nil ?_
                    replace H := H.f5
                    replace H := H.f5
                    replace H := H.f5
                    replace H := H.f5
                    replace H := H.f5
                    replace H := H.f5
                    obtain rfl := Option.some.inj hB2842
                    refine x_A fun a hf => ⟨_, rfl, w64 (x2828 + 1), rfl, hf.sub ⟨rfl, rfl, rfl, rfl, rfl, rfl, rfl, rfl, rfl, rfl, trivial⟩, H⟩
                  ·replace hB2842 := itF hb hB2842
                   refine C_exit <| x_then_exit <| x_then_exit <| x_block_exit ?_
                   replace H := H.f5
                   replace H := H.f5
                   replace H := H.f5
                   replace H := H.f5
                   replace H := H.f5
                   replace H := H.f5
                   obtain rfl := Option.some.inj hB2842
                   obtain rfl := hO2843 _ rfl
                   refine x_A fun a hf => ⟨rfl, hf.sub ⟨rfl, rfl, rfl, rfl, rfl, rfl, rfl, trivial⟩, H⟩
                ·rintro a wd2856 ⟨rfl, hf, H⟩
                 try dsimp only at hB2749
                 refine XX.at hf <| x_then <| C_seq <| R_nd <| nq (Q_move rfl) rfl rfl <| nq (Q_move rfl) rfl rfl ?_
                 replace H := H.f3
                 replace H := H.f3
                 obtain ⟨q2857, hq2857, hB2749⟩ := bnd hB2749
                 refine ne (E_call fn33 rfl (c_33 H gle  r1734 hq2857)) rfl rfl ?_
                 rintro _ wd2860 ⟨x2859, rfl, rfl, H⟩
                 try dsimp only at hB2749
                 refine nq (Q_not rfl) rfl rfl <| WL_nil <| x_then ?_
                 refine C_cond rfl (fun hb => ?_) (fun hb => ?_)
                 ·replace hB2749 := itT hb hB2749
                  refine C_seq <| R_nd <| nq (Q_assign rfl) rfl rfl <| WL_nil <| x_then <| C_ret <| x_block_ret <| x_then_ret <| x_then_ret <| x_block_ret <| x_then_ret <| x_then_ret ?_
                  replace H := H.drop 0 rfl
                  dsimp only [List.eraseIdx] at H
                  replace H := H.drop 0 rfl
                  dsimp only [List.eraseIdx] at H
                  replace H := H.drop 0 rfl
                  dsimp only [List.eraseIdx] at H
                  replace H := H.drop 0 rfl
                  dsimp only [List.eraseIdx] at H
                  replace H := H.drop 0 rfl
                  dsimp only [List.eraseIdx] at H
                  replace H := H.drop 0 rfl
                  dsimp only [List.eraseIdx] at H
                  obtain rfl := Option.some.inj hB2749
                  obtain rfl := hO2750 _ rfl
                  obtain rfl := Option.some.inj (show some _ = some _ from hF)
                  exact fn_ret (l := [.tmp 6]) (vs := [.bool false]) rfl rfl rfl ⟨false, rfl, rfl, H⟩
                 ·replace hB2749 := itF hb hB2749
                  refine C_skip <| x_block <| x_then <| R_nd <| nq (Q_add rfl rfl) rfl rfl <| nq (Q_move rfl) rfl rfl <| WL_nil ?_
                  replace H := H.f5
                  replace H := H.f5
                  replace H := H.f3
                  replace H := H.f3
                  replace H := H.f5
                  replace H := H.f5
                  obtain rfl := Option.some.inj hB2749
                  refine x_A fun a hf => ⟨_, rfl, w64 (x2637 + 1), rfl, hf.sub ⟨rfl, rfl, rfl, rfl, rfl, rfl, trivial⟩, H⟩
             ·replace hB2749 := itF hb hB2749
              refine C_exit <| x_then_exit <| x_then_exit <| x_block_exit ?_
              replace H := H.drop 0 rfl
              dsimp only [List.eraseIdx] at H
              replace H := H.drop 0 rfl
              dsimp only [List.eraseIdx] at H
              replace H := H.drop 0 rfl
              dsimp only [List.eraseIdx] at H
              replace H := H.drop 0 rfl
              dsimp only [List.eraseIdx] at H
              replace H := H.drop 0 rfl
              dsimp only [List.eraseIdx] at H
              replace H := H.drop 0 rfl
              dsimp only [List.eraseIdx] at H
              obtain rfl := Option.some.inj hB2749
              obtain rfl := hO2750 _ rfl
              refine x_A fun a hf => ⟨rfl, hf.sub trivial, H⟩
           ·rintro a wd2861 ⟨rfl, hf, H⟩
            try dsimp only at hF
            refine XX.at hf <| x_then <| C_seq <| R_nd <| nq (Q_assign rfl) rfl rfl <| WL_nil <| x_then <| C_ret ?_
            obtain rfl := Option.some.inj hF
            exact fn_ret (l := [.tmp 6]) (vs := [.bool true]) rfl rfl rfl ⟨true, rfl, rfl, H⟩
end Go.Proofs.YtealkahefalaeaaGreatDoor
