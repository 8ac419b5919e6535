/-
  The walks of the law NfaBytes, printed by my program, part 1: each function of the code computes its pure function.
-/
import Derived.Test.YtealkahefalaeaaGreatDoorNfaBytesD1
import Derived.Test.YtealkahefalaeaaGreatDoorProg
import Derived.Test.YtealkahefalaeaaGreatDoorNfaBytesP1
namespace Go.Proofs.YtealkahefalaeaaGreatDoor
open Go Go.Eng
set_option maxRecDepth 100000
theorem ty3 : Ty Tryz.prog 3 1 8 (.int .i64 0) false := ⟨by kernel_rfl, by kernel_rfl⟩
theorem ty4 : Ty Tryz.prog 4 1 1 (.bool false) false := ⟨by kernel_rfl, by kernel_rfl⟩
theorem ty5 : Ty Tryz.prog 5 1 1 (.int .u8 0) false := ⟨by kernel_rfl, by kernel_rfl⟩
theorem ty22 : Ty Tryz.prog 22 1 24 (.slice none 0 0) false := ⟨by kernel_rfl, by kernel_rfl⟩
theorem ty23 : Ty Tryz.prog 23 1 24 (.slice none 0 0) false := ⟨by kernel_rfl, by kernel_rfl⟩
theorem ty25 : Ty Tryz.prog 25 2 48 (.agg ([.slice none 0 0, .slice none 0 0]).toArray) true := ⟨by kernel_rfl, by kernel_rfl⟩
theorem ty27 : Ty Tryz.prog 27 1 24 (.slice none 0 0) false := ⟨by kernel_rfl, by kernel_rfl⟩
theorem ty29 : Ty Tryz.prog 29 2 48 (.agg ([.slice none 0 0, .slice none 0 0]).toArray) true := ⟨by kernel_rfl, by kernel_rfl⟩
theorem ty37 : Ty Tryz.prog 37 1 8 (.int .u64 0) false := ⟨by kernel_rfl, by kernel_rfl⟩
theorem ty38 : Ty Tryz.prog 38 4 32 (.agg ([.int .u64 0, .int .u64 0, .int .u64 0, .int .u64 0]).toArray) true := ⟨by kernel_rfl, by kernel_rfl⟩
theorem ty39 : Ty Tryz.prog 39 4 32 (.agg ([.int .u64 0, .int .u64 0, .int .u64 0, .int .u64 0]).toArray) true := ⟨by kernel_rfl, by kernel_rfl⟩
theorem ty41 : Ty Tryz.prog 41 7 72 (.agg ([.slice none 0 0, .int .u64 0, .int .u64 0, .int .u64 0, .int .u64 0, .int .i64 0, .int .i64 0]).toArray) true := ⟨by kernel_rfl, by kernel_rfl⟩
theorem ty65 : Ty Tryz.prog 65 1 24 (.slice none 0 0) false := ⟨by kernel_rfl, by kernel_rfl⟩
theorem ty126 : Ty Tryz.prog 126 7 72 (.agg ([.slice none 0 0, .int .u64 0, .int .u64 0, .int .u64 0, .int .u64 0, .int .i64 0, .int .i64 0]).toArray) true := ⟨by kernel_rfl, by kernel_rfl⟩
theorem ty151 : Ty Tryz.prog 151 8 64 (.agg ([.int .u64 0, .int .u64 0, .int .u64 0, .int .u64 0, .int .u64 0, .int .u64 0, .int .u64 0, .int .u64 0]).toArray) true := ⟨by kernel_rfl, by kernel_rfl⟩
theorem st29 : ∃ fs, St Tryz.prog 29 fs [(0, 1), (1, 1)] [.slice none 0 0, .slice none 0 0] := ⟨_, Tryz.underlying29, by kernel_rfl, _, _, _, _, ty29, rfl⟩
theorem st126 : ∃ fs, St Tryz.prog 126 fs [(0, 1), (1, 4), (5, 1), (6, 1)] [.slice none 0 0, .int .u64 0, .int .u64 0, .int .u64 0, .int .u64 0, .int .i64 0, .int .i64 0] := ⟨_, Tryz.underlying126, by kernel_rfl, _, _, _, _, ty126, rfl⟩
theorem fn15 : HasFn Tryz.prog 15 := ⟨_, _, Tryz.func15, by kernel_rfl, rfl⟩
theorem fn16 : HasFn Tryz.prog 16 := ⟨_, _, Tryz.func16, by kernel_rfl, rfl⟩
theorem fn18 : HasFn Tryz.prog 18 := ⟨_, _, Tryz.func18, by kernel_rfl, rfl⟩
theorem fn19 : HasFn Tryz.prog 19 := ⟨_, _, Tryz.func19, by kernel_rfl, rfl⟩
theorem fn43 : HasFn Tryz.prog 43 := ⟨_, _, Tryz.func43, by kernel_rfl, rfl⟩
theorem fn44 : HasFn Tryz.prog 44 := ⟨_, _, Tryz.func44, by kernel_rfl, rfl⟩
theorem fn74 : HasFn Tryz.prog 74 := ⟨_, _, Tryz.func74, by kernel_rfl, rfl⟩
theorem fn75 : HasFn Tryz.prog 75 := ⟨_, _, Tryz.func75, by kernel_rfl, rfl⟩
theorem fn76 : HasFn Tryz.prog 76 := ⟨_, _, Tryz.func76, by kernel_rfl, rfl⟩
theorem fn88 : HasFn Tryz.prog 88 := ⟨_, _, Tryz.func88, by kernel_rfl, rfl⟩
theorem fn89 : HasFn Tryz.prog 89 := ⟨_, _, Tryz.func89, by kernel_rfl, rfl⟩
theorem fn90 : HasFn Tryz.prog 90 := ⟨_, _, Tryz.func90, by kernel_rfl, rfl⟩
theorem fn91 : HasFn Tryz.prog 91 := ⟨_, _, Tryz.func91, by kernel_rfl, rfl⟩
theorem fn93 : HasFn Tryz.prog 93 := ⟨_, _, Tryz.func93, by kernel_rfl, rfl⟩
theorem fn94 : HasFn Tryz.prog 94 := ⟨_, _, Tryz.func94, by kernel_rfl, rfl⟩
theorem fn95 : HasFn Tryz.prog 95 := ⟨_, _, Tryz.func95, by kernel_rfl, rfl⟩
theorem fn96 : HasFn Tryz.prog 96 := ⟨_, _, Tryz.func96, by kernel_rfl, rfl⟩
theorem fn128 : HasFn Tryz.prog 128 := ⟨_, _, Tryz.func128, by kernel_rfl, rfl⟩
theorem fn132 : HasFn Tryz.prog 132 := ⟨_, _, Tryz.func132, by kernel_rfl, rfl⟩
theorem fn134 : HasFn Tryz.prog 134 := ⟨_, _, Tryz.func134, by kernel_rfl, rfl⟩
theorem fn137 : HasFn Tryz.prog 137 := ⟨_, _, Tryz.func137, by kernel_rfl, rfl⟩
theorem fn138 : HasFn Tryz.prog 138 := ⟨_, _, Tryz.func138, by kernel_rfl, rfl⟩
theorem fn169 : HasFn Tryz.prog 169 := ⟨_, _, Tryz.func169, by kernel_rfl, rfl⟩
theorem fn197 : HasFn Tryz.prog 197 := ⟨_, _, Tryz.func197, by kernel_rfl, rfl⟩
theorem c_16 {N : Nat} {C : Cx} {w : World} {ρ : View} {hs : List Hl} {gV : Nat → Value} {v1 : Value} {v4 : Value} {x2 : (List ((List Int) × (Int × Int × Int × Int) × Int × Int))} {x5 : (List Int)} {x7 : Int} (H : Hp C w ρ (hs)) (_gle : GErrs ρ 394 errIds gV) (r3 : RdSl ρ (eP (eL (eI .i64)) (eP (eP (eI .u64) (eP (eI .u64) (eP (eI .u64) (eI .u64)))) (eP (eI .i64) (eI .i64)))) v1 x2) (r6 : RdSl ρ (eI .i64) v4 x5) {r : ((List ((List Int) × (Int × Int × Int × Int) × Int × Int)) × Bool)} (hF : F_dofferlaw15_Of N x2 x5 x7 = some r) :
  Calls Tryz.prog 16 [.agg #[v1, v4], .int .i64 x7].toArray w (Rets (fun v w' => (∃ (v382 : Value) (c383 : (List Value)) (x384 : (List ((List Int) × (Int × Int × Int × Int) × Int × Int))) (x386 : Bool), (x384, x386) = r ∧ .tuple [.agg #[v382, v4], .bool x386].toArray = v ∧ rdL (eP (eL (eI .i64)) (eP (eP (eI .u64) (eP (eI .u64) (eP (eI .u64) (eI .u64)))) (eP (eI .i64) (eI .i64)))) ρ x384 c383 ∧ Hp C w' ρ (Arr v382 7 c383 :: hs)))) := by
 unfold F_dofferlaw15_Of at hF
 have h0 : Tryz.f16.body = some _ := rfl
 refine fn_calls' Tryz.func16 h0 (n := 52) rfl (by simp) <| C_seq <| R_nd <| ne (E_box H (vs := [v1, v4]) rfl rfl) rfl rfl ?_
 rintro _ wd388 ⟨b387, rfl, H⟩
 refine ne (E_alloc H ty29 (zs := [.slice none 0 0, .slice none 0 0]) rfl) rfl rfl ?_
 rintro _ wd390 ⟨b389, rfl, H⟩
 refine nq (Q_assign rfl) rfl rfl <| WL_nil <| x_then <| C_seq <| R_nd <| nq (v := .pointer (some ⟨b387, 1, none⟩)) (Q_fld Tryz.underlying25 rfl ty23 (by decide) rfl rfl) rfl rfl <| nq (v := v4) (Q_ldB (k := 1) (cs := [v4]) H.ok rfl ty23 rfl rfl rfl (fun _ => rfl) rfl) rfl rfl <| nq (v := .agg #[.slice none 0 0, v4]) (Q_buildS st29.choose_spec (ps := [(1, [v4])]) rfl ⟨rfl, (RdSl.cells r6), by simp, trivial⟩ rfl) rfl rfl <| ne (E_alloc H ty29 (zs := [.slice none 0 0, .slice none 0 0]) rfl) rfl rfl ?_
 rintro _ wd392 ⟨b391, rfl, H⟩
 refine ne (E_stB (k := 0) (cs := [.slice none 0 0, v4]) (vs' := [.slice none 0 0, v4]) H rfl ty29 rfl rfl rfl rfl (one_cons rfl (one_cons (RdSl.one r6) one_nil)) (by simp) rfl) rfl rfl ?_
 rintro _ wd393 H
 dsimp only [List.set] at H
 refine WL_nil <| x_then <| C_seq ?_
 obtain ⟨o395, ho395, hF⟩ := bnd hF
 refine C_cut (fun a w' => ∃ (x394 : Bool), x394 = o395 ∧ Fr 52 a [(2, .pointer (some ⟨b387, 0, none⟩)), (4, .pointer (some ⟨b389, 0, none⟩)), (6, .pointer (some ⟨b391, 0, none⟩)), (22, .bool x394)] ∧ Hp C w' ρ (Box b387 [v1, v4] :: Box b389 [.slice none 0 0, .slice none 0 0] :: Box b391 [.slice none 0 0, v4] :: hs)) ?_ ?_
 ·refine R_nd <| nq (v := .pointer (some ⟨b387, 1, none⟩)) (Q_fld Tryz.underlying25 rfl ty23 (by decide) rfl rfl) rfl rfl <| nq (v := v4) (Q_ldB (k := 2) (cs := [v4]) H.ok rfl ty23 rfl rfl rfl (fun _ => rfl) rfl) rfl rfl <| nq (Q_len Tryz.underlying23 rfl r6) rfl rfl <| nq (Q_gtr rfl rfl) rfl rfl <| nq (Q_move rfl) rfl rfl ?_
  rcases Bool.eq_false_or_eq_true (decide ((x5.length : Int) > 20)) with hb | hb
  ·rw [hb]
   replace ho395 := itT hb ho395
   refine gs rfl rfl rfl rfl <| gs rfl rfl rfl rfl <| gs rfl rfl rfl rfl <| gs rfl rfl rfl rfl <| gs rfl rfl rfl rfl <| nq (Q_pickT rfl rfl) rfl rfl <| WL_nil ?_
   replace H := H.f1
   replace H := H.f2
   obtain rfl := Option.some.inj ho395
   refine x_A fun a hf => ⟨true, rfl, hf.sub ⟨rfl, rfl, rfl, rfl, trivial⟩, H⟩
  ·rw [hb]
   replace ho395 := itF hb ho395
   refine gq (v := .pointer (some ⟨b387, 0, none⟩)) (Q_fld Tryz.underlying25 rfl ty22 (by decide) rfl rfl) rfl rfl rfl <| gq (v := v1) (Q_ldB (k := 2) (cs := [v1]) H.ok rfl ty22 rfl rfl rfl (fun _ => rfl) rfl) rfl rfl rfl <| gq (Q_len Tryz.underlying22 rfl r3) rfl rfl rfl <| gq (Q_move rfl) rfl rfl rfl <| gq (Q_gtr rfl rfl) rfl rfl rfl <| nq (Q_pickF rfl rfl) rfl rfl <| WL_nil ?_
   replace H := H.f1
   replace H := H.f2
   obtain rfl := Option.some.inj ho395
   refine x_A fun a hf => ⟨decide ((x2.length : Int) > x7), rfl, hf.sub ⟨rfl, rfl, rfl, rfl, trivial⟩, H⟩
 ·rintro a wd396 ⟨x394, rfl, hf, H⟩
  try dsimp only at hF
  refine CW.at hf ?_
  refine C_cond rfl (fun hb => ?_) (fun hb => ?_)
  ·replace hF := itT hb hF
   refine C_seq <| R_nd <| nq (v := .agg #[.slice none 0 0, v4]) (Q_ldB (k := 2) (cs := [.slice none 0 0, v4]) H.ok rfl ty29 rfl rfl rfl (fun h => nomatch h) rfl) rfl rfl <| ne (E_stB (k := 1) (cs := [.slice none 0 0, v4]) (vs' := [.slice none 0 0, v4]) H rfl ty29 rfl rfl rfl rfl (one_cons rfl (one_cons (RdSl.one r6) one_nil)) (by simp) rfl) rfl rfl ?_
   rintro _ wd397 H
   dsimp only [List.set] at H
   refine nq (Q_assign rfl) rfl rfl <| WL_nil <| x_then <| C_ret <| x_then_ret ?_
   have H := H.nilArr 7
   have hRV : RV Tryz.prog wd397 [(4, .pointer (some ⟨b389, 0, none⟩)), (5, .bool false)] [.cell 4 29, .tmp 5] [.agg #[(.slice none 0 0), v4], .bool false] := ⟨⟨_, rfl, run_ldv ty29 rfl (fun h => nomatch h) (box_at (H.ok.get (k := 2) rfl) 0 2)⟩, rfl, trivial⟩
   replace H := H.drop 1 rfl
   dsimp only [List.eraseIdx] at H
   replace H := H.drop 1 rfl
   dsimp only [List.eraseIdx] at H
   replace H := H.drop 1 rfl
   dsimp only [List.eraseIdx] at H
   obtain rfl := Option.some.inj hF
   exact fn_retV (rs := [.cell 4 29, .tmp 5]) (vs := [.agg #[(.slice none 0 0), v4], .bool false]) rfl hRV ⟨(.slice none 0 0), [], [], false, rfl, rfl, rdL.nil, H⟩
  ·replace hF := itF hb hF
   refine C_skip <| x_then <| C_seq <| C_seq <| R_nd <| nq (v := .pointer (some ⟨b387, 0, none⟩)) (Q_fld Tryz.underlying25 rfl ty22 (by decide) rfl rfl) rfl rfl <| nq (v := v1) (Q_ldB (k := 0) (cs := [v1]) H.ok rfl ty22 rfl rfl rfl (fun _ => rfl) rfl) rfl rfl <| nq (Q_len Tryz.underlying22 rfl r3) rfl rfl <| nq (Q_move rfl) rfl rfl <| WL_nil <| x_then ?_
   obtain ⟨o580, ho580, hF⟩ := bnd hF
   refine C_cutQ (fun a w' => ∃ (v576 : Value) (c577 : (List Value)) (x578 : (List ((List Int) × (Int × Int × Int × Int) × Int × Int))), .inl x578 = o580 ∧ rdL (eP (eL (eI .i64)) (eP (eP (eI .u64) (eP (eI .u64) (eP (eI .u64) (eI .u64)))) (eP (eI .i64) (eI .i64)))) ρ x578 c577 ∧ Fr 52 a [(4, .pointer (some ⟨b389, 0, none⟩)), (6, .pointer (some ⟨b391, 0, none⟩))] ∧ Hp C w' ρ (Box b389 [.slice none 0 0, .slice none 0 0] :: Box b391 [v576, v4] :: Arr v576 7 c577 :: hs)) ?_ ?_
   ·refine C_block ?_
    have H := H.nilArr 7
    replace H := H.f3
    replace H := H.f3
    replace H := H.drop 3 rfl
    dsimp only [List.eraseIdx] at H
    refine C_iter (f := fun s => F_dofferlaw15_Of_l0 N x2 s.1 s.2) ho580 (fun s a w' => ∃ (v640 : Value) (c641 : (List Value)) (x639 : Int) (x642 : (List ((List Int) × (Int × Int × Int × Int) × Int × Int))), (x639, x642) = s ∧ rdL (eP (eL (eI .i64)) (eP (eP (eI .u64) (eP (eI .u64) (eP (eI .u64) (eI .u64)))) (eP (eI .i64) (eI .i64)))) ρ x642 c641 ∧ Fr 52 a [(4, .pointer (some ⟨b389, 0, none⟩)), (6, .pointer (some ⟨b391, 0, none⟩)), (25, v1), (26, .int .i64 (x2.length : Int)), (27, .int .i64 x639)] ∧ Hp C w' ρ (Box b389 [.slice none 0 0, .slice none 0 0] :: Box b391 [v640, v4] :: Arr v640 7 c641 :: hs)) ?_ ?_
    ·exact fun a hf => ⟨(.slice none 0 0), [], 0, [], rfl, rdL.nil, hf.sub ⟨rfl, rfl, rfl, rfl, rfl, trivial⟩, H⟩
    ·rintro s o702 a wd705 ⟨v640, c641, x639, x642, rfl, r643, hf, H⟩ hB703 hO704
     replace hB703 : F_dofferlaw15_Of_l0 N x2 x639 x642 = some o702 := hB703
     unfold F_dofferlaw15_Of_l0 at hB703
     refine CW.at hf <| C_seq <| R_nd <| nq (Q_lss rfl rfl) rfl rfl <| WL_nil <| x_then <| C_seq ?_
     refine C_cond rfl (fun hb => ?_) (fun hb => ?_)
     ·replace hB703 := itT hb hB703
      refine C_skip <| x_then <| C_seq <| C_block <| C_seq <| R_nd ?_
      obtain ⟨x706, hx706, hB703⟩ := bnd hB703
      obtain ⟨b707, o708, c709, hc710, ha711, hi712⟩ := idxR r3 hx706
      refine nq (Q_idx hi712 Tryz.underlying22 ty41 rfl rfl) rfl rfl ?_
      obtain ⟨c713, c714, he715, hc716, hc717⟩ := (id hc710)
      obtain ⟨v718, he719, r720⟩ := hc716
      obtain ⟨c721, c722, he723, hc724, hc725⟩ := hc717
      obtain ⟨c726, c727, he728, hc729, hc730⟩ := hc724
      obtain ⟨c731, c732, he733, hc734, hc735⟩ := hc730
      obtain ⟨c736, c737, he738, hc739, hc740⟩ := hc735
      obtain ⟨c741, c742, he743, hc744, hc745⟩ := hc725
      refine nq (v := .agg #[v718, .int .u64 x706.2.1.1, .int .u64 x706.2.1.2.1, .int .u64 x706.2.1.2.2.1, .int .u64 x706.2.1.2.2.2, .int .i64 x706.2.2.1, .int .i64 x706.2.2.2]) (Q_ld (show cellsAt _ _ _ [v718, .int .u64 x706.2.1.1, .int .u64 x706.2.1.2.1, .int .u64 x706.2.1.2.2.1, .int .u64 x706.2.1.2.2.2, .int .i64 x706.2.2.1, .int .i64 x706.2.2.2] from cellsAt.cg (cat2 he715 he719 (cat2 he723 (cat2 he728 (rdI hc729) (cat2 he733 (rdI hc734) (cat2 he738 (rdI hc739) (rdI hc740)))) (cat2 he743 (rdI hc744) (rdI hc745)))) (ha711.up H.ok.view)) ty41 rfl (fun h => nomatch h) rfl rfl) rfl rfl <| ne (E_alloc H ty41 (zs := [.slice none 0 0, .int .u64 0, .int .u64 0, .int .u64 0, .int .u64 0, .int .i64 0, .int .i64 0]) rfl) rfl rfl ?_
      rintro _ wd747 ⟨b746, rfl, H⟩
      refine ne (E_stB (k := 0) (cs := [v718, .int .u64 x706.2.1.1, .int .u64 x706.2.1.2.1, .int .u64 x706.2.1.2.2.1, .int .u64 x706.2.1.2.2.2, .int .i64 x706.2.2.1, .int .i64 x706.2.2.2]) (vs' := [v718, .int .u64 x706.2.1.1, .int .u64 x706.2.1.2.1, .int .u64 x706.2.1.2.2.1, .int .u64 x706.2.1.2.2.2, .int .i64 x706.2.2.1, .int .i64 x706.2.2.2]) H rfl ty41 rfl rfl rfl rfl (one_cons (RdSl.one r720) (one_cons rfl (one_cons rfl (one_cons rfl (one_cons rfl (one_cons rfl (one_cons rfl one_nil))))))) (by simp) rfl) rfl rfl ?_
      rintro _ wd748 H
      dsimp only [List.set] at H
      refine WL_nil <| x_then <| C_seq <| C_seq <| R_nd <| nq (v := .pointer (some ⟨b746, 0, none⟩)) (Q_fld Tryz.underlying41 rfl ty23 (by decide) rfl rfl) rfl rfl <| nq (v := v718) (Q_ldB (k := 0) (cs := [v718]) H.ok rfl ty23 rfl rfl rfl (fun _ => rfl) rfl) rfl rfl <| nq (Q_len Tryz.underlying23 rfl r720) rfl rfl <| nq (Q_gtr rfl rfl) rfl rfl <| WL_nil <| x_then ?_
      refine C_cond rfl (fun hb => ?_) (fun hb => ?_)
      ·replace hB703 := itT hb hB703
       refine C_seq <| R_nd <| nq (v := .agg #[v640, v4]) (Q_ldB (k := 2) (cs := [v640, v4]) H.ok rfl ty29 rfl rfl rfl (fun h => nomatch h) rfl) rfl rfl <| ne (E_stB (k := 1) (cs := [v640, v4]) (vs' := [v640, v4]) H rfl ty29 rfl rfl rfl rfl (one_cons (arr_cells (H.ok.get (k := 3) rfl)).2 (one_cons (RdSl.one r6) one_nil)) (by simp) rfl) rfl rfl ?_
       rintro _ wd749 H
       dsimp only [List.set] at H
       refine nq (Q_assign rfl) rfl rfl <| WL_nil <| x_then <| C_ret <| x_then_ret <| x_block_ret <| x_then_ret <| x_then_ret <| x_block_ret <| x_then_ret <| x_then_ret ?_
       have hRV : RV Tryz.prog wd749 [(4, .pointer (some ⟨b389, 0, none⟩)), (5, .bool false)] [.cell 4 29, .tmp 5] [.agg #[v640, v4], .bool false] := ⟨⟨_, rfl, run_ldv ty29 rfl (fun h => nomatch h) (box_at (H.ok.get (k := 1) rfl) 0 2)⟩, rfl, trivial⟩
       replace H := H.f3
       replace H := H.drop 1 rfl
       dsimp only [List.eraseIdx] at H
       replace H := H.drop 1 rfl
       dsimp only [List.eraseIdx] at H
       replace H := H.drop 1 rfl
       dsimp only [List.eraseIdx] at H
       obtain rfl := Option.some.inj hB703
       obtain rfl := hO704 _ rfl
       obtain rfl := Option.some.inj (show some _ = some _ from hF)
       exact fn_retV (rs := [.cell 4 29, .tmp 5]) (vs := [.agg #[v640, v4], .bool false]) rfl hRV ⟨v640, c641, x642, false, rfl, rfl, r643, H⟩
      ·replace hB703 := itF hb hB703
       refine C_skip <| x_then <| R_nd <| nq (v := .pointer (some ⟨b391, 0, none⟩)) (Q_fld Tryz.underlying29 rfl ty27 (by decide) rfl rfl) rfl rfl <| nq (v := v640) (Q_ldB (k := 2) (cs := [v640]) H.ok rfl ty27 rfl rfl rfl (fun _ => rfl) rfl) rfl rfl <| nq (v := .pointer (some ⟨b746, 0, none⟩)) (Q_fld Tryz.underlying41 rfl ty23 (by decide) rfl rfl) rfl rfl <| nq (v := v718) (Q_ldB (k := 0) (cs := [v718]) H.ok rfl ty23 rfl rfl rfl (fun _ => rfl) rfl) rfl rfl <| nq (v := .pointer (some ⟨b746, 1, none⟩)) (Q_fld Tryz.underlying41 rfl ty39 (by decide) rfl rfl) rfl rfl <| nq (v := .agg #[.int .u64 x706.2.1.1, .int .u64 x706.2.1.2.1, .int .u64 x706.2.1.2.2.1, .int .u64 x706.2.1.2.2.2]) (Q_ldB (k := 0) (cs := [.int .u64 x706.2.1.1, .int .u64 x706.2.1.2.1, .int .u64 x706.2.1.2.2.1, .int .u64 x706.2.1.2.2.2]) H.ok rfl ty39 rfl rfl rfl (fun h => nomatch h) rfl) rfl rfl <| nq (v := .pointer (some ⟨b746, 5, none⟩)) (Q_fld Tryz.underlying41 rfl ty3 (by decide) rfl rfl) rfl rfl <| nq (v := .int .i64 x706.2.2.1) (Q_ldB (k := 0) (cs := [.int .i64 x706.2.2.1]) H.ok rfl ty3 rfl rfl rfl (fun _ => rfl) rfl) rfl rfl <| nq (v := .pointer (some ⟨b746, 6, none⟩)) (Q_fld Tryz.underlying41 rfl ty3 (by decide) rfl rfl) rfl rfl <| nq (v := .int .i64 x706.2.2.2) (Q_ldB (k := 0) (cs := [.int .i64 x706.2.2.2]) H.ok rfl ty3 rfl rfl rfl (fun _ => rfl) rfl) rfl rfl <| nq (v := .agg #[v718, .int .u64 x706.2.1.1, .int .u64 x706.2.1.2.1, .int .u64 x706.2.1.2.2.1, .int .u64 x706.2.1.2.2.2, .int .i64 x706.2.2.1, .int .i64 x706.2.2.2]) (Q_buildS st126.choose_spec (ps := [(0, [v718]), (1, [.int .u64 x706.2.1.1, .int .u64 x706.2.1.2.1, .int .u64 x706.2.1.2.2.1, .int .u64 x706.2.1.2.2.2]), (5, [.int .i64 x706.2.2.1]), (6, [.int .i64 x706.2.2.2])]) rfl ⟨rfl, (RdSl.cells r720), by simp, ⟨rfl, rfl, by simp, ⟨rfl, rfl, by simp, ⟨rfl, rfl, by simp, trivial⟩⟩⟩⟩ rfl) rfl rfl ?_
       refine ne (E_bslice (xs := [.tmp 46]) (vs := [.agg #[v718, .int .u64 x706.2.1.1, .int .u64 x706.2.1.2.1, .int .u64 x706.2.1.2.2.1, .int .u64 x706.2.1.2.2.2, .int .i64 x706.2.2.1, .int .i64 x706.2.2.2]]) H Tryz.underlying27 ty126 (by decide) (cs := [v718, .int .u64 x706.2.1.1, .int .u64 x706.2.1.2.1, .int .u64 x706.2.1.2.2.1, .int .u64 x706.2.1.2.2.2, .int .i64 x706.2.2.1, .int .i64 x706.2.2.2]) rfl (sz_cons rfl sz_nil) rfl (by simp) (by simp) rfl rfl) rfl rfl ?_
       rintro _ wd751 ⟨b750, rfl, H⟩
       obtain ⟨x752, hx752, hB703⟩ := bnd hB703
       obtain ⟨ha753a, ha753b⟩ := app_some hx752
       have r755 : rdL (eP (eL (eI .i64)) (eP (eP (eI .u64) (eP (eI .u64) (eP (eI .u64) (eI .u64)))) (eP (eI .i64) (eI .i64)))) ρ x752 (c641 ++ ([v718, .int .u64 x706.2.1.1, .int .u64 x706.2.1.2.1, .int .u64 x706.2.1.2.2.1, .int .u64 x706.2.1.2.2.2, .int .i64 x706.2.2.1, .int .i64 x706.2.2.2])) := ha753b ▸ rdL.app r643 (show rdL (eP (eL (eI .i64)) (eP (eP (eI .u64) (eP (eI .u64) (eP (eI .u64) (eI .u64)))) (eP (eI .i64) (eI .i64)))) ρ ([(x706.1, (x706.2.1.1, x706.2.1.2.1, x706.2.1.2.2.1, x706.2.1.2.2.2), x706.2.2.1, x706.2.2.2)]) ([v718, .int .u64 x706.2.1.1, .int .u64 x706.2.1.2.1, .int .u64 x706.2.1.2.2.1, .int .u64 x706.2.1.2.2.2, .int .i64 x706.2.2.1, .int .i64 x706.2.2.2]) from ⟨([v718, .int .u64 x706.2.1.1, .int .u64 x706.2.1.2.1, .int .u64 x706.2.1.2.2.1, .int .u64 x706.2.1.2.2.2, .int .i64 x706.2.2.1, .int .i64 x706.2.2.2]), _, rfl, ⟨[v718], _, rfl, ⟨_, rfl, r720⟩, ⟨[.int .u64 x706.2.1.1, .int .u64 x706.2.1.2.1, .int .u64 x706.2.1.2.2.1, .int .u64 x706.2.1.2.2.2], _, rfl, ⟨[.int .u64 x706.2.1.1], _, rfl, rfl, ⟨[.int .u64 x706.2.1.2.1], _, rfl, rfl, ⟨[.int .u64 x706.2.1.2.2.1], _, rfl, rfl, rfl⟩⟩⟩, ⟨[.int .i64 x706.2.2.1], _, rfl, rfl, rfl⟩⟩⟩, rdL.nil⟩)
       refine ne (E_append (k := 4) H rfl Tryz.underlying27 ty126 rfl (by decide) (by decide) rfl rfl (Src.ofArr (k := 0) H.ok rfl) (rdL.one (show rdL (eP (eL (eI .i64)) (eP (eP (eI .u64) (eP (eI .u64) (eP (eI .u64) (eI .u64)))) (eP (eI .i64) (eI .i64)))) ρ ([(x706.1, (x706.2.1.1, x706.2.1.2.1, x706.2.1.2.2.1, x706.2.1.2.2.2), x706.2.2.1, x706.2.2.2)]) ([v718, .int .u64 x706.2.1.1, .int .u64 x706.2.1.2.1, .int .u64 x706.2.1.2.2.1, .int .u64 x706.2.1.2.2.2, .int .i64 x706.2.2.1, .int .i64 x706.2.2.2]) from ⟨([v718, .int .u64 x706.2.1.1, .int .u64 x706.2.1.2.1, .int .u64 x706.2.1.2.2.1, .int .u64 x706.2.1.2.2.2, .int .i64 x706.2.2.1, .int .i64 x706.2.2.2]), _, rfl, ⟨[v718], _, rfl, ⟨_, rfl, r720⟩, ⟨[.int .u64 x706.2.1.1, .int .u64 x706.2.1.2.1, .int .u64 x706.2.1.2.2.1, .int .u64 x706.2.1.2.2.2], _, rfl, ⟨[.int .u64 x706.2.1.1], _, rfl, rfl, ⟨[.int .u64 x706.2.1.2.1], _, rfl, rfl, ⟨[.int .u64 x706.2.1.2.2.1], _, rfl, rfl, rfl⟩⟩⟩, ⟨[.int .i64 x706.2.2.1], _, rfl, rfl, rfl⟩⟩⟩, rdL.nil⟩)) (app_fit r643 (show rdL (eP (eL (eI .i64)) (eP (eP (eI .u64) (eP (eI .u64) (eP (eI .u64) (eI .u64)))) (eP (eI .i64) (eI .i64)))) ρ ([(x706.1, (x706.2.1.1, x706.2.1.2.1, x706.2.1.2.2.1, x706.2.1.2.2.2), x706.2.2.1, x706.2.2.2)]) ([v718, .int .u64 x706.2.1.1, .int .u64 x706.2.1.2.1, .int .u64 x706.2.1.2.2.1, .int .u64 x706.2.1.2.2.2, .int .i64 x706.2.2.1, .int .i64 x706.2.2.2]) from ⟨([v718, .int .u64 x706.2.1.1, .int .u64 x706.2.1.2.1, .int .u64 x706.2.1.2.2.1, .int .u64 x706.2.1.2.2.2, .int .i64 x706.2.2.1, .int .i64 x706.2.2.2]), _, rfl, ⟨[v718], _, rfl, ⟨_, rfl, r720⟩, ⟨[.int .u64 x706.2.1.1, .int .u64 x706.2.1.2.1, .int .u64 x706.2.1.2.2.1, .int .u64 x706.2.1.2.2.2], _, rfl, ⟨[.int .u64 x706.2.1.1], _, rfl, rfl, ⟨[.int .u64 x706.2.1.2.1], _, rfl, rfl, ⟨[.int .u64 x706.2.1.2.2.1], _, rfl, rfl, rfl⟩⟩⟩, ⟨[.int .i64 x706.2.2.1], _, rfl, rfl, rfl⟩⟩⟩, rdL.nil⟩) ha753a)) rfl rfl ?_
       rintro v754 wd757 ⟨H, hc756⟩
       dsimp only [List.set] at H
       refine nq (v := .pointer (some ⟨b391, 0, none⟩)) (Q_fld Tryz.underlying29 rfl ty27 (by decide) rfl rfl) rfl rfl <| ne (E_stB (k := 3) (cs := [v754]) (vs' := [v754, v4]) H rfl ty27 rfl rfl (arr_cells (H.ok.get (k := 4) rfl)).1 rfl (one_cons (arr_cells (H.ok.get (k := 4) rfl)).2 one_nil) (by simp) rfl) rfl rfl ?_
       rintro _ wd758 H
       dsimp only [List.set] at H
       refine WL_nil <| x_block <| x_then <| R_nd <| nq (Q_add rfl rfl) rfl rfl <| nq (Q_move rfl) rfl rfl <| WL_nil ?_
       replace H := H.f4
       replace H := H.f4
       replace H := H.f4
       replace H := H.drop 3 rfl
       dsimp only [List.eraseIdx] at H
       replace H := H.drop 3 rfl
       dsimp only [List.eraseIdx] at H
       obtain rfl := Option.some.inj hB703
       refine x_A fun a hf => ⟨_, rfl, v754, (c641 ++ ([v718, .int .u64 x706.2.1.1, .int .u64 x706.2.1.2.1, .int .u64 x706.2.1.2.2.1, .int .u64 x706.2.1.2.2.2, .int .i64 x706.2.2.1, .int .i64 x706.2.2.2])), w64 (x639 + 1), x752, rfl, r755, hf.sub ⟨rfl, rfl, rfl, rfl, rfl, trivial⟩, H⟩
     ·replace hB703 := itF hb hB703
      refine C_exit <| x_then_exit <| x_then_exit <| x_block_exit ?_
      replace H := H.f2
      replace H := H.f2
      replace H := H.f2
      obtain rfl := Option.some.inj hB703
      obtain rfl := hO704 _ rfl
      refine x_A fun a hf => ⟨v640, c641, x642, rfl, r643, hf.sub ⟨rfl, rfl, trivial⟩, H⟩
   ·rintro a wd759 ⟨v576, c577, x578, rfl, r579, hf, H⟩
    try dsimp only at hF
    refine XX.at hf <| x_then <| C_seq <| R_nd <| nq (v := .agg #[v576, v4]) (Q_ldB (k := 1) (cs := [v576, v4]) H.ok rfl ty29 rfl rfl rfl (fun h => nomatch h) rfl) rfl rfl <| ne (E_stB (k := 0) (cs := [v576, v4]) (vs' := [v576, v4]) H rfl ty29 rfl rfl rfl rfl (one_cons (arr_cells (H.ok.get (k := 2) rfl)).2 (one_cons (RdSl.one r6) one_nil)) (by simp) rfl) rfl rfl ?_
    rintro _ wd760 H
    dsimp only [List.set] at H
    refine nq (Q_assign rfl) rfl rfl <| WL_nil <| x_then <| C_ret ?_
    have hRV : RV Tryz.prog wd760 [(4, .pointer (some ⟨b389, 0, none⟩)), (5, .bool true)] [.cell 4 29, .tmp 5] [.agg #[v576, v4], .bool true] := ⟨⟨_, rfl, run_ldv ty29 rfl (fun h => nomatch h) (box_at (H.ok.get (k := 0) rfl) 0 2)⟩, rfl, trivial⟩
    replace H := H.f2
    replace H := H.drop 1 rfl
    dsimp only [List.eraseIdx] at H
    replace H := H.drop 1 rfl
    dsimp only [List.eraseIdx] at H
    obtain rfl := Option.some.inj hF
    exact fn_retV (rs := [.cell 4 29, .tmp 5]) (vs := [.agg #[v576, v4], .bool true]) rfl hRV ⟨v576, c577, x578, true, rfl, rfl, r579, H⟩
theorem c_19 {N : Nat} {C : Cx} {w : World} {ρ : View} {hs : List Hl} {gV : Nat → Value} {v1 : Value} {v4 : Value} {x2 : (List ((List Int) × (Int × Int × Int × Int) × Int × Int))} {x5 : (List Int)} (H : Hp C w ρ (hs)) (_gle : GErrs ρ 394 errIds gV) (r3 : RdSl ρ (eP (eL (eI .i64)) (eP (eP (eI .u64) (eP (eI .u64) (eP (eI .u64) (eI .u64)))) (eP (eI .i64) (eI .i64)))) v1 x2) (r6 : RdSl ρ (eI .i64) v4 x5) {r : Bool} (hF : F_dofferref15_Right N x2 x5 = some r) :
  Calls Tryz.prog 19 [.agg #[v1, v4]].toArray w (Rets (fun v w' => (∃ (x836 : Bool), x836 = r ∧ .bool x836 = v ∧ Hp C w' ρ (hs)))) := by
 unfold F_dofferref15_Right at hF
 have h0 : Tryz.f19.body = some _ := rfl
 refine fn_calls' Tryz.func19 h0 (n := 99) rfl (by simp) <| C_seq <| R_nd <| ne (E_box H (vs := [v1, v4]) rfl rfl) rfl rfl ?_
 rintro _ wd838 ⟨b837, rfl, H⟩
 refine nq (Q_assign rfl) rfl rfl <| WL_nil <| x_then <| C_seq <| R_nd <| nq (v := .pointer (some ⟨b837, 0, none⟩)) (Q_fld Tryz.underlying29 rfl ty27 (by decide) rfl rfl) rfl rfl <| nq (v := v1) (Q_ldB (k := 0) (cs := [v1]) H.ok rfl ty27 rfl rfl rfl (fun _ => rfl) rfl) rfl rfl <| nq (Q_len Tryz.underlying27 rfl r3) rfl rfl <| nq (Q_assign rfl) rfl rfl <| WL_nil <| x_then <| C_seq ?_
 obtain ⟨o840, ho840, hF⟩ := bnd hF
 refine C_cut (fun a w' => ∃ (x839 : Bool), x839 = o840 ∧ Fr 99 a [(1, .pointer (some ⟨b837, 0, none⟩)), (3, .int .i64 (x2.length : Int)), (30, .bool x839)] ∧ Hp C w' ρ (Box b837 [v1, v4] :: hs)) ?_ ?_
 ·refine R_nd <| nq (Q_move rfl) rfl rfl <| nq (Q_lss rfl rfl) rfl rfl <| nq (Q_move rfl) rfl rfl ?_
  rcases Bool.eq_false_or_eq_true (decide ((x2.length : Int) < 1)) with hb | hb
  ·rw [hb]
   replace ho840 := itT hb ho840
   refine gs rfl rfl rfl rfl <| gs rfl rfl rfl rfl <| nq (Q_pickT rfl rfl) rfl rfl <| nq (Q_move rfl) rfl rfl <| gs rfl rfl rfl rfl <| gs rfl rfl rfl rfl <| gs rfl rfl rfl rfl <| gs rfl rfl rfl rfl <| nq (Q_pickT rfl rfl) rfl rfl <| nq (Q_move rfl) rfl rfl <| gs rfl rfl rfl rfl <| gs rfl rfl rfl rfl <| gs rfl rfl rfl rfl <| gs rfl rfl rfl rfl ?_
   refine nq (Q_pickT rfl rfl) rfl rfl <| WL_nil ?_
   obtain rfl := Option.some.inj ho840
   refine x_A fun a hf => ⟨true, rfl, hf.sub ⟨rfl, rfl, rfl, trivial⟩, H⟩
  ·rw [hb]
   replace ho840 := itF hb ho840
   refine gq (Q_move rfl) rfl rfl rfl <| gq (Q_gtr rfl rfl) rfl rfl rfl <| nq (Q_pickF rfl rfl) rfl rfl <| nq (Q_move rfl) rfl rfl ?_
   rcases Bool.eq_false_or_eq_true (decide ((x2.length : Int) > 4000)) with hb | hb
   ·rw [hb]
    replace ho840 := itT hb ho840
    refine gs rfl rfl rfl rfl <| gs rfl rfl rfl rfl <| gs rfl rfl rfl rfl <| gs rfl rfl rfl rfl <| nq (Q_pickT rfl rfl) rfl rfl <| nq (Q_move rfl) rfl rfl <| gs rfl rfl rfl rfl <| gs rfl rfl rfl rfl <| gs rfl rfl rfl rfl <| gs rfl rfl rfl rfl <| nq (Q_pickT rfl rfl) rfl rfl <| WL_nil ?_
    obtain rfl := Option.some.inj ho840
    refine x_A fun a hf => ⟨true, rfl, hf.sub ⟨rfl, rfl, rfl, trivial⟩, H⟩
   ·rw [hb]
    replace ho840 := itF hb ho840
    refine gq (v := .pointer (some ⟨b837, 1, none⟩)) (Q_fld Tryz.underlying29 rfl ty23 (by decide) rfl rfl) rfl rfl rfl <| gq (v := v4) (Q_ldB (k := 0) (cs := [v4]) H.ok rfl ty23 rfl rfl rfl (fun _ => rfl) rfl) rfl rfl rfl <| gq (Q_len Tryz.underlying23 rfl r6) rfl rfl rfl <| gq (Q_lss rfl rfl) rfl rfl rfl <| nq (Q_pickF rfl rfl) rfl rfl <| nq (Q_move rfl) rfl rfl ?_
    rcases Bool.eq_false_or_eq_true (decide ((x5.length : Int) < 1)) with hb | hb
    ·rw [hb]
     replace ho840 := itT hb ho840
     refine gs rfl rfl rfl rfl <| gs rfl rfl rfl rfl <| gs rfl rfl rfl rfl <| gs rfl rfl rfl rfl <| nq (Q_pickT rfl rfl) rfl rfl <| WL_nil ?_
     obtain rfl := Option.some.inj ho840
     refine x_A fun a hf => ⟨true, rfl, hf.sub ⟨rfl, rfl, rfl, trivial⟩, H⟩
    ·rw [hb]
     replace ho840 := itF hb ho840
     refine gq (v := .pointer (some ⟨b837, 1, none⟩)) (Q_fld Tryz.underlying29 rfl ty23 (by decide) rfl rfl) rfl rfl rfl <| gq (v := v4) (Q_ldB (k := 0) (cs := [v4]) H.ok rfl ty23 rfl rfl rfl (fun _ => rfl) rfl) rfl rfl rfl <| gq (Q_len Tryz.underlying23 rfl r6) rfl rfl rfl <| gq (Q_gtr rfl rfl) rfl rfl rfl <| nq (Q_pickF rfl rfl) rfl rfl <| WL_nil ?_
     obtain rfl := Option.some.inj ho840
     refine x_A fun a hf => ⟨decide ((x5.length : Int) > 8), rfl, hf.sub ⟨rfl, rfl, rfl, trivial⟩, H⟩
 ·rintro a wd841 ⟨x839, rfl, hf, H⟩
  try dsimp only at hF
  refine CW.at hf ?_
  refine C_cond rfl (fun hb => ?_) (fun hb => ?_)
  ·replace hF := itT hb hF
   refine C_seq <| R_nd <| nq (Q_assign rfl) rfl rfl <| WL_nil <| x_then <| C_ret <| x_then_ret ?_
   replace H := H.drop 0 rfl
   dsimp only [List.eraseIdx] at H
   obtain rfl := Option.some.inj hF
   exact fn_ret (l := [.tmp 2]) (vs := [.bool false]) rfl rfl rfl ⟨false, rfl, rfl, H⟩
  ·replace hF := itF hb hF
   refine C_skip <| x_then <| C_seq <| C_seq <| R_nd <| nq (v := .pointer (some ⟨b837, 1, none⟩)) (Q_fld Tryz.underlying29 rfl ty23 (by decide) rfl rfl) rfl rfl <| nq (v := v4) (Q_ldB (k := 0) (cs := [v4]) H.ok rfl ty23 rfl rfl rfl (fun _ => rfl) rfl) rfl rfl <| nq (Q_len Tryz.underlying23 rfl r6) rfl rfl <| nq (Q_move rfl) rfl rfl <| WL_nil <| x_then ?_
   obtain ⟨o879, ho879, hF⟩ := bnd hF
   refine C_cutQ (fun a w' => .inl () = o879 ∧ Fr 99 a [(1, .pointer (some ⟨b837, 0, none⟩)), (3, .int .i64 (x2.length : Int))] ∧ Hp C w' ρ (Box b837 [v1, v4] :: hs)) ?_ ?_
   ·refine C_block ?_
    refine C_iter (f := fun s => F_dofferref15_Right_l0 N x2 x5 s) ho879 (fun s a w' => ∃ (x891 : Int), x891 = s ∧ Fr 99 a [(1, .pointer (some ⟨b837, 0, none⟩)), (3, .int .i64 (x2.length : Int)), (32, v4), (33, .int .i64 (x5.length : Int)), (34, .int .i64 x891)] ∧ Hp C w' ρ (Box b837 [v1, v4] :: hs)) ?_ ?_
    ·exact fun a hf => ⟨0, rfl, hf.sub ⟨rfl, rfl, rfl, rfl, rfl, trivial⟩, H⟩
    ·rintro s o903 a wd906 ⟨x891, rfl, hf, H⟩ hB904 hO905
     replace hB904 : F_dofferref15_Right_l0 N x2 x5 x891 = some o903 := hB904
     unfold F_dofferref15_Right_l0 at hB904
     refine CW.at hf <| C_seq <| R_nd <| nq (Q_lss rfl rfl) rfl rfl <| WL_nil <| x_then <| C_seq ?_
     refine C_cond rfl (fun hb => ?_) (fun hb => ?_)
     ·replace hB904 := itT hb hB904
      refine C_skip <| x_then <| C_seq <| C_block <| C_seq <| R_nd ?_
      obtain ⟨x907, hx907, hB904⟩ := bnd hB904
      obtain ⟨b908, o909, c910, hc911, ha912, hi913⟩ := idxR r6 hx907
      refine nq (Q_idx hi913 Tryz.underlying23 ty3 rfl rfl) rfl rfl <| nq (v := .int .i64 x907) (Q_ld (show cellsAt _ _ _ [.int .i64 x907] from (show _ = [_] from hc911) ▸ (ha912.up H.ok.view)) ty3 rfl (fun _ => rfl) rfl rfl) rfl rfl <| nq (Q_assign rfl) rfl rfl <| WL_nil <| x_then ?_
      obtain ⟨o915, ho915, hB904⟩ := bnd hB904
      refine C_cut (fun a w' => ∃ (x914 : Bool), x914 = o915 ∧ Fr 99 a [(1, .pointer (some ⟨b837, 0, none⟩)), (3, .int .i64 (x2.length : Int)), (32, v4), (33, .int .i64 (x5.length : Int)), (34, .int .i64 x891), (44, .bool x914)] ∧ Hp C w' ρ (Box b837 [v1, v4] :: hs)) ?_ ?_
      ·refine R_nd <| nq (Q_move rfl) rfl rfl <| nq (Q_lss rfl rfl) rfl rfl <| nq (Q_move rfl) rfl rfl ?_
       rcases Bool.eq_false_or_eq_true (decide (x907 < 0)) with hb | hb
       ·rw [hb]
        replace ho915 := itT hb ho915
        refine gs rfl rfl rfl rfl <| gs rfl rfl rfl rfl <| gs rfl rfl rfl rfl <| nq (Q_pickT rfl rfl) rfl rfl <| WL_nil ?_
        obtain rfl := Option.some.inj ho915
        refine x_A fun a hf => ⟨true, rfl, hf.sub ⟨rfl, rfl, rfl, rfl, rfl, rfl, trivial⟩, H⟩
       ·rw [hb]
        replace ho915 := itF hb ho915
        refine gq (Q_move rfl) rfl rfl rfl <| gq (Q_move rfl) rfl rfl rfl <| gq (Q_geq rfl rfl) rfl rfl rfl <| nq (Q_pickF rfl rfl) rfl rfl <| WL_nil ?_
        obtain rfl := Option.some.inj ho915
        refine x_A fun a hf => ⟨decide (x907 ≥ (x2.length : Int)), rfl, hf.sub ⟨rfl, rfl, rfl, rfl, rfl, rfl, trivial⟩, H⟩
      ·rintro a wd916 ⟨x914, rfl, hf, H⟩
       try dsimp only at hB904
       refine CW.at hf ?_
       refine C_cond rfl (fun hb => ?_) (fun hb => ?_)
       ·replace hB904 := itT hb hB904
        refine C_seq <| R_nd <| nq (Q_assign rfl) rfl rfl <| WL_nil <| x_then <| C_ret <| x_block_ret <| x_then_ret <| x_then_ret <| x_block_ret <| x_then_ret <| x_then_ret ?_
        replace H := H.drop 0 rfl
        dsimp only [List.eraseIdx] at H
        obtain rfl := Option.some.inj hB904
        obtain rfl := hO905 _ rfl
        obtain rfl := Option.some.inj (show some _ = some _ from hF)
        exact fn_ret (l := [.tmp 2]) (vs := [.bool false]) rfl rfl rfl ⟨false, rfl, rfl, H⟩
       ·replace hB904 := itF hb hB904
        refine C_skip <| x_block <| x_then <| R_nd <| nq (Q_add rfl rfl) rfl rfl <| nq (Q_move rfl) rfl rfl <| WL_nil ?_
        obtain rfl := Option.some.inj hB904
        refine x_A fun a hf => ⟨_, rfl, w64 (x891 + 1), rfl, hf.sub ⟨rfl, rfl, rfl, rfl, rfl, trivial⟩, H⟩
     ·replace hB904 := itF hb hB904
      refine C_exit <| x_then_exit <| x_then_exit <| x_block_exit ?_
      obtain rfl := Option.some.inj hB904
      obtain rfl := hO905 _ rfl
      refine x_A fun a hf => ⟨rfl, hf.sub ⟨rfl, rfl, trivial⟩, H⟩
   ·rintro a wd917 ⟨rfl, hf, H⟩
    try dsimp only at hF
    refine XX.at hf <| x_then <| C_seq <| C_seq <| R_nd <| nq (v := .pointer (some ⟨b837, 0, none⟩)) (Q_fld Tryz.underlying29 rfl ty27 (by decide) rfl rfl) rfl rfl <| nq (v := v1) (Q_ldB (k := 0) (cs := [v1]) H.ok rfl ty27 rfl rfl rfl (fun _ => rfl) rfl) rfl rfl <| nq (Q_len Tryz.underlying27 rfl r3) rfl rfl <| nq (Q_move rfl) rfl rfl <| WL_nil <| x_then ?_
    obtain ⟨o1291, ho1291, hF⟩ := bnd hF
    refine C_cutQ (fun a w' => .inl () = o1291 ∧ Fr 99 a [] ∧ Hp C w' ρ (hs)) ?_ ?_
    ·refine C_block ?_
     replace H := H.drop 0 rfl
     dsimp only [List.eraseIdx] at H
     refine C_iter (f := fun s => F_dofferref15_Right_l1 N x2 s) ho1291 (fun s a w' => ∃ (x1415 : Int), x1415 = s ∧ Fr 99 a [(3, .int .i64 (x2.length : Int)), (47, v1), (48, .int .i64 (x2.length : Int)), (49, .int .i64 x1415)] ∧ Hp C w' ρ (hs)) ?_ ?_
     ·exact fun a hf => ⟨0, rfl, hf.sub ⟨rfl, rfl, rfl, rfl, trivial⟩, H⟩
     ·rintro s o1539 a wd1542 ⟨x1415, rfl, hf, H⟩ hB1540 hO1541
      replace hB1540 : F_dofferref15_Right_l1 N x2 x1415 = some o1539 := hB1540
      unfold F_dofferref15_Right_l1 at hB1540
      refine CW.at hf <| C_seq <| R_nd <| nq (Q_lss rfl rfl) rfl rfl <| WL_nil <| x_then <| C_seq ?_
      refine C_cond rfl (fun hb => ?_) (fun hb => ?_)
      ·replace hB1540 := itT hb hB1540
       refine C_skip <| x_then <| C_seq <| C_block <| C_seq <| R_nd ?_
       obtain ⟨x1543, hx1543, hB1540⟩ := bnd hB1540
       obtain ⟨b1544, o1545, c1546, hc1547, ha1548, hi1549⟩ := idxR r3 hx1543
       refine nq (Q_idx hi1549 Tryz.underlying27 ty126 rfl rfl) rfl rfl ?_
       obtain ⟨c1550, c1551, he1552, hc1553, hc1554⟩ := (id hc1547)
       obtain ⟨v1555, he1556, r1557⟩ := hc1553
       obtain ⟨c1558, c1559, he1560, hc1561, hc1562⟩ := hc1554
       obtain ⟨c1563, c1564, he1565, hc1566, hc1567⟩ := hc1561
       obtain ⟨c1568, c1569, he1570, hc1571, hc1572⟩ := hc1567
       obtain ⟨c1573, c1574, he1575, hc1576, hc1577⟩ := hc1572
       obtain ⟨c1578, c1579, he1580, hc1581, hc1582⟩ := hc1562
       refine nq (v := .agg #[v1555, .int .u64 x1543.2.1.1, .int .u64 x1543.2.1.2.1, .int .u64 x1543.2.1.2.2.1, .int .u64 x1543.2.1.2.2.2, .int .i64 x1543.2.2.1, .int .i64 x1543.2.2.2]) (Q_ld (show cellsAt _ _ _ [v1555, .int .u64 x1543.2.1.1, .int .u64 x1543.2.1.2.1, .int .u64 x1543.2.1.2.2.1, .int .u64 x1543.2.1.2.2.2, .int .i64 x1543.2.2.1, .int .i64 x1543.2.2.2] from cellsAt.cg (cat2 he1552 he1556 (cat2 he1560 (cat2 he1565 (rdI hc1566) (cat2 he1570 (rdI hc1571) (cat2 he1575 (rdI hc1576) (rdI hc1577)))) (cat2 he1580 (rdI hc1581) (rdI hc1582)))) (ha1548.up H.ok.view)) ty126 rfl (fun h => nomatch h) rfl rfl) rfl rfl <| ne (E_alloc H ty126 (zs := [.slice none 0 0, .int .u64 0, .int .u64 0, .int .u64 0, .int .u64 0, .int .i64 0, .int .i64 0]) rfl) rfl rfl ?_
       rintro _ wd1584 ⟨b1583, rfl, H⟩
       refine ne (E_stB (k := 0) (cs := [v1555, .int .u64 x1543.2.1.1, .int .u64 x1543.2.1.2.1, .int .u64 x1543.2.1.2.2.1, .int .u64 x1543.2.1.2.2.2, .int .i64 x1543.2.2.1, .int .i64 x1543.2.2.2]) (vs' := [v1555, .int .u64 x1543.2.1.1, .int .u64 x1543.2.1.2.1, .int .u64 x1543.2.1.2.2.1, .int .u64 x1543.2.1.2.2.2, .int .i64 x1543.2.2.1, .int .i64 x1543.2.2.2]) H rfl ty126 rfl rfl rfl rfl (one_cons (RdSl.one r1557) (one_cons rfl (one_cons rfl (one_cons rfl (one_cons rfl (one_cons rfl (one_cons rfl one_nil))))))) (by simp) rfl) rfl rfl ?_
       rintro _ wd1585 H
       dsimp only [List.set] at H
       refine WL_nil <| x_then <| C_seq ?_
       obtain ⟨o1587, ho1587, hB1540⟩ := bnd hB1540
       refine C_cut (fun a w' => ∃ (x1586 : Bool), x1586 = o1587 ∧ Fr 99 a [(3, .int .i64 (x2.length : Int)), (7, .pointer (some ⟨b1583, 0, none⟩)), (47, v1), (48, .int .i64 (x2.length : Int)), (49, .int .i64 x1415), (82, .bool x1586)] ∧ Hp C w' ρ (Box b1583 [v1555, .int .u64 x1543.2.1.1, .int .u64 x1543.2.1.2.1, .int .u64 x1543.2.1.2.2.1, .int .u64 x1543.2.1.2.2.2, .int .i64 x1543.2.2.1, .int .i64 x1543.2.2.2] :: hs)) ?_ ?_
       ·refine R_nd <| nq (v := .pointer (some ⟨b1583, 5, none⟩)) (Q_fld Tryz.underlying126 rfl ty3 (by decide) rfl rfl) rfl rfl <| nq (v := .int .i64 x1543.2.2.1) (Q_ldB (k := 0) (cs := [.int .i64 x1543.2.2.1]) H.ok rfl ty3 rfl rfl rfl (fun _ => rfl) rfl) rfl rfl <| nq (Q_lss rfl rfl) rfl rfl <| nq (Q_move rfl) rfl rfl ?_
        rcases Bool.eq_false_or_eq_true (decide (x1543.2.2.1 < (-1))) with hb | hb
        ·rw [hb]
         replace ho1587 := itT hb ho1587
         refine gs rfl rfl rfl rfl <| gs rfl rfl rfl rfl <| gs rfl rfl rfl rfl <| gs rfl rfl rfl rfl <| nq (Q_pickT rfl rfl) rfl rfl <| nq (Q_move rfl) rfl rfl <| gs rfl rfl rfl rfl <| gs rfl rfl rfl rfl <| gs rfl rfl rfl rfl <| nq (Q_pickT rfl rfl) rfl rfl <| nq (Q_move rfl) rfl rfl <| gs rfl rfl rfl rfl <| gs rfl rfl rfl rfl <| gs rfl rfl rfl rfl ?_
         refine nq (Q_pickT rfl rfl) rfl rfl <| nq (Q_move rfl) rfl rfl <| gs rfl rfl rfl rfl <| gs rfl rfl rfl rfl <| gs rfl rfl rfl rfl <| gs rfl rfl rfl rfl <| gsu rfl ⟨_, _, rfl, rfl, rfl⟩ rfl <| gsu rfl ⟨_, _, rfl, rfl, rfl⟩ rfl <| gsu rfl ⟨_, _, rfl, rfl, rfl⟩ rfl <| gsu rfl ⟨_, _, rfl, rfl, rfl⟩ rfl <| gs rfl rfl rfl rfl <| nq (Q_pickT rfl rfl) rfl rfl <| WL_nil ?_
         obtain rfl := Option.some.inj ho1587
         refine x_A fun a hf => ⟨true, rfl, hf.sub ⟨rfl, rfl, rfl, rfl, rfl, rfl, trivial⟩, H⟩
        ·rw [hb]
         replace ho1587 := itF hb ho1587
         refine gq (v := .pointer (some ⟨b1583, 5, none⟩)) (Q_fld Tryz.underlying126 rfl ty3 (by decide) rfl rfl) rfl rfl rfl <| gq (v := .int .i64 x1543.2.2.1) (Q_ldB (k := 0) (cs := [.int .i64 x1543.2.2.1]) H.ok rfl ty3 rfl rfl rfl (fun _ => rfl) rfl) rfl rfl rfl <| gq (Q_move rfl) rfl rfl rfl <| gq (Q_geq rfl rfl) rfl rfl rfl <| nq (Q_pickF rfl rfl) rfl rfl <| nq (Q_move rfl) rfl rfl ?_
         rcases Bool.eq_false_or_eq_true (decide (x1543.2.2.1 ≥ (x2.length : Int))) with hb | hb
         ·rw [hb]
          replace ho1587 := itT hb ho1587
          refine gs rfl rfl rfl rfl <| gs rfl rfl rfl rfl <| gs rfl rfl rfl rfl <| nq (Q_pickT rfl rfl) rfl rfl <| nq (Q_move rfl) rfl rfl <| gs rfl rfl rfl rfl <| gs rfl rfl rfl rfl <| gs rfl rfl rfl rfl <| nq (Q_pickT rfl rfl) rfl rfl <| nq (Q_move rfl) rfl rfl <| gs rfl rfl rfl rfl <| gs rfl rfl rfl rfl <| gs rfl rfl rfl rfl <| gs rfl rfl rfl rfl ?_
          refine gsu rfl ⟨_, _, rfl, rfl, rfl⟩ rfl <| gsu rfl ⟨_, _, rfl, rfl, rfl⟩ rfl <| gsu rfl ⟨_, _, rfl, rfl, rfl⟩ rfl <| gsu rfl ⟨_, _, rfl, rfl, rfl⟩ rfl <| gs rfl rfl rfl rfl <| nq (Q_pickT rfl rfl) rfl rfl <| WL_nil ?_
          obtain rfl := Option.some.inj ho1587
          refine x_A fun a hf => ⟨true, rfl, hf.sub ⟨rfl, rfl, rfl, rfl, rfl, rfl, trivial⟩, H⟩
         ·rw [hb]
          replace ho1587 := itF hb ho1587
          refine gq (v := .pointer (some ⟨b1583, 6, none⟩)) (Q_fld Tryz.underlying126 rfl ty3 (by decide) rfl rfl) rfl rfl rfl <| gq (v := .int .i64 x1543.2.2.2) (Q_ldB (k := 0) (cs := [.int .i64 x1543.2.2.2]) H.ok rfl ty3 rfl rfl rfl (fun _ => rfl) rfl) rfl rfl rfl <| gq (Q_lss rfl rfl) rfl rfl rfl <| nq (Q_pickF rfl rfl) rfl rfl <| nq (Q_move rfl) rfl rfl ?_
          rcases Bool.eq_false_or_eq_true (decide (x1543.2.2.2 < (-1))) with hb | hb
          ·rw [hb]
           replace ho1587 := itT hb ho1587
           refine gs rfl rfl rfl rfl <| gs rfl rfl rfl rfl <| gs rfl rfl rfl rfl <| nq (Q_pickT rfl rfl) rfl rfl <| nq (Q_move rfl) rfl rfl <| gs rfl rfl rfl rfl <| gs rfl rfl rfl rfl <| gs rfl rfl rfl rfl <| gs rfl rfl rfl rfl <| gsu rfl ⟨_, _, rfl, rfl, rfl⟩ rfl <| gsu rfl ⟨_, _, rfl, rfl, rfl⟩ rfl <| gsu rfl ⟨_, _, rfl, rfl, rfl⟩ rfl <| gsu rfl ⟨_, _, rfl, rfl, rfl⟩ rfl <| gs rfl rfl rfl rfl ?_
           refine nq (Q_pickT rfl rfl) rfl rfl <| WL_nil ?_
           obtain rfl := Option.some.inj ho1587
           refine x_A fun a hf => ⟨true, rfl, hf.sub ⟨rfl, rfl, rfl, rfl, rfl, rfl, trivial⟩, H⟩
          ·rw [hb]
           replace ho1587 := itF hb ho1587
           refine gq (v := .pointer (some ⟨b1583, 6, none⟩)) (Q_fld Tryz.underlying126 rfl ty3 (by decide) rfl rfl) rfl rfl rfl <| gq (v := .int .i64 x1543.2.2.2) (Q_ldB (k := 0) (cs := [.int .i64 x1543.2.2.2]) H.ok rfl ty3 rfl rfl rfl (fun _ => rfl) rfl) rfl rfl rfl <| gq (Q_gtr rfl rfl) rfl rfl rfl <| nq (Q_pickF rfl rfl) rfl rfl <| nq (Q_move rfl) rfl rfl ?_
           rcases Bool.eq_false_or_eq_true (decide (x1543.2.2.2 > 47)) with hb | hb
           ·rw [hb]
            replace ho1587 := itT hb ho1587
            refine gs rfl rfl rfl rfl <| gs rfl rfl rfl rfl <| gs rfl rfl rfl rfl <| gs rfl rfl rfl rfl <| gsu rfl ⟨_, _, rfl, rfl, rfl⟩ rfl <| gsu rfl ⟨_, _, rfl, rfl, rfl⟩ rfl <| gsu rfl ⟨_, _, rfl, rfl, rfl⟩ rfl <| gsu rfl ⟨_, _, rfl, rfl, rfl⟩ rfl <| gs rfl rfl rfl rfl <| nq (Q_pickT rfl rfl) rfl rfl <| WL_nil ?_
            obtain rfl := Option.some.inj ho1587
            refine x_A fun a hf => ⟨true, rfl, hf.sub ⟨rfl, rfl, rfl, rfl, rfl, rfl, trivial⟩, H⟩
           ·rw [hb]
            replace ho1587 := itF hb ho1587
            refine gq (v := .pointer (some ⟨b1583, 5, none⟩)) (Q_fld Tryz.underlying126 rfl ty3 (by decide) rfl rfl) rfl rfl rfl <| gq (v := .int .i64 x1543.2.2.1) (Q_ldB (k := 0) (cs := [.int .i64 x1543.2.2.1]) H.ok rfl ty3 rfl rfl rfl (fun _ => rfl) rfl) rfl rfl rfl <| gq (Q_eql rfl rfl) rfl rfl rfl <| gq (Q_move rfl) rfl rfl rfl ?_
            rcases Bool.eq_false_or_eq_true (x1543.2.2.1 == (-1)) with hb | hb
            ·rw [hb]
             replace ho1587 := itT hb ho1587
             refine gq (v := .pointer (some ⟨b1583, 1, none⟩)) (Q_fld Tryz.underlying126 rfl ty38 (by decide) rfl rfl) rfl rfl rfl <| gq (v := .agg #[.int .u64 x1543.2.1.1, .int .u64 x1543.2.1.2.1, .int .u64 x1543.2.1.2.2.1, .int .u64 x1543.2.1.2.2.2]) (Q_ldB (k := 0) (cs := [.int .u64 x1543.2.1.1, .int .u64 x1543.2.1.2.1, .int .u64 x1543.2.1.2.2.1, .int .u64 x1543.2.1.2.2.2]) H.ok rfl ty38 rfl rfl rfl (fun h => nomatch h) rfl) rfl rfl rfl <| gq (v := .agg #[.int .u64 0, .int .u64 0, .int .u64 0, .int .u64 0]) (Q_build0 (zs := [.int .u64 0, .int .u64 0, .int .u64 0, .int .u64 0]) ty38 Tryz.underlying38 ty37 rfl) rfl rfl rfl <| gq (v := .bool (([x1543.2.1.1, x1543.2.1.2.1, x1543.2.1.2.2.1, x1543.2.1.2.2.2] : List Int) != ([0, 0, 0, 0] : List Int))) (Q_neqA (xs := ([x1543.2.1.1, x1543.2.1.2.1, x1543.2.1.2.2.1, x1543.2.1.2.2.2] : List Int)) (ys := ([0, 0, 0, 0] : List Int)) Tryz.underlying38 ty37 (by kernel_rfl) Tryz.underlying37 (rdL_ints .u64 ρ ([x1543.2.1.1, x1543.2.1.2.1, x1543.2.1.2.2.1, x1543.2.1.2.2.2] : List Int)) rfl (rdL_ints .u64 ρ ([0, 0, 0, 0] : List Int)) rfl rfl rfl) rfl rfl rfl <| gq (Q_pickT rfl rfl) rfl rfl rfl <| nq (Q_pickF rfl rfl) rfl rfl <| WL_nil ?_
             obtain rfl := Option.some.inj ho1587
             refine x_A fun a hf => ⟨([x1543.2.1.1, x1543.2.1.2.1, x1543.2.1.2.2.1, x1543.2.1.2.2.2] : List Int) != ([0, 0, 0, 0] : List Int), rfl, hf.sub ⟨rfl, rfl, rfl, rfl, rfl, rfl, trivial⟩, H⟩
            ·rw [hb]
             replace ho1587 := itF hb ho1587
             refine gs rfl rfl rfl rfl <| gs rfl rfl rfl rfl <| gs rfl rfl rfl rfl <| gs rfl rfl rfl rfl <| gq (Q_pickF rfl rfl) rfl rfl rfl <| nq (Q_pickF rfl rfl) rfl rfl <| WL_nil ?_
             obtain rfl := Option.some.inj ho1587
             refine x_A fun a hf => ⟨false, rfl, hf.sub ⟨rfl, rfl, rfl, rfl, rfl, rfl, trivial⟩, H⟩
       ·rintro a wd1588 ⟨x1586, rfl, hf, H⟩
        try dsimp only at hB1540
        refine CW.at hf ?_
        refine C_cond rfl (fun hb => ?_) (fun hb => ?_)
        ·replace hB1540 := itT hb hB1540
         refine C_seq <| R_nd <| nq (Q_assign rfl) rfl rfl <| WL_nil <| x_then <| C_ret <| x_then_ret <| x_block_ret <| x_then_ret <| x_then_ret <| x_block_ret <| x_then_ret <| x_then_ret ?_
         replace H := H.drop 0 rfl
         dsimp only [List.eraseIdx] at H
         obtain rfl := Option.some.inj hB1540
         obtain rfl := hO1541 _ rfl
         obtain rfl := Option.some.inj (show some _ = some _ from hF)
         exact fn_ret (l := [.tmp 2]) (vs := [.bool false]) rfl rfl rfl ⟨false, rfl, rfl, H⟩
        ·replace hB1540 := itF hb hB1540
         refine C_skip <| x_then <| C_seq <| R_nd <| nq (v := .pointer (some ⟨b1583, 0, none⟩)) (Q_fld Tryz.underlying126 rfl ty23 (by decide) rfl rfl) rfl rfl <| nq (v := v1555) (Q_ldB (k := 0) (cs := [v1555]) H.ok rfl ty23 rfl rfl rfl (fun _ => rfl) rfl) rfl rfl <| nq (Q_len Tryz.underlying23 rfl r1557) rfl rfl <| nq (Q_move rfl) rfl rfl <| WL_nil <| x_then ?_
         obtain ⟨o1626, ho1626, hB1540⟩ := bnd hB1540
         refine C_cutQ (fun a w' => .inl () = o1626 ∧ Fr 99 a [(3, .int .i64 (x2.length : Int)), (47, v1), (48, .int .i64 (x2.length : Int)), (49, .int .i64 x1415)] ∧ Hp C w' ρ (hs)) ?_ ?_
         ·refine C_block ?_
          replace H := H.drop 0 rfl
          dsimp only [List.eraseIdx] at H
          refine C_iter (f := fun s => F_dofferref15_Right_l2 N x2 x1543 s) ho1626 (fun s a w' => ∃ (x1638 : Int), x1638 = s ∧ Fr 99 a [(3, .int .i64 (x2.length : Int)), (47, v1), (48, .int .i64 (x2.length : Int)), (49, .int .i64 x1415), (84, v1555), (85, .int .i64 (x1543.1.length : Int)), (86, .int .i64 x1638)] ∧ Hp C w' ρ (hs)) ?_ ?_
          ·exact fun a hf => ⟨0, rfl, hf.sub ⟨rfl, rfl, rfl, rfl, rfl, rfl, rfl, trivial⟩, H⟩
          ·rintro s o1650 a wd1653 ⟨x1638, rfl, hf, H⟩ hB1651 hO1652
           replace hB1651 : F_dofferref15_Right_l2 N x2 x1543 x1638 = some o1650 := hB1651
           unfold F_dofferref15_Right_l2 at hB1651
           refine CW.at hf <| C_seq <| R_nd <| nq (Q_lss rfl rfl) rfl rfl <| WL_nil <| x_then <| C_seq ?_
           refine C_cond rfl (fun hb => ?_) (fun hb => ?_)
           ·replace hB1651 := itT hb hB1651
            refine C_skip <| x_then <| C_seq <| C_block <| C_seq <| R_nd ?_
            obtain ⟨x1654, hx1654, hB1651⟩ := bnd hB1651
            obtain ⟨b1655, o1656, c1657, hc1658, ha1659, hi1660⟩ := idxR r1557 hx1654
            refine nq (Q_idx hi1660 Tryz.underlying23 ty3 rfl rfl) rfl rfl <| nq (v := .int .i64 x1654) (Q_ld (show cellsAt _ _ _ [.int .i64 x1654] from (show _ = [_] from hc1658) ▸ (ha1659.up H.ok.view)) ty3 rfl (fun _ => rfl) rfl rfl) rfl rfl <| nq (Q_assign rfl) rfl rfl <| WL_nil <| x_then ?_
            obtain ⟨o1662, ho1662, hB1651⟩ := bnd hB1651
            refine C_cut (fun a w' => ∃ (x1661 : Bool), x1661 = o1662 ∧ Fr 99 a [(3, .int .i64 (x2.length : Int)), (47, v1), (48, .int .i64 (x2.length : Int)), (49, .int .i64 x1415), (84, v1555), (85, .int .i64 (x1543.1.length : Int)), (86, .int .i64 x1638), (96, .bool x1661)] ∧ Hp C w' ρ (hs)) ?_ ?_
            ·refine R_nd <| nq (Q_move rfl) rfl rfl <| nq (Q_lss rfl rfl) rfl rfl <| nq (Q_move rfl) rfl rfl ?_
             rcases Bool.eq_false_or_eq_true (decide (x1654 < 0)) with hb | hb
             ·rw [hb]
              replace ho1662 := itT hb ho1662
              refine gs rfl rfl rfl rfl <| gs rfl rfl rfl rfl <| gs rfl rfl rfl rfl <| nq (Q_pickT rfl rfl) rfl rfl <| WL_nil ?_
              obtain rfl := Option.some.inj ho1662
              refine x_A fun a hf => ⟨true, rfl, hf.sub ⟨rfl, rfl, rfl, rfl, rfl, rfl, rfl, rfl, trivial⟩, H⟩
             ·rw [hb]
              replace ho1662 := itF hb ho1662
              refine gq (Q_move rfl) rfl rfl rfl <| gq (Q_move rfl) rfl rfl rfl <| gq (Q_geq rfl rfl) rfl rfl rfl <| nq (Q_pickF rfl rfl) rfl rfl <| WL_nil ?_
              obtain rfl := Option.some.inj ho1662
              refine x_A fun a hf => ⟨decide (x1654 ≥ (x2.length : Int)), rfl, hf.sub ⟨rfl, rfl, rfl, rfl, rfl, rfl, rfl, rfl, trivial⟩, H⟩
            ·rintro a wd1663 ⟨x1661, rfl, hf, H⟩
             try dsimp only at hB1651
             refine CW.at hf ?_
             refine C_cond rfl (fun hb => ?_) (fun hb => ?_)
             ·replace hB1651 := itT hb hB1651
              refine C_seq <| R_nd <| nq (Q_assign rfl) rfl rfl <| WL_nil <| x_then <| C_ret <| x_block_ret <| x_then_ret <| x_then_ret <| x_block_ret <| x_then_ret <| x_block_ret <| x_then_ret <| x_then_ret ?_
              refine x_block_ret <| x_then_ret <| x_then_ret ?_
              obtain rfl := Option.some.inj hB1651
              obtain rfl := hO1652 _ rfl
              obtain rfl := Option.some.inj (show some _ = some _ from hB1540)
              obtain rfl := hO1541 _ rfl
              obtain rfl := Option.some.inj (show some _ = some _ from hF)
              exact fn_ret (l := [.tmp 2]) (vs := [.bool false]) rfl rfl rfl ⟨false, rfl, rfl, H⟩
             ·replace hB1651 := itF hb hB1651
              refine C_skip <| x_block <| x_then <| R_nd <| nq (Q_add rfl rfl) rfl rfl <| nq (Q_move rfl) rfl rfl <| WL_nil ?_
              obtain rfl := Option.some.inj hB1651
              refine x_A fun a hf => ⟨_, rfl, w64 (x1638 + 1), rfl, hf.sub ⟨rfl, rfl, rfl, rfl, rfl, rfl, rfl, trivial⟩, H⟩
           ·replace hB1651 := itF hb hB1651
            refine C_exit <| x_then_exit <| x_then_exit <| x_block_exit ?_
            obtain rfl := Option.some.inj hB1651
            obtain rfl := hO1652 _ rfl
            refine x_A fun a hf => ⟨rfl, hf.sub ⟨rfl, rfl, rfl, rfl, trivial⟩, H⟩
         ·rintro a wd1664 ⟨rfl, hf, H⟩
          try dsimp only at hB1540
          refine XX.at hf <| x_block <| x_then <| R_nd <| nq (Q_add rfl rfl) rfl rfl <| nq (Q_move rfl) rfl rfl <| WL_nil ?_
          obtain rfl := Option.some.inj hB1540
          refine x_A fun a hf => ⟨_, rfl, w64 (x1415 + 1), rfl, hf.sub ⟨rfl, rfl, rfl, rfl, trivial⟩, H⟩
      ·replace hB1540 := itF hb hB1540
       refine C_exit <| x_then_exit <| x_then_exit <| x_block_exit ?_
       obtain rfl := Option.some.inj hB1540
       obtain rfl := hO1541 _ rfl
       refine x_A fun a hf => ⟨rfl, hf.sub trivial, H⟩
    ·rintro a wd1665 ⟨rfl, hf, H⟩
     try dsimp only at hF
     refine XX.at hf <| x_then <| C_seq <| R_nd <| nq (Q_assign rfl) rfl rfl <| WL_nil <| x_then <| C_ret ?_
     obtain rfl := Option.some.inj hF
     exact fn_ret (l := [.tmp 2]) (vs := [.bool true]) rfl rfl rfl ⟨true, rfl, rfl, H⟩
theorem c_75 {N : Nat} {C : Cx} {w : World} {ρ : View} {hs : List Hl} {gV : Nat → Value} {x1 : Int} {x2 : Int} {x3 : Int} {x4 : Int} (H : Hp C w ρ (hs)) (_gle : GErrs ρ 394 errIds gV) {r : Unit} (hF : F_sets_Set_Empty N x1 x2 x3 x4 = some r) :
  Calls Tryz.prog 75 [.agg #[.int .u64 x1, .int .u64 x2, .int .u64 x3, .int .u64 x4]].toArray w (Rets (fun v w' => (() = r ∧ .bool (([x1, x2, x3, x4] : List Int) == ([0, 0, 0, 0] : List Int)) = v ∧ Hp C w' ρ (hs)))) := by
 unfold F_sets_Set_Empty at hF
 have h0 : Tryz.f75.body = some _ := rfl
 refine fn_calls' Tryz.func75 h0 (n := 6) rfl (by simp) <| C_seq <| R_nd <| ne (E_box H (vs := [.int .u64 x1, .int .u64 x2, .int .u64 x3, .int .u64 x4]) rfl rfl) rfl rfl ?_
 rintro _ wd8 ⟨b7, rfl, H⟩
 refine nq (Q_assign rfl) rfl rfl <| WL_nil <| x_then <| C_seq <| R_nd <| nq (v := .agg #[.int .u64 x1, .int .u64 x2, .int .u64 x3, .int .u64 x4]) (Q_ldB (k := 0) (cs := [.int .u64 x1, .int .u64 x2, .int .u64 x3, .int .u64 x4]) H.ok rfl ty39 rfl rfl rfl (fun h => nomatch h) rfl) rfl rfl <| nq (v := .agg #[.int .u64 0, .int .u64 0, .int .u64 0, .int .u64 0]) (Q_build0 (zs := [.int .u64 0, .int .u64 0, .int .u64 0, .int .u64 0]) ty39 Tryz.underlying39 ty37 rfl) rfl rfl <| nq (v := .bool (([x1, x2, x3, x4] : List Int) == ([0, 0, 0, 0] : List Int))) (Q_eqlA (xs := ([x1, x2, x3, x4] : List Int)) (ys := ([0, 0, 0, 0] : List Int)) Tryz.underlying39 ty37 (by kernel_rfl) Tryz.underlying37 (rdL_ints .u64 ρ ([x1, x2, x3, x4] : List Int)) rfl (rdL_ints .u64 ρ ([0, 0, 0, 0] : List Int)) rfl rfl rfl) rfl rfl <| nq (Q_assign rfl) rfl rfl <| WL_nil <| x_then <| C_ret ?_
 replace H := H.drop 0 rfl
 dsimp only [List.eraseIdx] at H
 obtain rfl := Option.some.inj hF
 exact fn_ret (l := [.tmp 2]) (vs := [.bool (([x1, x2, x3, x4] : List Int) == ([0, 0, 0, 0] : List Int))]) rfl rfl rfl ⟨rfl, rfl, H⟩
theorem c_74 {N : Nat} {C : Cx} {w : World} {ρ : View} {hs : List Hl} {gV : Nat → Value} {b2 : Nat} {x1 : Int} {x3 : Int} (H : Hp C w ρ (Box b2 [.int .i64 x3] :: hs)) (_gle : GErrs ρ 394 errIds gV) {r : Bool} (hF : F_nfa_Right_1 N x1 x3 = some r) :
  Calls Tryz.prog 74 [.int .i64 x1, .pointer (some ⟨b2, 0, none⟩)].toArray w (Rets (fun v w' => (∃ (x7 : Bool), x7 = r ∧ .bool x7 = v ∧ Hp C w' ρ (Box b2 [.int .i64 x3] :: hs)))) := by
 unfold F_nfa_Right_1 at hF
 have h0 : Tryz.f74.body = some _ := rfl
 refine fn_calls' Tryz.func74 h0 (n := 11) rfl (by simp) <| C_seq <| R_nd <| nq (Q_assign rfl) rfl rfl <| WL_nil <| x_then ?_
 obtain ⟨o9, ho9, hF⟩ := bnd hF
 refine C_cut (fun a w' => ∃ (x8 : Bool), x8 = o9 ∧ Fr 11 a [(3, .bool x8)] ∧ Hp C w' ρ (Box b2 [.int .i64 x3] :: hs)) ?_ ?_
 ·refine R_nd <| nq (Q_move rfl) rfl rfl <| nq (Q_lss rfl rfl) rfl rfl <| nq (Q_move rfl) rfl rfl ?_
  rcases Bool.eq_false_or_eq_true (decide (x1 < 0)) with hb | hb
  ·rw [hb]
   replace ho9 := itT hb ho9
   refine gs rfl rfl rfl rfl <| gs rfl rfl rfl rfl <| gs rfl rfl rfl rfl <| nq (Q_pickT rfl rfl) rfl rfl <| nq (Q_assign rfl) rfl rfl <| WL_nil ?_
   obtain rfl := Option.some.inj ho9
   refine x_A fun a hf => ⟨true, rfl, hf.sub ⟨rfl, trivial⟩, H⟩
  ·rw [hb]
   replace ho9 := itF hb ho9
   refine gq (Q_move rfl) rfl rfl rfl <| gq (v := .int .i64 x3) (Q_ldB (k := 0) (cs := [.int .i64 x3]) H.ok rfl ty3 rfl rfl rfl (fun _ => rfl) rfl) rfl rfl rfl <| gq (Q_geq rfl rfl) rfl rfl rfl <| nq (Q_pickF rfl rfl) rfl rfl <| nq (Q_assign rfl) rfl rfl <| WL_nil ?_
   obtain rfl := Option.some.inj ho9
   refine x_A fun a hf => ⟨decide (x1 ≥ x3), rfl, hf.sub ⟨rfl, trivial⟩, H⟩
 ·rintro a wd10 ⟨x8, rfl, hf, H⟩
  try dsimp only at hF
  refine CW.at hf <| C_ret ?_
  obtain rfl := Option.some.inj hF
  exact fn_ret (l := [.tmp 3]) (vs := [.bool x8]) rfl rfl rfl ⟨x8, rfl, rfl, H⟩
theorem c_128_2 {N : Nat} {C : Cx} {w : World} {ρ : View} {hs : List Hl} {gV : Nat → Value} {v1 : Value} {b4 : Nat} {x2 : (List Int)} {x5 : Int} (H : Hp C w ρ (Box b4 [.int .i64 x5] :: hs)) (gle : GErrs ρ 394 errIds gV) (r3 : RdSl ρ (eI .i64) v1 x2) {r : Int} (hF : F_slices_IndexFunc_int_int_2 N x2 x5 = some r) :
  Calls Tryz.prog 128 [v1, .func (.func 74) #[] [.pointer (some ⟨b4, 0, none⟩)].toArray].toArray w (Rets (fun v w' => (∃ (x88 : Int), x88 = r ∧ .int .i64 x88 = v ∧ Hp C w' ρ (Box b4 [.int .i64 x5] :: hs)))) := by
 unfold F_slices_IndexFunc_int_int_2 at hF
 have h0 : Tryz.f128.body = some _ := rfl
 refine fn_calls' Tryz.func128 h0 (n := 19) rfl (by simp) <| C_seq <| R_nd <| nq (Q_assign rfl) rfl rfl <| WL_nil <| x_then <| C_seq <| C_seq <| R_nd <| nq (Q_move rfl) rfl rfl <| nq (Q_len Tryz.underlying23 rfl r3) rfl rfl <| nq (Q_move rfl) rfl rfl <| WL_nil <| x_then ?_
 obtain ⟨o129, ho129, hF⟩ := bnd hF
 refine C_cutQ (fun a w' => .inl () = o129 ∧ Fr 19 a [] ∧ Hp C w' ρ (Box b4 [.int .i64 x5] :: hs)) ?_ ?_
 ·refine C_block ?_
  refine C_iter (f := fun s => F_slices_IndexFunc_int_int_2_l0 N x2 x5 s) ho129 (fun s a w' => ∃ (x142 : Int), x142 = s ∧ Fr 19 a [(0, v1), (1, .func (.func 74) #[] [.pointer (some ⟨b4, 0, none⟩)].toArray), (7, .int .i64 (x2.length : Int)), (8, .int .i64 x142)] ∧ Hp C w' ρ (Box b4 [.int .i64 x5] :: hs)) ?_ ?_
  ·exact fun a hf => ⟨0, rfl, hf.sub ⟨rfl, rfl, rfl, rfl, trivial⟩, H⟩
  ·rintro s o155 a wd158 ⟨x142, rfl, hf, H⟩ hB156 hO157
   replace hB156 : F_slices_IndexFunc_int_int_2_l0 N x2 x5 x142 = some o155 := hB156
   unfold F_slices_IndexFunc_int_int_2_l0 at hB156
   refine CW.at hf <| C_seq <| R_nd <| nq (Q_lss rfl rfl) rfl rfl <| WL_nil <| x_then <| C_seq ?_
   refine C_cond rfl (fun hb => ?_) (fun hb => ?_)
   ·replace hB156 := itT hb hB156
    refine C_skip <| x_then <| C_seq <| C_block <| C_seq <| R_nd <| nq (Q_move rfl) rfl rfl <| nq (Q_assign rfl) rfl rfl <| WL_nil <| x_then <| C_seq <| R_nd <| nq (Q_move rfl) rfl rfl <| nq (Q_move rfl) rfl rfl ?_
    refine nq (Q_move rfl) rfl rfl ?_
    obtain ⟨x159, hx159, hB156⟩ := bnd hB156
    obtain ⟨b160, o161, c162, hc163, ha164, hi165⟩ := idxR r3 hx159
    refine nq (Q_idx hi165 Tryz.underlying23 ty3 rfl rfl) rfl rfl <| nq (v := .int .i64 x159) (Q_ld (show cellsAt _ _ _ [.int .i64 x159] from (show _ = [_] from hc163) ▸ (ha164.up H.ok.view)) ty3 rfl (fun _ => rfl) rfl rfl) rfl rfl ?_
    obtain ⟨q166, hq166, hB156⟩ := bnd hB156
    refine ne (E_callV fn74 rfl rfl (c_74 H gle   hq166)) rfl rfl ?_
    rintro _ wd169 ⟨x168, rfl, rfl, H⟩
    try dsimp only at hB156
    refine WL_nil <| x_then ?_
    refine C_cond rfl (fun hb => ?_) (fun hb => ?_)
    ·replace hB156 := itT hb hB156
     refine C_seq <| R_nd <| nq (Q_move rfl) rfl rfl <| nq (Q_assign rfl) rfl rfl <| WL_nil <| x_then <| C_ret <| x_block_ret <| x_then_ret <| x_then_ret <| x_block_ret <| x_then_ret <| x_then_ret ?_
     obtain rfl := Option.some.inj hB156
     obtain rfl := hO157 _ rfl
     obtain rfl := Option.some.inj (show some _ = some _ from hF)
     exact fn_ret (l := [.tmp 4]) (vs := [.int .i64 x142]) rfl rfl rfl ⟨x142, rfl, rfl, H⟩
    ·replace hB156 := itF hb hB156
     refine C_skip <| x_block <| x_then <| R_nd <| nq (Q_add rfl rfl) rfl rfl <| nq (Q_move rfl) rfl rfl <| WL_nil ?_
     obtain rfl := Option.some.inj hB156
     refine x_A fun a hf => ⟨_, rfl, w64 (x142 + 1), rfl, hf.sub ⟨rfl, rfl, rfl, rfl, trivial⟩, H⟩
   ·replace hB156 := itF hb hB156
    refine C_exit <| x_then_exit <| x_then_exit <| x_block_exit ?_
    obtain rfl := Option.some.inj hB156
    obtain rfl := hO157 _ rfl
    refine x_A fun a hf => ⟨rfl, hf.sub trivial, H⟩
 ·rintro a wd170 ⟨rfl, hf, H⟩
  try dsimp only at hF
  refine XX.at hf <| x_then <| C_seq <| R_nd <| nq (Q_assign rfl) rfl rfl <| WL_nil <| x_then <| C_ret ?_
  obtain rfl := Option.some.inj hF
  exact fn_ret (l := [.tmp 4]) (vs := [.int .i64 (-1)]) rfl rfl rfl ⟨(-1), rfl, rfl, H⟩
theorem c_76_2 {N : Nat} {C : Cx} {w : World} {ρ : View} {hs : List Hl} {gV : Nat → Value} {v1 : Value} {b4 : Nat} {x2 : (List Int)} {x5 : Int} (H : Hp C w ρ (Box b4 [.int .i64 x5] :: hs)) (gle : GErrs ρ 394 errIds gV) (r3 : RdSl ρ (eI .i64) v1 x2) {r : Bool} (hF : F_slices_ContainsFunc_int_int_2 N x2 x5 = some r) :
  Calls Tryz.prog 76 [v1, .func (.func 74) #[] [.pointer (some ⟨b4, 0, none⟩)].toArray].toArray w (Rets (fun v w' => (∃ (x10 : Bool), x10 = r ∧ .bool x10 = v ∧ Hp C w' ρ (Box b4 [.int .i64 x5] :: hs)))) := by
 unfold F_slices_ContainsFunc_int_int_2 at hF
 have h0 : Tryz.f76.body = some _ := rfl
 refine fn_calls' Tryz.func76 h0 (n := 9) rfl (by simp) <| C_seq <| R_nd <| nq (Q_assign rfl) rfl rfl <| WL_nil <| x_then <| C_seq <| R_nd <| nq (Q_move rfl) rfl rfl <| nq (Q_move rfl) rfl rfl ?_
 obtain ⟨q11, hq11, hF⟩ := bnd hF
 refine ne (E_call fn128 rfl (c_128_2 H gle  r3 hq11)) rfl rfl ?_
 rintro _ wd14 ⟨x13, rfl, rfl, H⟩
 try dsimp only at hF
 refine nq (Q_geq rfl rfl) rfl rfl <| nq (Q_assign rfl) rfl rfl <| WL_nil <| x_then <| C_ret ?_
 obtain rfl := Option.some.inj hF
 exact fn_ret (l := [.tmp 4]) (vs := [.bool (decide (x13 ≥ 0))]) rfl rfl rfl ⟨decide (x13 ≥ 0), rfl, rfl, H⟩
theorem c_18 {N : Nat} {C : Cx} {w : World} {ρ : View} {hs : List Hl} {gV : Nat → Value} {v1 : Value} {v4 : Value} {x2 : (List ((List Int) × (Int × Int × Int × Int) × Int × Int))} {x5 : (List Int)} (H : Hp C w ρ (hs)) (gle : GErrs ρ 394 errIds gV) (r3 : RdSl ρ (eP (eL (eI .i64)) (eP (eP (eI .u64) (eP (eI .u64) (eP (eI .u64) (eI .u64)))) (eP (eI .i64) (eI .i64)))) v1 x2) (r6 : RdSl ρ (eI .i64) v4 x5) {r : Bool} (hF : F_nfa_Right N x2 x5 = some r) :
  Calls Tryz.prog 18 [.agg #[v1, v4]].toArray w (Rets (fun v w' => (∃ (x516 : Bool), x516 = r ∧ .bool x516 = v ∧ Hp C w' ρ (hs)))) := by
 unfold F_nfa_Right at hF
 have h0 : Tryz.f18.body = some _ := rfl
 refine fn_calls' Tryz.func18 h0 (n := 80) rfl (by simp) <| C_seq <| R_nd <| ne (E_box H (vs := [v1, v4]) rfl rfl) rfl rfl ?_
 rintro _ wd518 ⟨b517, rfl, H⟩
 refine nq (Q_assign rfl) rfl rfl <| WL_nil <| x_then <| C_seq <| R_nd <| nq (v := .pointer (some ⟨b517, 0, none⟩)) (Q_fld Tryz.underlying25 rfl ty22 (by decide) rfl rfl) rfl rfl <| nq (v := v1) (Q_ldB (k := 0) (cs := [v1]) H.ok rfl ty22 rfl rfl rfl (fun _ => rfl) rfl) rfl rfl <| nq (Q_len Tryz.underlying22 rfl r3) rfl rfl <| ne (E_alloc H ty3 (zs := [.int .i64 0]) rfl) rfl rfl ?_
 rintro _ wd520 ⟨b519, rfl, H⟩
 refine ne (E_stB (k := 0) (cs := [.int .i64 (x2.length : Int)]) (vs' := [.int .i64 (x2.length : Int)]) H rfl ty3 rfl rfl rfl rfl (one_cons rfl one_nil) (by simp) rfl) rfl rfl ?_
 rintro _ wd521 H
 dsimp only [List.set] at H
 refine WL_nil <| x_then <| C_seq <| R_nd <| nq (v := .func (.func 74) #[] [.pointer (some ⟨b519, 0, none⟩)].toArray) (Q_func rfl) rfl rfl <| nq (Q_assign rfl) rfl rfl <| WL_nil <| x_then <| C_seq <| C_seq <| R_nd <| nq (v := .pointer (some ⟨b517, 0, none⟩)) (Q_fld Tryz.underlying25 rfl ty22 (by decide) rfl rfl) rfl rfl <| nq (v := v1) (Q_ldB (k := 1) (cs := [v1]) H.ok rfl ty22 rfl rfl rfl (fun _ => rfl) rfl) rfl rfl <| nq (Q_len Tryz.underlying22 rfl r3) rfl rfl ?_
 refine nq (Q_move rfl) rfl rfl <| WL_nil <| x_then ?_
 obtain ⟨o766, ho766, hF⟩ := bnd hF
 refine C_cutQ (fun a w' => .inl () = o766 ∧ Fr 80 a [(1, .pointer (some ⟨b517, 0, none⟩)), (3, .pointer (some ⟨b519, 0, none⟩)), (4, .func (.func 74) #[] [.pointer (some ⟨b519, 0, none⟩)].toArray)] ∧ Hp C w' ρ (Box b517 [v1, v4] :: Box b519 [.int .i64 (x2.length : Int)] :: hs)) ?_ ?_
 ·refine C_block ?_
  replace H := H.f1
  refine C_iter (f := fun s => F_nfa_Right_l0 N x2 s) ho766 (fun s a w' => ∃ (x847 : Int), x847 = s ∧ Fr 80 a [(1, .pointer (some ⟨b517, 0, none⟩)), (3, .pointer (some ⟨b519, 0, none⟩)), (4, .func (.func 74) #[] [.pointer (some ⟨b519, 0, none⟩)].toArray), (14, v1), (15, .int .i64 (x2.length : Int)), (16, .int .i64 x847)] ∧ Hp C w' ρ (Box b517 [v1, v4] :: Box b519 [.int .i64 (x2.length : Int)] :: hs)) ?_ ?_
  ·exact fun a hf => ⟨0, rfl, hf.sub ⟨rfl, rfl, rfl, rfl, rfl, rfl, trivial⟩, H⟩
  ·rintro s o928 a wd931 ⟨x847, rfl, hf, H⟩ hB929 hO930
   replace hB929 : F_nfa_Right_l0 N x2 x847 = some o928 := hB929
   unfold F_nfa_Right_l0 at hB929
   refine CW.at hf <| C_seq <| R_nd <| nq (Q_lss rfl rfl) rfl rfl <| WL_nil <| x_then <| C_seq ?_
   refine C_cond rfl (fun hb => ?_) (fun hb => ?_)
   ·replace hB929 := itT hb hB929
    refine C_skip <| x_then <| C_seq <| C_block <| C_seq <| R_nd ?_
    obtain ⟨x932, hx932, hB929⟩ := bnd hB929
    obtain ⟨b933, o934, c935, hc936, ha937, hi938⟩ := idxR r3 hx932
    refine nq (Q_idx hi938 Tryz.underlying22 ty41 rfl rfl) rfl rfl ?_
    obtain ⟨c939, c940, he941, hc942, hc943⟩ := (id hc936)
    obtain ⟨v944, he945, r946⟩ := hc942
    obtain ⟨c947, c948, he949, hc950, hc951⟩ := hc943
    obtain ⟨c952, c953, he954, hc955, hc956⟩ := hc950
    obtain ⟨c957, c958, he959, hc960, hc961⟩ := hc956
    obtain ⟨c962, c963, he964, hc965, hc966⟩ := hc961
    obtain ⟨c967, c968, he969, hc970, hc971⟩ := hc951
    refine nq (v := .agg #[v944, .int .u64 x932.2.1.1, .int .u64 x932.2.1.2.1, .int .u64 x932.2.1.2.2.1, .int .u64 x932.2.1.2.2.2, .int .i64 x932.2.2.1, .int .i64 x932.2.2.2]) (Q_ld (show cellsAt _ _ _ [v944, .int .u64 x932.2.1.1, .int .u64 x932.2.1.2.1, .int .u64 x932.2.1.2.2.1, .int .u64 x932.2.1.2.2.2, .int .i64 x932.2.2.1, .int .i64 x932.2.2.2] from cellsAt.cg (cat2 he941 he945 (cat2 he949 (cat2 he954 (rdI hc955) (cat2 he959 (rdI hc960) (cat2 he964 (rdI hc965) (rdI hc966)))) (cat2 he969 (rdI hc970) (rdI hc971)))) (ha937.up H.ok.view)) ty41 rfl (fun h => nomatch h) rfl rfl) rfl rfl <| ne (E_alloc H ty41 (zs := [.slice none 0 0, .int .u64 0, .int .u64 0, .int .u64 0, .int .u64 0, .int .i64 0, .int .i64 0]) rfl) rfl rfl ?_
    rintro _ wd973 ⟨b972, rfl, H⟩
    refine ne (E_stB (k := 0) (cs := [v944, .int .u64 x932.2.1.1, .int .u64 x932.2.1.2.1, .int .u64 x932.2.1.2.2.1, .int .u64 x932.2.1.2.2.2, .int .i64 x932.2.2.1, .int .i64 x932.2.2.2]) (vs' := [v944, .int .u64 x932.2.1.1, .int .u64 x932.2.1.2.1, .int .u64 x932.2.1.2.2.1, .int .u64 x932.2.1.2.2.2, .int .i64 x932.2.2.1, .int .i64 x932.2.2.2]) H rfl ty41 rfl rfl rfl rfl (one_cons (RdSl.one r946) (one_cons rfl (one_cons rfl (one_cons rfl (one_cons rfl (one_cons rfl (one_cons rfl one_nil))))))) (by simp) rfl) rfl rfl ?_
    rintro _ wd974 H
    dsimp only [List.set] at H
    refine WL_nil <| x_then ?_
    obtain ⟨o987, ho987, hB929⟩ := bnd hB929
    refine C_cut (fun a w' => ∃ (x986 : Bool), x986 = o987 ∧ Fr 80 a [(1, .pointer (some ⟨b517, 0, none⟩)), (3, .pointer (some ⟨b519, 0, none⟩)), (4, .func (.func 74) #[] [.pointer (some ⟨b519, 0, none⟩)].toArray), (6, .pointer (some ⟨b972, 0, none⟩)), (7, .bool x986), (14, v1), (15, .int .i64 (x2.length : Int)), (16, .int .i64 x847)] ∧ Hp C w' ρ (Box b517 [v1, v4] :: Box b519 [.int .i64 (x2.length : Int)] :: Box b972 [v944, .int .u64 x932.2.1.1, .int .u64 x932.2.1.2.1, .int .u64 x932.2.1.2.2.1, .int .u64 x932.2.1.2.2.2, .int .i64 x932.2.2.1, .int .i64 x932.2.2.2] :: hs)) ?_ ?_
    ·refine R_nd <| nq (v := .pointer (some ⟨b972, 5, none⟩)) (Q_fld Tryz.underlying41 rfl ty3 (by decide) rfl rfl) rfl rfl <| nq (v := .int .i64 x932.2.2.1) (Q_ldB (k := 0) (cs := [.int .i64 x932.2.2.1]) H.ok rfl ty3 rfl rfl rfl (fun _ => rfl) rfl) rfl rfl <| nq (Q_eql rfl rfl) rfl rfl <| nq (Q_move rfl) rfl rfl ?_
     rcases Bool.eq_false_or_eq_true (x932.2.2.1 == (-1)) with hb | hb
     ·rw [hb]
      replace ho987 := itT hb ho987
      refine gq (v := .pointer (some ⟨b972, 1, none⟩)) (Q_fld Tryz.underlying41 rfl ty39 (by decide) rfl rfl) rfl rfl rfl <| gq (v := .agg #[.int .u64 x932.2.1.1, .int .u64 x932.2.1.2.1, .int .u64 x932.2.1.2.2.1, .int .u64 x932.2.1.2.2.2]) (Q_ldB (k := 0) (cs := [.int .u64 x932.2.1.1, .int .u64 x932.2.1.2.1, .int .u64 x932.2.1.2.2.1, .int .u64 x932.2.1.2.2.2]) H.ok rfl ty39 rfl rfl rfl (fun h => nomatch h) rfl) rfl rfl rfl ?_
      obtain ⟨q988, hq988, ho987⟩ := bnd ho987
      refine ge (E_call fn75 rfl (c_75 H gle   hq988)) rfl rfl rfl ?_
      rintro _ wd990 ⟨rfl, rfl, H⟩
      try dsimp only at ho987
      refine nq (Q_pickT rfl rfl) rfl rfl <| nq (Q_move rfl) rfl rfl ?_
      rcases Bool.eq_false_or_eq_true (([x932.2.1.1, x932.2.1.2.1, x932.2.1.2.2.1, x932.2.1.2.2.2] : List Int) == ([0, 0, 0, 0] : List Int)) with hb | hb
      ·rw [hb]
       replace ho987 := itT hb ho987
       refine gs rfl rfl rfl rfl <| gs rfl rfl rfl rfl <| gs rfl rfl rfl rfl <| gs rfl rfl rfl rfl <| gs rfl rfl rfl rfl <| nq (Q_pickT rfl rfl) rfl rfl <| nq (Q_assign rfl) rfl rfl <| WL_nil ?_
       replace H := H.f2
       replace H := H.f2
       obtain rfl := Option.some.inj ho987
       refine x_A fun a hf => ⟨true, rfl, hf.sub ⟨rfl, rfl, rfl, rfl, rfl, rfl, rfl, rfl, trivial⟩, H⟩
      ·rw [hb]
       replace ho987 := itF hb ho987
       refine gq (Q_move rfl) rfl rfl rfl <| gq (v := .pointer (some ⟨b972, 5, none⟩)) (Q_fld Tryz.underlying41 rfl ty3 (by decide) rfl rfl) rfl rfl rfl <| gq (v := .int .i64 x932.2.2.1) (Q_ldB (k := 0) (cs := [.int .i64 x932.2.2.1]) H.ok rfl ty3 rfl rfl rfl (fun _ => rfl) rfl) rfl rfl rfl ?_
       replace H := H.f2
       obtain ⟨q991, hq991, ho987⟩ := bnd ho987
       refine ge (E_callV fn74 rfl rfl (c_74 H gle   hq991)) rfl rfl rfl ?_
       rintro _ wd994 ⟨x993, rfl, rfl, H⟩
       try dsimp only at ho987
       refine gq (Q_not rfl) rfl rfl rfl <| nq (Q_pickF rfl rfl) rfl rfl <| nq (Q_assign rfl) rfl rfl <| WL_nil ?_
       replace H := H.f1
       replace H := H.f1
       replace H := H.f2
       obtain rfl := Option.some.inj ho987
       refine x_A fun a hf => ⟨!x993, rfl, hf.sub ⟨rfl, rfl, rfl, rfl, rfl, rfl, rfl, rfl, trivial⟩, H⟩
     ·rw [hb]
      replace ho987 := itF hb ho987
      refine gs rfl rfl rfl rfl <| gs rfl rfl rfl rfl <| gs rfl rfl rfl rfl <| nq (Q_pickF rfl rfl) rfl rfl <| nq (Q_move rfl) rfl rfl <| gq (Q_move rfl) rfl rfl rfl <| gq (v := .pointer (some ⟨b972, 5, none⟩)) (Q_fld Tryz.underlying41 rfl ty3 (by decide) rfl rfl) rfl rfl rfl <| gq (v := .int .i64 x932.2.2.1) (Q_ldB (k := 0) (cs := [.int .i64 x932.2.2.1]) H.ok rfl ty3 rfl rfl rfl (fun _ => rfl) rfl) rfl rfl rfl ?_
      replace H := H.f2
      obtain ⟨q995, hq995, ho987⟩ := bnd ho987
      refine ge (E_callV fn74 rfl rfl (c_74 H gle   hq995)) rfl rfl rfl ?_
      rintro _ wd998 ⟨x997, rfl, rfl, H⟩
      try dsimp only at ho987
      refine gq (Q_not rfl) rfl rfl rfl <| nq (Q_pickF rfl rfl) rfl rfl <| nq (Q_assign rfl) rfl rfl <| WL_nil ?_
      replace H := H.f1
      replace H := H.f1
      replace H := H.f2
      obtain rfl := Option.some.inj ho987
      refine x_A fun a hf => ⟨!x997, rfl, hf.sub ⟨rfl, rfl, rfl, rfl, rfl, rfl, rfl, rfl, trivial⟩, H⟩
    ·rintro a wd999 ⟨x986, rfl, hf, H⟩
     try dsimp only at hB929
     refine CW.at hf ?_
     obtain ⟨o1005, ho1005, hB929⟩ := bnd hB929
     refine C_cut (fun a w' => ∃ (x1004 : Bool), x1004 = o1005 ∧ Fr 80 a [(1, .pointer (some ⟨b517, 0, none⟩)), (3, .pointer (some ⟨b519, 0, none⟩)), (4, .func (.func 74) #[] [.pointer (some ⟨b519, 0, none⟩)].toArray), (14, v1), (15, .int .i64 (x2.length : Int)), (16, .int .i64 x847), (52, .bool x1004)] ∧ Hp C w' ρ (Box b517 [v1, v4] :: Box b519 [.int .i64 (x2.length : Int)] :: hs)) ?_ ?_
     ·refine R_nd <| nq (Q_move rfl) rfl rfl <| nq (Q_not rfl) rfl rfl <| nq (Q_move rfl) rfl rfl ?_
      rcases Bool.eq_false_or_eq_true (!x986) with hb | hb
      ·rw [hb]
       replace ho1005 := itT hb ho1005
       refine gs rfl rfl rfl rfl <| gs rfl rfl rfl rfl <| gs rfl rfl rfl rfl <| gs rfl rfl rfl rfl <| nq (Q_pickT rfl rfl) rfl rfl <| nq (Q_move rfl) rfl rfl <| gs rfl rfl rfl rfl <| gs rfl rfl rfl rfl <| gs rfl rfl rfl rfl <| nq (Q_pickT rfl rfl) rfl rfl <| nq (Q_move rfl) rfl rfl <| gs rfl rfl rfl rfl <| gs rfl rfl rfl rfl <| gs rfl rfl rfl rfl ?_
       refine nq (Q_pickT rfl rfl) rfl rfl <| WL_nil ?_
       replace H := H.f1
       replace H := H.f1
       replace H := H.drop 2 rfl
       dsimp only [List.eraseIdx] at H
       obtain rfl := Option.some.inj ho1005
       refine x_A fun a hf => ⟨true, rfl, hf.sub ⟨rfl, rfl, rfl, rfl, rfl, rfl, rfl, trivial⟩, H⟩
      ·rw [hb]
       replace ho1005 := itF hb ho1005
       refine gq (v := .pointer (some ⟨b972, 0, none⟩)) (Q_fld Tryz.underlying41 rfl ty23 (by decide) rfl rfl) rfl rfl rfl <| gq (v := v944) (Q_ldB (k := 2) (cs := [v944]) H.ok rfl ty23 rfl rfl rfl (fun _ => rfl) rfl) rfl rfl rfl <| gq (Q_move rfl) rfl rfl rfl ?_
       replace H := H.f1
       obtain ⟨q1006, hq1006, ho1005⟩ := bnd ho1005
       refine ge (E_call fn76 rfl (c_76_2 H gle  r946 hq1006)) rfl rfl rfl ?_
       rintro _ wd1009 ⟨x1008, rfl, rfl, H⟩
       try dsimp only at ho1005
       refine nq (Q_pickF rfl rfl) rfl rfl <| nq (Q_move rfl) rfl rfl ?_
       rcases Bool.eq_false_or_eq_true x1008 with hb | hb
       ·rw [hb]
        replace ho1005 := itT hb ho1005
        refine gs rfl rfl rfl rfl <| gs rfl rfl rfl rfl <| gs rfl rfl rfl rfl <| nq (Q_pickT rfl rfl) rfl rfl <| nq (Q_move rfl) rfl rfl <| gs rfl rfl rfl rfl <| gs rfl rfl rfl rfl <| gs rfl rfl rfl rfl <| nq (Q_pickT rfl rfl) rfl rfl <| WL_nil ?_
        replace H := H.f1
        replace H := H.drop 2 rfl
        dsimp only [List.eraseIdx] at H
        obtain rfl := Option.some.inj ho1005
        refine x_A fun a hf => ⟨true, rfl, hf.sub ⟨rfl, rfl, rfl, rfl, rfl, rfl, rfl, trivial⟩, H⟩
       ·rw [hb]
        replace ho1005 := itF hb ho1005
        refine gq (v := .pointer (some ⟨b972, 6, none⟩)) (Q_fld Tryz.underlying41 rfl ty3 (by decide) rfl rfl) rfl rfl rfl <| gq (v := .int .i64 x932.2.2.2) (Q_ldB (k := 2) (cs := [.int .i64 x932.2.2.2]) H.ok rfl ty3 rfl rfl rfl (fun _ => rfl) rfl) rfl rfl rfl <| gq (Q_lss rfl rfl) rfl rfl rfl <| nq (Q_pickF rfl rfl) rfl rfl <| nq (Q_move rfl) rfl rfl ?_
        rcases Bool.eq_false_or_eq_true (decide (x932.2.2.2 < (-1))) with hb | hb
        ·rw [hb]
         replace ho1005 := itT hb ho1005
         refine gs rfl rfl rfl rfl <| gs rfl rfl rfl rfl <| gs rfl rfl rfl rfl <| nq (Q_pickT rfl rfl) rfl rfl <| WL_nil ?_
         replace H := H.f1
         replace H := H.drop 2 rfl
         dsimp only [List.eraseIdx] at H
         obtain rfl := Option.some.inj ho1005
         refine x_A fun a hf => ⟨true, rfl, hf.sub ⟨rfl, rfl, rfl, rfl, rfl, rfl, rfl, trivial⟩, H⟩
        ·rw [hb]
         replace ho1005 := itF hb ho1005
         refine gq (v := .pointer (some ⟨b972, 6, none⟩)) (Q_fld Tryz.underlying41 rfl ty3 (by decide) rfl rfl) rfl rfl rfl <| gq (v := .int .i64 x932.2.2.2) (Q_ldB (k := 2) (cs := [.int .i64 x932.2.2.2]) H.ok rfl ty3 rfl rfl rfl (fun _ => rfl) rfl) rfl rfl rfl <| gq (Q_geq rfl rfl) rfl rfl rfl <| nq (Q_pickF rfl rfl) rfl rfl <| WL_nil ?_
         replace H := H.f1
         replace H := H.drop 2 rfl
         dsimp only [List.eraseIdx] at H
         obtain rfl := Option.some.inj ho1005
         refine x_A fun a hf => ⟨decide (x932.2.2.2 ≥ 48), rfl, hf.sub ⟨rfl, rfl, rfl, rfl, rfl, rfl, rfl, trivial⟩, H⟩
     ·rintro a wd1010 ⟨x1004, rfl, hf, H⟩
      try dsimp only at hB929
      refine CW.at hf ?_
      refine C_cond rfl (fun hb => ?_) (fun hb => ?_)
      ·replace hB929 := itT hb hB929
       refine C_seq <| R_nd <| nq (Q_assign rfl) rfl rfl <| WL_nil <| x_then <| C_ret <| x_block_ret <| x_then_ret <| x_then_ret <| x_block_ret <| x_then_ret <| x_then_ret ?_
       replace H := H.drop 0 rfl
       dsimp only [List.eraseIdx] at H
       replace H := H.drop 0 rfl
       dsimp only [List.eraseIdx] at H
       obtain rfl := Option.some.inj hB929
       obtain rfl := hO930 _ rfl
       obtain rfl := Option.some.inj (show some _ = some _ from hF)
       exact fn_ret (l := [.tmp 2]) (vs := [.bool false]) rfl rfl rfl ⟨false, rfl, rfl, H⟩
      ·replace hB929 := itF hb hB929
       refine C_skip <| x_block <| x_then <| R_nd <| nq (Q_add rfl rfl) rfl rfl <| nq (Q_move rfl) rfl rfl <| WL_nil ?_
       replace H := H.f1
       replace H := H.f1
       obtain rfl := Option.some.inj hB929
       refine x_A fun a hf => ⟨_, rfl, w64 (x847 + 1), rfl, hf.sub ⟨rfl, rfl, rfl, rfl, rfl, rfl, trivial⟩, H⟩
   ·replace hB929 := itF hb hB929
    refine C_exit <| x_then_exit <| x_then_exit <| x_block_exit ?_
    replace H := H.f1
    replace H := H.f1
    obtain rfl := Option.some.inj hB929
    obtain rfl := hO930 _ rfl
    refine x_A fun a hf => ⟨rfl, hf.sub ⟨rfl, rfl, rfl, trivial⟩, H⟩
 ·rintro a wd1011 ⟨rfl, hf, H⟩
  try dsimp only at hF
  refine XX.at hf <| x_then ?_
  obtain ⟨o1013, ho1013, hF⟩ := bnd hF
  refine C_cut (fun a w' => ∃ (x1012 : Bool), x1012 = o1013 ∧ Fr 80 a [(1, .pointer (some ⟨b517, 0, none⟩)), (3, .pointer (some ⟨b519, 0, none⟩)), (4, .func (.func 74) #[] [.pointer (some ⟨b519, 0, none⟩)].toArray), (8, .bool x1012)] ∧ Hp C w' ρ (Box b517 [v1, v4] :: Box b519 [.int .i64 (x2.length : Int)] :: hs)) ?_ ?_
  ·refine R_nd <| nq (v := .pointer (some ⟨b517, 1, none⟩)) (Q_fld Tryz.underlying25 rfl ty23 (by decide) rfl rfl) rfl rfl <| nq (v := v4) (Q_ldB (k := 0) (cs := [v4]) H.ok rfl ty23 rfl rfl rfl (fun _ => rfl) rfl) rfl rfl <| nq (Q_len Tryz.underlying23 rfl r6) rfl rfl <| nq (Q_geq rfl rfl) rfl rfl <| nq (Q_move rfl) rfl rfl ?_
   rcases Bool.eq_false_or_eq_true (decide ((x5.length : Int) ≥ 1)) with hb | hb
   ·rw [hb]
    replace ho1013 := itT hb ho1013
    refine gq (v := .pointer (some ⟨b517, 1, none⟩)) (Q_fld Tryz.underlying25 rfl ty23 (by decide) rfl rfl) rfl rfl rfl <| gq (v := v4) (Q_ldB (k := 0) (cs := [v4]) H.ok rfl ty23 rfl rfl rfl (fun _ => rfl) rfl) rfl rfl rfl <| gq (Q_len Tryz.underlying23 rfl r6) rfl rfl rfl <| gq (Q_leq rfl rfl) rfl rfl rfl <| nq (Q_pickT rfl rfl) rfl rfl <| nq (Q_assign rfl) rfl rfl <| WL_nil ?_
    replace H := H.f1
    replace H := H.f1
    obtain rfl := Option.some.inj ho1013
    refine x_A fun a hf => ⟨decide ((x5.length : Int) ≤ 8), rfl, hf.sub ⟨rfl, rfl, rfl, rfl, trivial⟩, H⟩
   ·rw [hb]
    replace ho1013 := itF hb ho1013
    refine gs rfl rfl rfl rfl <| gs rfl rfl rfl rfl <| gs rfl rfl rfl rfl <| gs rfl rfl rfl rfl <| nq (Q_pickF rfl rfl) rfl rfl <| nq (Q_assign rfl) rfl rfl <| WL_nil ?_
    replace H := H.f1
    replace H := H.f1
    obtain rfl := Option.some.inj ho1013
    refine x_A fun a hf => ⟨false, rfl, hf.sub ⟨rfl, rfl, rfl, rfl, trivial⟩, H⟩
  ·rintro a wd1014 ⟨x1012, rfl, hf, H⟩
   try dsimp only at hF
   refine CW.at hf ?_
   obtain ⟨o1020, ho1020, hF⟩ := bnd hF
   refine C_cut (fun a w' => ∃ (x1019 : Bool), x1019 = o1020 ∧ Fr 80 a [(2, .bool x1019)] ∧ Hp C w' ρ (hs)) ?_ ?_
   ·refine R_nd <| nq (Q_move rfl) rfl rfl <| nq (Q_move rfl) rfl rfl ?_
    rcases Bool.eq_false_or_eq_true x1012 with hb | hb
    ·rw [hb]
     replace ho1020 := itT hb ho1020
     refine gq (v := .int .i64 (x2.length : Int)) (Q_ldB (k := 1) (cs := [.int .i64 (x2.length : Int)]) H.ok rfl ty3 rfl rfl rfl (fun _ => rfl) rfl) rfl rfl rfl <| gq (Q_geq rfl rfl) rfl rfl rfl <| nq (Q_pickT rfl rfl) rfl rfl <| nq (Q_move rfl) rfl rfl ?_
     rcases Bool.eq_false_or_eq_true (decide ((x2.length : Int) ≥ 1)) with hb | hb
     ·rw [hb]
      replace ho1020 := itT hb ho1020
      refine gq (v := .int .i64 (x2.length : Int)) (Q_ldB (k := 1) (cs := [.int .i64 (x2.length : Int)]) H.ok rfl ty3 rfl rfl rfl (fun _ => rfl) rfl) rfl rfl rfl <| gq (Q_leq rfl rfl) rfl rfl rfl <| nq (Q_pickT rfl rfl) rfl rfl <| nq (Q_move rfl) rfl rfl ?_
      rcases Bool.eq_false_or_eq_true (decide ((x2.length : Int) ≤ 4000)) with hb | hb
      ·rw [hb]
       replace ho1020 := itT hb ho1020
       refine gq (v := .pointer (some ⟨b517, 1, none⟩)) (Q_fld Tryz.underlying25 rfl ty23 (by decide) rfl rfl) rfl rfl rfl <| gq (v := v4) (Q_ldB (k := 0) (cs := [v4]) H.ok rfl ty23 rfl rfl rfl (fun _ => rfl) rfl) rfl rfl rfl <| gq (Q_move rfl) rfl rfl rfl ?_
       replace H := H.f1
       obtain ⟨q1021, hq1021, ho1020⟩ := bnd ho1020
       refine ge (E_call fn76 rfl (c_76_2 H gle  r6 hq1021)) rfl rfl rfl ?_
       rintro _ wd1024 ⟨x1023, rfl, rfl, H⟩
       try dsimp only at ho1020
       refine gq (Q_not rfl) rfl rfl rfl <| nq (Q_pickT rfl rfl) rfl rfl <| nq (Q_assign rfl) rfl rfl <| WL_nil ?_
       replace H := H.drop 0 rfl
       dsimp only [List.eraseIdx] at H
       replace H := H.drop 0 rfl
       dsimp only [List.eraseIdx] at H
       obtain rfl := Option.some.inj ho1020
       refine x_A fun a hf => ⟨!x1023, rfl, hf.sub ⟨rfl, trivial⟩, H⟩
      ·rw [hb]
       replace ho1020 := itF hb ho1020
       refine gs rfl rfl rfl rfl <| gs rfl rfl rfl rfl <| gs rfl rfl rfl rfl <| gs rfl rfl rfl rfl <| gs rfl rfl rfl rfl <| nq (Q_pickF rfl rfl) rfl rfl <| nq (Q_assign rfl) rfl rfl <| WL_nil ?_
       replace H := H.drop 0 rfl
       dsimp only [List.eraseIdx] at H
       replace H := H.drop 0 rfl
       dsimp only [List.eraseIdx] at H
       obtain rfl := Option.some.inj ho1020
       refine x_A fun a hf => ⟨false, rfl, hf.sub ⟨rfl, trivial⟩, H⟩
     ·rw [hb]
      replace ho1020 := itF hb ho1020
      refine gs rfl rfl rfl rfl <| gs rfl rfl rfl rfl <| nq (Q_pickF rfl rfl) rfl rfl <| nq (Q_move rfl) rfl rfl <| gs rfl rfl rfl rfl <| gs rfl rfl rfl rfl <| gs rfl rfl rfl rfl <| gs rfl rfl rfl rfl <| gs rfl rfl rfl rfl <| nq (Q_pickF rfl rfl) rfl rfl <| nq (Q_assign rfl) rfl rfl <| WL_nil ?_
      replace H := H.drop 0 rfl
      dsimp only [List.eraseIdx] at H
      replace H := H.drop 0 rfl
      dsimp only [List.eraseIdx] at H
      obtain rfl := Option.some.inj ho1020
      refine x_A fun a hf => ⟨false, rfl, hf.sub ⟨rfl, trivial⟩, H⟩
    ·rw [hb]
     replace ho1020 := itF hb ho1020
     refine gs rfl rfl rfl rfl <| gs rfl rfl rfl rfl <| nq (Q_pickF rfl rfl) rfl rfl <| nq (Q_move rfl) rfl rfl <| gs rfl rfl rfl rfl <| gs rfl rfl rfl rfl <| nq (Q_pickF rfl rfl) rfl rfl <| nq (Q_move rfl) rfl rfl <| gs rfl rfl rfl rfl <| gs rfl rfl rfl rfl <| gs rfl rfl rfl rfl <| gs rfl rfl rfl rfl <| gs rfl rfl rfl rfl <| nq (Q_pickF rfl rfl) rfl rfl ?_
     refine nq (Q_assign rfl) rfl rfl <| WL_nil ?_
     replace H := H.drop 0 rfl
     dsimp only [List.eraseIdx] at H
     replace H := H.drop 0 rfl
     dsimp only [List.eraseIdx] at H
     obtain rfl := Option.some.inj ho1020
     refine x_A fun a hf => ⟨false, rfl, hf.sub ⟨rfl, trivial⟩, H⟩
   ·rintro a wd1025 ⟨x1019, rfl, hf, H⟩
    try dsimp only at hF
    refine CW.at hf <| C_ret ?_
    obtain rfl := Option.some.inj hF
    exact fn_ret (l := [.tmp 2]) (vs := [.bool x1019]) rfl rfl rfl ⟨x1019, rfl, rfl, H⟩
theorem c_132 {N : Nat} {C : Cx} {w : World} {ρ : View} {hs : List Hl} {gV : Nat → Value} {x1 : Int} (H : Hp C w ρ (hs)) (_gle : GErrs ρ 394 errIds gV) (gl18 : GTab ρ 18 .u8 tab_math_bits_deBruijn64tab) {r : Int} (hF : F_math_bits_TrailingZeros64 N x1 = some r) :
  Calls Tryz.prog 132 [.int .u64 x1].toArray w (Rets (fun v w' => (∃ (x4 : Int), x4 = r ∧ .int .i64 x4 = v ∧ Hp C w' ρ (hs)))) := by
 unfold F_math_bits_TrailingZeros64 at hF
 have h0 : Tryz.f132.body = some _ := rfl
 refine fn_calls' Tryz.func132 h0 (n := 14) rfl (by simp) <| C_seq <| R_nd <| nq (Q_assign rfl) rfl rfl <| WL_nil <| x_then <| C_seq <| C_seq <| R_nd <| nq (Q_move rfl) rfl rfl <| nq (Q_eql rfl rfl) rfl rfl <| WL_nil <| x_then ?_
 refine C_cond rfl (fun hb => ?_) (fun hb => ?_)
 ·replace hF := itT hb hF
  refine C_seq <| R_nd <| nq (Q_assign rfl) rfl rfl <| WL_nil <| x_then <| C_ret <| x_then_ret ?_
  obtain rfl := Option.some.inj hF
  exact fn_ret (l := [.tmp 2]) (vs := [.int .i64 64]) rfl rfl rfl ⟨64, rfl, rfl, H⟩
 ·replace hF := itF hb hF
  refine C_skip <| x_then <| C_seq <| R_nd <| nq (Q_move rfl) rfl rfl <| nq (Q_move rfl) rfl rfl <| nq (v := .int .u64 (IntKind.wrap .u64 (0 - x1))) (Q_neg rfl) rfl rfl <| nq (Q_and rfl rfl) rfl rfl <| nq (Q_mul rfl rfl) rfl rfl <| nq (Q_shr rfl rfl (by decide)) rfl rfl ?_
  obtain ⟨x5, hx5, hF⟩ := bnd hF
  have hn6 := idx_lt (N := 64) (xs := tab_math_bits_deBruijn64tab) rfl hx5
  refine nq (Q_idxA hn6.1 hn6.2 Tryz.underlying260 ty5 rfl rfl) rfl rfl <| nq (v := .int .u8 x5) (Q_ld ((GTab.at gl18 hx5).up H.ok.view) ty5 rfl (fun _ => rfl) rfl rfl) rfl rfl <| nq (Q_cvI ⟨_, Tryz.underlying5⟩ Tryz.underlying3 rfl) rfl rfl <| nq (Q_assign rfl) rfl rfl <| WL_nil <| x_then <| C_ret ?_
  obtain rfl := Option.some.inj hF
  exact fn_ret (l := [.tmp 2]) (vs := [.int .i64 (IntKind.wrap .i64 x5)]) rfl rfl rfl ⟨IntKind.wrap .i64 x5, rfl, rfl, H⟩
theorem c_134 {N : Nat} {C : Cx} {w : World} {ρ : View} {hs : List Hl} {gV : Nat → Value} {x1 : Int} {x2 : Int} {x3 : Int} {x4 : Int} (H : Hp C w ρ (hs)) (_gle : GErrs ρ 394 errIds gV) {r : (Int × Int × Int × Int)} (hF : F_sets_Set_Not N x1 x2 x3 x4 = some r) :
  Calls Tryz.prog 134 [.agg #[.int .u64 x1, .int .u64 x2, .int .u64 x3, .int .u64 x4]].toArray w (Rets (fun v w' => (∃ (x100 : Int) (x101 : Int) (x102 : Int) (x103 : Int), (x100, x101, x102, x103) = r ∧ .agg #[.int .u64 x100, .int .u64 x101, .int .u64 x102, .int .u64 x103] = v ∧ Hp C w' ρ (hs)))) := by
 unfold F_sets_Set_Not at hF
 have h0 : Tryz.f134.body = some _ := rfl
 refine fn_calls' Tryz.func134 h0 (n := 15) rfl (by simp) <| C_seq <| R_nd <| ne (E_box H (vs := [.int .u64 x1, .int .u64 x2, .int .u64 x3, .int .u64 x4]) rfl rfl) rfl rfl ?_
 rintro _ wd105 ⟨b104, rfl, H⟩
 refine ne (E_alloc H ty39 (zs := [.int .u64 0, .int .u64 0, .int .u64 0, .int .u64 0]) rfl) rfl rfl ?_
 rintro _ wd107 ⟨b106, rfl, H⟩
 refine WL_nil <| x_then <| C_seq <| C_seq <| R_nd <| nq (Q_move rfl) rfl rfl <| WL_nil <| x_then ?_
 obtain ⟨o154, ho154, hF⟩ := bnd hF
 refine C_cutQ (fun a w' => ∃ (x150 : Int) (x151 : Int) (x152 : Int) (x153 : Int), (x150, x151, x152, x153) = o154 ∧ Fr 15 a [(1, .pointer (some ⟨b104, 0, none⟩)), (2, .pointer (some ⟨b106, 0, none⟩))] ∧ Hp C w' ρ (Box b104 [.int .u64 x150, .int .u64 x151, .int .u64 x152, .int .u64 x153] :: Box b106 [.int .u64 0, .int .u64 0, .int .u64 0, .int .u64 0] :: hs)) ?_ ?_
 ·refine C_block ?_
  replace H := H.f1
  refine C_iter (f := fun s => F_sets_Set_Not_l0 N s.1 s.2.1 s.2.2.1 s.2.2.2.1 s.2.2.2.2) ho154 (fun s a w' => ∃ (x171 : Int) (x172 : Int) (x173 : Int) (x174 : Int) (x175 : Int), (x171, x172, x173, x174, x175) = s ∧ Fr 15 a [(1, .pointer (some ⟨b104, 0, none⟩)), (2, .pointer (some ⟨b106, 0, none⟩)), (4, .int .i64 x175)] ∧ Hp C w' ρ (Box b104 [.int .u64 x171, .int .u64 x172, .int .u64 x173, .int .u64 x174] :: Box b106 [.int .u64 0, .int .u64 0, .int .u64 0, .int .u64 0] :: hs)) ?_ ?_
  ·exact fun a hf => ⟨x1, x2, x3, x4, 0, rfl, hf.sub ⟨rfl, rfl, rfl, trivial⟩, H⟩
  ·rintro s o187 a wd190 ⟨x171, x172, x173, x174, x175, rfl, hf, H⟩ hB188 hO189
   replace hB188 : F_sets_Set_Not_l0 N x171 x172 x173 x174 x175 = some o187 := hB188
   unfold F_sets_Set_Not_l0 at hB188
   refine CW.at hf <| C_seq <| R_nd <| nq (Q_lss rfl rfl) rfl rfl <| WL_nil <| x_then <| C_seq ?_
   refine C_cond rfl (fun hb => ?_) (fun hb => ?_)
   ·replace hB188 := itT hb hB188
    refine C_skip <| x_then <| C_seq <| C_block <| C_seq <| R_nd <| nq (Q_move rfl) rfl rfl <| nq (Q_assign rfl) rfl rfl <| WL_nil <| x_then <| R_nd <| nq (Q_move rfl) rfl rfl <| nq (Q_move rfl) rfl rfl ?_
    obtain ⟨x191, hx191, hB188⟩ := bnd hB188
    have hn192 := idx_lt (N := 4) (xs := [x171, x172, x173, x174]) rfl hx191
    refine nq (v := .pointer (some ⟨b104, 0 + x175.toNat * 1, none⟩)) (Q_idxA hn192.1 hn192.2 Tryz.underlying39 ty37 rfl rfl) rfl rfl <| nq (v := .int .u64 x191) (Q_ldX (j := 0) (o := 0) (k := .u64) (xs := [x171, x172, x173, x174]) H.ok rfl ty37 rfl rfl hx191) rfl rfl <| nq (v := .int .u64 (inv .u64 x191)) (Q_inv rfl) rfl rfl ?_
    obtain ⟨x193, hx193, hB188⟩ := bnd hB188
    have hn194 := idx_lt (N := 4) (xs := [x171, x172, x173, x174]) rfl hx193
    refine nq (v := .pointer (some ⟨b104, 0 + x175.toNat * 1, none⟩)) (Q_idxA hn194.1 hn194.2 Tryz.underlying39 ty37 rfl rfl) rfl rfl ?_
    obtain ⟨x195, hx195, hB188⟩ := bnd hB188
    refine ne (E_stX (j := 0) (o := 0) (N := 4) (k := .u64) (xs := [x171, x172, x173, x174]) (vs' := [.int .u64 (x195.getD 0 0), .int .u64 (x195.getD 1 0), .int .u64 (x195.getD 2 0), .int .u64 (x195.getD 3 0)]) H rfl ty37 rfl rfl rfl rfl hx195 (by simp) rfl) rfl rfl ?_
    rintro _ wd196 H
    dsimp only [List.set] at H
    refine WL_nil <| x_block <| x_then <| R_nd <| nq (Q_add rfl rfl) rfl rfl <| nq (Q_move rfl) rfl rfl <| WL_nil ?_
    replace H := H.f1
    replace H := H.f1
    obtain rfl := Option.some.inj hB188
    refine x_A fun a hf => ⟨_, rfl, x195.getD 0 0, x195.getD 1 0, x195.getD 2 0, x195.getD 3 0, w64 (x175 + 1), rfl, hf.sub ⟨rfl, rfl, rfl, trivial⟩, H⟩
   ·replace hB188 := itF hb hB188
    refine C_exit <| x_then_exit <| x_then_exit <| x_block_exit ?_
    replace H := H.f1
    replace H := H.f1
    obtain rfl := Option.some.inj hB188
    obtain rfl := hO189 _ rfl
    refine x_A fun a hf => ⟨x171, x172, x173, x174, rfl, hf.sub ⟨rfl, rfl, trivial⟩, H⟩
 ·rintro a wd197 ⟨x150, x151, x152, x153, rfl, hf, H⟩
  try dsimp only at hF
  refine XX.at hf <| x_then <| C_seq <| R_nd <| nq (v := .agg #[.int .u64 x150, .int .u64 x151, .int .u64 x152, .int .u64 x153]) (Q_ldB (k := 0) (cs := [.int .u64 x150, .int .u64 x151, .int .u64 x152, .int .u64 x153]) H.ok rfl ty39 rfl rfl rfl (fun h => nomatch h) rfl) rfl rfl <| ne (E_stB (k := 1) (cs := [.int .u64 x150, .int .u64 x151, .int .u64 x152, .int .u64 x153]) (vs' := [.int .u64 x150, .int .u64 x151, .int .u64 x152, .int .u64 x153]) H rfl ty39 rfl rfl rfl rfl (one_cons rfl (one_cons rfl (one_cons rfl (one_cons rfl one_nil)))) (by simp) rfl) rfl rfl ?_
  rintro _ wd198 H
  dsimp only [List.set] at H
  refine WL_nil <| x_then <| C_ret ?_
  have hRV : RV Tryz.prog wd198 [(2, .pointer (some ⟨b106, 0, none⟩))] [.cell 2 39] [.agg #[.int .u64 x150, .int .u64 x151, .int .u64 x152, .int .u64 x153]] := ⟨⟨_, rfl, run_ldv ty39 rfl (fun h => nomatch h) (box_at (H.ok.get (k := 1) rfl) 0 4)⟩, trivial⟩
  replace H := H.drop 0 rfl
  dsimp only [List.eraseIdx] at H
  replace H := H.drop 0 rfl
  dsimp only [List.eraseIdx] at H
  obtain rfl := Option.some.inj hF
  exact fn_retV (rs := [.cell 2 39]) (vs := [.agg #[.int .u64 x150, .int .u64 x151, .int .u64 x152, .int .u64 x153]]) rfl hRV ⟨x150, x151, x152, x153, rfl, rfl, H⟩
theorem c_88 {N : Nat} {C : Cx} {w : World} {ρ : View} {hs : List Hl} {gV : Nat → Value} (H : Hp C w ρ (hs)) (gle : GErrs ρ 394 errIds gV) {r : (Int × Int × Int × Int)} (hF : F_sets_All N = some r) :
  Calls Tryz.prog 88 [].toArray w (Rets (fun v w' => (∃ (x11 : Int) (x12 : Int) (x13 : Int) (x14 : Int), (x11, x12, x13, x14) = r ∧ .agg #[.int .u64 x11, .int .u64 x12, .int .u64 x13, .int .u64 x14] = v ∧ Hp C w' ρ (hs)))) := by
 unfold F_sets_All at hF
 have h0 : Tryz.f88.body = some _ := rfl
 refine fn_calls' Tryz.func88 h0 (n := 3) rfl (by simp) <| C_seq <| R_nd <| ne (E_alloc H ty39 (zs := [.int .u64 0, .int .u64 0, .int .u64 0, .int .u64 0]) rfl) rfl rfl ?_
 rintro _ wd16 ⟨b15, rfl, H⟩
 refine WL_nil <| x_then <| C_seq <| R_nd <| nq (v := .agg #[.int .u64 0, .int .u64 0, .int .u64 0, .int .u64 0]) (Q_build0 (zs := [.int .u64 0, .int .u64 0, .int .u64 0, .int .u64 0]) ty39 Tryz.underlying39 ty37 rfl) rfl rfl ?_
 obtain ⟨q17, hq17, hF⟩ := bnd hF
 refine ne (E_call fn134 rfl (c_134 H gle   hq17)) rfl rfl ?_
 rintro _ wd23 ⟨x19, x20, x21, x22, rfl, rfl, H⟩
 try dsimp only at hF
 refine ne (E_stB (k := 0) (cs := [.int .u64 x19, .int .u64 x20, .int .u64 x21, .int .u64 x22]) (vs' := [.int .u64 x19, .int .u64 x20, .int .u64 x21, .int .u64 x22]) H rfl ty39 rfl rfl rfl rfl (one_cons rfl (one_cons rfl (one_cons rfl (one_cons rfl one_nil)))) (by simp) rfl) rfl rfl ?_
 rintro _ wd24 H
 dsimp only [List.set] at H
 refine WL_nil <| x_then <| C_ret ?_
 have hRV : RV Tryz.prog wd24 [(0, .pointer (some ⟨b15, 0, none⟩))] [.cell 0 39] [.agg #[.int .u64 x19, .int .u64 x20, .int .u64 x21, .int .u64 x22]] := ⟨⟨_, rfl, run_ldv ty39 rfl (fun h => nomatch h) (box_at (H.ok.get (k := 0) rfl) 0 4)⟩, trivial⟩
 replace H := H.drop 0 rfl
 dsimp only [List.eraseIdx] at H
 obtain rfl := Option.some.inj hF
 exact fn_retV (rs := [.cell 0 39]) (vs := [.agg #[.int .u64 x19, .int .u64 x20, .int .u64 x21, .int .u64 x22]]) rfl hRV ⟨x19, x20, x21, x22, rfl, rfl, H⟩
theorem c_89 {N : Nat} {C : Cx} {w : World} {ρ : View} {hs : List Hl} {gV : Nat → Value} {x1 : Int} {x2 : Int} {x3 : Int} {x4 : Int} {x5 : Int} {x6 : Int} {x7 : Int} {x8 : Int} (H : Hp C w ρ (hs)) (_gle : GErrs ρ 394 errIds gV) {r : (Int × Int × Int × Int)} (hF : F_sets_Set_And N x1 x2 x3 x4 x5 x6 x7 x8 = some r) :
  Calls Tryz.prog 89 [.agg #[.int .u64 x1, .int .u64 x2, .int .u64 x3, .int .u64 x4], .agg #[.int .u64 x5, .int .u64 x6, .int .u64 x7, .int .u64 x8]].toArray w (Rets (fun v w' => (∃ (x209 : Int) (x210 : Int) (x211 : Int) (x212 : Int), (x209, x210, x211, x212) = r ∧ .agg #[.int .u64 x209, .int .u64 x210, .int .u64 x211, .int .u64 x212] = v ∧ Hp C w' ρ (hs)))) := by
 unfold F_sets_Set_And at hF
 have h0 : Tryz.f89.body = some _ := rfl
 refine fn_calls' Tryz.func89 h0 (n := 19) rfl (by simp) <| C_seq <| R_nd <| ne (E_box H (vs := [.int .u64 x1, .int .u64 x2, .int .u64 x3, .int .u64 x4]) rfl rfl) rfl rfl ?_
 rintro _ wd214 ⟨b213, rfl, H⟩
 refine ne (E_box H (vs := [.int .u64 x5, .int .u64 x6, .int .u64 x7, .int .u64 x8]) rfl rfl) rfl rfl ?_
 rintro _ wd216 ⟨b215, rfl, H⟩
 refine ne (E_alloc H ty39 (zs := [.int .u64 0, .int .u64 0, .int .u64 0, .int .u64 0]) rfl) rfl rfl ?_
 rintro _ wd218 ⟨b217, rfl, H⟩
 refine WL_nil <| x_then <| C_seq <| C_seq <| R_nd <| nq (Q_move rfl) rfl rfl <| WL_nil <| x_then ?_
 obtain ⟨o316, ho316, hF⟩ := bnd hF
 refine C_cutQ (fun a w' => ∃ (x312 : Int) (x313 : Int) (x314 : Int) (x315 : Int), (x312, x313, x314, x315) = o316 ∧ Fr 19 a [(2, .pointer (some ⟨b213, 0, none⟩)), (4, .pointer (some ⟨b217, 0, none⟩))] ∧ Hp C w' ρ (Box b213 [.int .u64 x312, .int .u64 x313, .int .u64 x314, .int .u64 x315] :: Box b217 [.int .u64 0, .int .u64 0, .int .u64 0, .int .u64 0] :: hs)) ?_ ?_
 ·refine C_block ?_
  replace H := H.f1
  replace H := H.f2
  refine C_iter (f := fun s => F_sets_Set_And_l0 N x5 x6 x7 x8 s.1 s.2.1 s.2.2.1 s.2.2.2.1 s.2.2.2.2) ho316 (fun s a w' => ∃ (x352 : Int) (x353 : Int) (x354 : Int) (x355 : Int) (x356 : Int), (x352, x353, x354, x355, x356) = s ∧ Fr 19 a [(2, .pointer (some ⟨b213, 0, none⟩)), (3, .pointer (some ⟨b215, 0, none⟩)), (4, .pointer (some ⟨b217, 0, none⟩)), (6, .int .i64 x356)] ∧ Hp C w' ρ (Box b213 [.int .u64 x352, .int .u64 x353, .int .u64 x354, .int .u64 x355] :: Box b215 [.int .u64 x5, .int .u64 x6, .int .u64 x7, .int .u64 x8] :: Box b217 [.int .u64 0, .int .u64 0, .int .u64 0, .int .u64 0] :: hs)) ?_ ?_
  ·exact fun a hf => ⟨x1, x2, x3, x4, 0, rfl, hf.sub ⟨rfl, rfl, rfl, rfl, trivial⟩, H⟩
  ·rintro s o384 a wd387 ⟨x352, x353, x354, x355, x356, rfl, hf, H⟩ hB385 hO386
   replace hB385 : F_sets_Set_And_l0 N x5 x6 x7 x8 x352 x353 x354 x355 x356 = some o384 := hB385
   unfold F_sets_Set_And_l0 at hB385
   refine CW.at hf <| C_seq <| R_nd <| nq (Q_lss rfl rfl) rfl rfl <| WL_nil <| x_then <| C_seq ?_
   refine C_cond rfl (fun hb => ?_) (fun hb => ?_)
   ·replace hB385 := itT hb hB385
    refine C_skip <| x_then <| C_seq <| C_block <| C_seq <| R_nd <| nq (Q_move rfl) rfl rfl <| nq (Q_assign rfl) rfl rfl <| WL_nil <| x_then ?_
    obtain ⟨o400, ho400, hB385⟩ := bnd hB385
    refine C_cutQ (fun a w' => ∃ (x396 : Int) (x397 : Int) (x398 : Int) (x399 : Int), (x396, x397, x398, x399) = o400 ∧ Fr 19 a [(2, .pointer (some ⟨b213, 0, none⟩)), (3, .pointer (some ⟨b215, 0, none⟩)), (4, .pointer (some ⟨b217, 0, none⟩)), (6, .int .i64 x356)] ∧ Hp C w' ρ (Box b213 [.int .u64 x396, .int .u64 x397, .int .u64 x398, .int .u64 x399] :: Box b215 [.int .u64 x5, .int .u64 x6, .int .u64 x7, .int .u64 x8] :: Box b217 [.int .u64 0, .int .u64 0, .int .u64 0, .int .u64 0] :: hs)) ?_ ?_
    ·refine R_dr (.take 0 (.take 1 (.take 3 (.take 4 (.take 5 (.one 2 (.take 6 (.take 7 (.one 8 .done))))))))) (fun w' => Ok w' ρ [Box b215 [.int .u64 x5, .int .u64 x6, .int .u64 x7, .int .u64 x8], Box b217 [.int .u64 0, .int .u64 0, .int .u64 0, .int .u64 0]]) (by kernel_rfl) (by kernel_rfl) (by kernel_rfl) (H.drew.okS (by simp)) ?_
     replace H := H.drew
     refine dq rfl (fun _ _ => Q_move rfl) rfl rfl ?_
     obtain ⟨x401, hx401, ho400⟩ := bnd ho400
     have hn402 := idx_lt (N := 4) (xs := [x352, x353, x354, x355]) rfl hx401
     refine dq (v := .pointer (some ⟨b213, 0 + x356.toNat * 1, none⟩)) rfl (fun _ _ => Q_idxA hn402.1 hn402.2 Tryz.underlying39 ty37 rfl rfl) rfl rfl <| dq rfl (fun _ _ => Q_move rfl) rfl rfl ?_
     obtain ⟨x403, hx403, ho400⟩ := bnd ho400
     have hn404 := idx_lt (N := 4) (xs := [x5, x6, x7, x8]) rfl hx403
     refine dq (v := .pointer (some ⟨b215, 0 + x356.toNat * 1, none⟩)) rfl (fun _ _ => Q_idxA hn404.1 hn404.2 Tryz.underlying39 ty37 rfl rfl) rfl rfl <| dq (v := .int .u64 x403) rfl (fun _ hw => Q_ldX (j := 0) (o := 0) (k := .u64) (xs := [x5, x6, x7, x8]) hw rfl ty37 rfl rfl hx403) rfl rfl ?_
     refine d1 (de rfl (Eff.quiet (v := .int .u64 x401) (Q_ldX (j := 0) (o := 0) (k := .u64) (xs := [x352, x353, x354, x355]) H.ok rfl ty37 rfl rfl hx401)) rfl rfl ?_)
     rintro _ _ ⟨rfl, rfl⟩
     refine ⟨H.okS (by simp), ?_⟩
     refine dq rfl (fun _ _ => Q_and rfl rfl) rfl rfl ?_
     obtain ⟨x405, hx405, ho400⟩ := bnd ho400
     have hn406 := idx_lt (N := 4) (xs := [x352, x353, x354, x355]) rfl hx405
     refine dq (v := .pointer (some ⟨b213, 0 + x356.toNat * 1, none⟩)) rfl (fun _ _ => Q_idxA hn406.1 hn406.2 Tryz.underlying39 ty37 rfl rfl) rfl rfl ?_
     obtain ⟨x407, hx407, ho400⟩ := bnd ho400
     refine d1 (de rfl (E_stX (j := 0) (o := 0) (N := 4) (k := .u64) (xs := [x352, x353, x354, x355]) (vs' := [.int .u64 (x407.getD 0 0), .int .u64 (x407.getD 1 0), .int .u64 (x407.getD 2 0), .int .u64 (x407.getD 3 0)]) H rfl ty37 rfl rfl rfl rfl hx407 (by simp) rfl) rfl rfl ?_)
     rintro _ wd408 H
     dsimp only [List.set] at H
     refine ⟨H.okS (by simp), ?_⟩
     refine DL_nil ?_
     replace H := H.f2
     replace H := H.f2
     replace H := H.f2
     obtain rfl := Option.some.inj ho400
     refine x_A fun a hf => ⟨x407.getD 0 0, x407.getD 1 0, x407.getD 2 0, x407.getD 3 0, rfl, hf.sub ⟨rfl, rfl, rfl, rfl, trivial⟩, H⟩
    ·rintro a wd409 ⟨x396, x397, x398, x399, rfl, hf, H⟩
     try dsimp only at hB385
     refine XX.at hf <| x_block <| x_then <| R_nd <| nq (Q_add rfl rfl) rfl rfl <| nq (Q_move rfl) rfl rfl <| WL_nil ?_
     replace H := H.f2
     replace H := H.f2
     replace H := H.f2
     obtain rfl := Option.some.inj hB385
     refine x_A fun a hf => ⟨_, rfl, x396, x397, x398, x399, w64 (x356 + 1), rfl, hf.sub ⟨rfl, rfl, rfl, rfl, trivial⟩, H⟩
   ·replace hB385 := itF hb hB385
    refine C_exit <| x_then_exit <| x_then_exit <| x_block_exit ?_
    replace H := H.f2
    replace H := H.f1
    replace H := H.drop 2 rfl
    dsimp only [List.eraseIdx] at H
    obtain rfl := Option.some.inj hB385
    obtain rfl := hO386 _ rfl
    refine x_A fun a hf => ⟨x352, x353, x354, x355, rfl, hf.sub ⟨rfl, rfl, trivial⟩, H⟩
 ·rintro a wd410 ⟨x312, x313, x314, x315, rfl, hf, H⟩
  try dsimp only at hF
  refine XX.at hf <| x_then <| C_seq <| R_nd <| nq (v := .agg #[.int .u64 x312, .int .u64 x313, .int .u64 x314, .int .u64 x315]) (Q_ldB (k := 0) (cs := [.int .u64 x312, .int .u64 x313, .int .u64 x314, .int .u64 x315]) H.ok rfl ty39 rfl rfl rfl (fun h => nomatch h) rfl) rfl rfl <| ne (E_stB (k := 1) (cs := [.int .u64 x312, .int .u64 x313, .int .u64 x314, .int .u64 x315]) (vs' := [.int .u64 x312, .int .u64 x313, .int .u64 x314, .int .u64 x315]) H rfl ty39 rfl rfl rfl rfl (one_cons rfl (one_cons rfl (one_cons rfl (one_cons rfl one_nil)))) (by simp) rfl) rfl rfl ?_
  rintro _ wd411 H
  dsimp only [List.set] at H
  refine WL_nil <| x_then <| C_ret ?_
  have hRV : RV Tryz.prog wd411 [(4, .pointer (some ⟨b217, 0, none⟩))] [.cell 4 39] [.agg #[.int .u64 x312, .int .u64 x313, .int .u64 x314, .int .u64 x315]] := ⟨⟨_, rfl, run_ldv ty39 rfl (fun h => nomatch h) (box_at (H.ok.get (k := 1) rfl) 0 4)⟩, trivial⟩
  replace H := H.drop 0 rfl
  dsimp only [List.eraseIdx] at H
  replace H := H.drop 0 rfl
  dsimp only [List.eraseIdx] at H
  obtain rfl := Option.some.inj hF
  exact fn_retV (rs := [.cell 4 39]) (vs := [.agg #[.int .u64 x312, .int .u64 x313, .int .u64 x314, .int .u64 x315]]) rfl hRV ⟨x312, x313, x314, x315, rfl, rfl, H⟩
theorem c_90 {N : Nat} {C : Cx} {w : World} {ρ : View} {hs : List Hl} {gV : Nat → Value} {x1 : Int} {x2 : Int} {x3 : Int} {x4 : Int} {x5 : Int} {x6 : Int} {x7 : Int} {x8 : Int} (H : Hp C w ρ (hs)) (gle : GErrs ρ 394 errIds gV) {r : (Int × Int × Int × Int)} (hF : F_sets_Set_Minus N x1 x2 x3 x4 x5 x6 x7 x8 = some r) :
  Calls Tryz.prog 90 [.agg #[.int .u64 x1, .int .u64 x2, .int .u64 x3, .int .u64 x4], .agg #[.int .u64 x5, .int .u64 x6, .int .u64 x7, .int .u64 x8]].toArray w (Rets (fun v w' => (∃ (x51 : Int) (x52 : Int) (x53 : Int) (x54 : Int), (x51, x52, x53, x54) = r ∧ .agg #[.int .u64 x51, .int .u64 x52, .int .u64 x53, .int .u64 x54] = v ∧ Hp C w' ρ (hs)))) := by
 unfold F_sets_Set_Minus at hF
 have h0 : Tryz.f90.body = some _ := rfl
 refine fn_calls' Tryz.func90 h0 (n := 9) rfl (by simp) <| C_seq <| R_nd <| ne (E_box H (vs := [.int .u64 x1, .int .u64 x2, .int .u64 x3, .int .u64 x4]) rfl rfl) rfl rfl ?_
 rintro _ wd56 ⟨b55, rfl, H⟩
 refine ne (E_box H (vs := [.int .u64 x5, .int .u64 x6, .int .u64 x7, .int .u64 x8]) rfl rfl) rfl rfl ?_
 rintro _ wd58 ⟨b57, rfl, H⟩
 refine ne (E_alloc H ty39 (zs := [.int .u64 0, .int .u64 0, .int .u64 0, .int .u64 0]) rfl) rfl rfl ?_
 rintro _ wd60 ⟨b59, rfl, H⟩
 refine WL_nil <| x_then ?_
 obtain ⟨o80, ho80, hF⟩ := bnd hF
 refine C_cut (fun a w' => ∃ (x76 : Int) (x77 : Int) (x78 : Int) (x79 : Int), (x76, x77, x78, x79) = o80 ∧ Fr 9 a [(4, .pointer (some ⟨b59, 0, none⟩))] ∧ Hp C w' ρ (Box b59 [.int .u64 x76, .int .u64 x77, .int .u64 x78, .int .u64 x79] :: hs)) ?_ ?_
 ·refine R_dr (.take 0 (.take 1 (.one 2 (.one 3 (.one 4 .done))))) (fun w' => Ok w' ρ [Box b57 [.int .u64 x5, .int .u64 x6, .int .u64 x7, .int .u64 x8], Box b55 [.int .u64 x1, .int .u64 x2, .int .u64 x3, .int .u64 x4]]) (by kernel_rfl) (by kernel_rfl) (by kernel_rfl) (H.drew.okS (by simp)) ?_
  replace H := H.drew
  refine dq (v := .agg #[.int .u64 x1, .int .u64 x2, .int .u64 x3, .int .u64 x4]) rfl (fun _ hw => Q_ldB (k := 1) (cs := [.int .u64 x1, .int .u64 x2, .int .u64 x3, .int .u64 x4]) hw rfl ty39 rfl rfl rfl (fun h => nomatch h) rfl) rfl rfl <| dq (v := .agg #[.int .u64 x5, .int .u64 x6, .int .u64 x7, .int .u64 x8]) rfl (fun _ hw => Q_ldB (k := 0) (cs := [.int .u64 x5, .int .u64 x6, .int .u64 x7, .int .u64 x8]) hw rfl ty39 rfl rfl rfl (fun h => nomatch h) rfl) rfl rfl ?_
  obtain ⟨q81, hq81, ho80⟩ := bnd ho80
  refine d1 (de rfl (E_call fn134 rfl (c_134 H gle   hq81)) rfl rfl ?_)
  rintro _ wd87 ⟨x83, x84, x85, x86, rfl, rfl, H⟩
  try dsimp only at ho80
  refine ⟨H.okS (by simp), ?_⟩
  obtain ⟨q88, hq88, ho80⟩ := bnd ho80
  refine d1 (de rfl (E_call fn89 rfl (c_89 H gle   hq88)) rfl rfl ?_)
  rintro _ wd94 ⟨x90, x91, x92, x93, rfl, rfl, H⟩
  try dsimp only at ho80
  refine ⟨H.okS (by simp), ?_⟩
  refine d1 (de rfl (E_stB (k := 0) (cs := [.int .u64 x90, .int .u64 x91, .int .u64 x92, .int .u64 x93]) (vs' := [.int .u64 x90, .int .u64 x91, .int .u64 x92, .int .u64 x93]) H rfl ty39 rfl rfl rfl rfl (one_cons rfl (one_cons rfl (one_cons rfl (one_cons rfl one_nil)))) (by simp) rfl) rfl rfl ?_)
  rintro _ wd95 H
  dsimp only [List.set] at H
  refine ⟨H.okS (by simp), ?_⟩
  refine DL_nil ?_
  replace H := H.drop 1 rfl
  dsimp only [List.eraseIdx] at H
  replace H := H.drop 1 rfl
  dsimp only [List.eraseIdx] at H
  obtain rfl := Option.some.inj ho80
  refine x_A fun a hf => ⟨x90, x91, x92, x93, rfl, hf.sub ⟨rfl, trivial⟩, H⟩
 ·rintro a wd96 ⟨x76, x77, x78, x79, rfl, hf, H⟩
  try dsimp only at hF
  refine CW.at hf <| C_ret ?_
  have hRV : RV Tryz.prog wd96 [(4, .pointer (some ⟨b59, 0, none⟩))] [.cell 4 39] [.agg #[.int .u64 x76, .int .u64 x77, .int .u64 x78, .int .u64 x79]] := ⟨⟨_, rfl, run_ldv ty39 rfl (fun h => nomatch h) (box_at (H.ok.get (k := 0) rfl) 0 4)⟩, trivial⟩
  replace H := H.drop 0 rfl
  dsimp only [List.eraseIdx] at H
  obtain rfl := Option.some.inj hF
  exact fn_retV (rs := [.cell 4 39]) (vs := [.agg #[.int .u64 x76, .int .u64 x77, .int .u64 x78, .int .u64 x79]]) rfl hRV ⟨x76, x77, x78, x79, rfl, rfl, H⟩
theorem c_169 {N : Nat} {C : Cx} {w : World} {ρ : View} {hs : List Hl} {gV : Nat → Value} {x1 : Int} {x2 : Int} {x3 : Int} {x4 : Int} (H : Hp C w ρ (hs)) (_gle : GErrs ρ 394 errIds gV) {r : Unit} (hF : F_sets_Set_all N x1 x2 x3 x4 = some r) :
  Calls Tryz.prog 169 [.agg #[.int .u64 x1, .int .u64 x2, .int .u64 x3, .int .u64 x4]].toArray w (Rets (fun v w' => (∃ (b7 : Nat), () = r ∧ .func (.func 197) #[] [.pointer (some ⟨b7, 0, none⟩)].toArray = v ∧ Hp C w' ρ (Box b7 [.int .u64 x1, .int .u64 x2, .int .u64 x3, .int .u64 x4] :: hs)))) := by
 unfold F_sets_Set_all at hF
 have h0 : Tryz.f169.body = some _ := rfl
 refine fn_calls' Tryz.func169 h0 (n := 4) rfl (by simp) <| C_seq <| R_nd <| ne (E_box H (vs := [.int .u64 x1, .int .u64 x2, .int .u64 x3, .int .u64 x4]) rfl rfl) rfl rfl ?_
 rintro _ wd9 ⟨b8, rfl, H⟩
 refine nq (Q_assign rfl) rfl rfl <| WL_nil <| x_then <| C_seq <| R_nd <| nq (v := .func (.func 197) #[] [.pointer (some ⟨b8, 0, none⟩)].toArray) (Q_func rfl) rfl rfl <| nq (Q_assign rfl) rfl rfl <| WL_nil <| x_then <| C_ret ?_
 obtain rfl := Option.some.inj hF
 exact fn_ret (l := [.tmp 2]) (vs := [.func (.func 197) #[] [.pointer (some ⟨b8, 0, none⟩)].toArray]) rfl rfl rfl ⟨b8, rfl, rfl, H⟩
theorem c_197 {N : Nat} {C : Cx} {w : World} {ρ : View} {hs : List Hl} {gV : Nat → Value} {σ : Type} {I : View → σ → Hl → Prop} {l : Nat} {rec : Bool → σ → Loop} {A0 : Hl} {b1 : Nat} {Y : Int → σ → Option (σ × Bool)} {s0 : σ} {x2 : Int} {x3 : Int} {x4 : Int} {x5 : Int} (H : Hp C w ρ (Yd l (rec true s0) A0 :: Box b1 [.int .u64 x2, .int .u64 x3, .int .u64 x4, .int .u64 x5] :: hs)) (gle : GErrs ρ 394 errIds gV) (gl18 : GTab ρ 18 .u8 tab_math_bits_deBruijn64tab) (hY : YC Tryz.prog l rec I (fun _ x args => args = #[.int .i64 x]) Y ρ) (hI0 : I ρ s0 A0) (_hImono : ∀ {ρ1 ρ2 : View} {s : σ} {A : Hl}, View.le ρ1 ρ2 → I ρ1 s A → I ρ2 s A) {r : (σ × Bool)} (hF : F_sets_Set_all_1 N Y s0 x2 x3 x4 x5 = some r) :
  Calls Tryz.prog 197 [.func (.yield l) #[] #[], .pointer (some ⟨b1, 0, none⟩)].toArray w (Rets (fun v w' => (∃ (ρ' : View) (A614 : Hl) (x615 : σ) (x616 : Bool), (x615, x616) = r ∧ .tuple [].toArray = v ∧ View.le ρ ρ' ∧ I ρ' x615 A614 ∧ Hp C w' ρ' (Yd l (rec x616 x615) A614 :: hs)))) := by
 unfold F_sets_Set_all_1 at hF
 have h0 : Tryz.f197.body = some _ := rfl
 refine fn_calls' Tryz.func197 h0 (n := 25) rfl (by simp) <| C_seq <| R_nd <| nq (v := .agg #[.int .u64 x2, .int .u64 x3, .int .u64 x4, .int .u64 x5]) (Q_ldB (k := 1) (cs := [.int .u64 x2, .int .u64 x3, .int .u64 x4, .int .u64 x5]) H.ok rfl ty39 rfl rfl rfl (fun h => nomatch h) rfl) rfl rfl <| nq (Q_move rfl) rfl rfl <| WL_nil <| x_then ?_
 obtain ⟨o922, ho922, hF⟩ := bnd hF
 refine C_cutQ (fun a w' => ∃ (ρ' : View) (A919 : Hl) (x920 : σ), View.le ρ ρ' ∧ .inl x920 = o922 ∧ I ρ' x920 A919 ∧ Fr 25 a [] ∧ Hp C w' ρ' (Yd l (rec true x920) A919 :: Box b1 [.int .u64 x2, .int .u64 x3, .int .u64 x4, .int .u64 x5] :: hs)) ?_ ?_
 ·refine C_block ?_
  replace H := H.f1
  replace H := H.f1
  refine C_iter (f := fun s => F_sets_Set_all_1_l0 N Y x2 x3 x4 x5 s.1 s.2) ho922 (fun s a w' => ∃ (ρ' : View) (A1021 : Hl) (x1022 : σ) (x1024 : Int), View.le ρ ρ' ∧ (x1022, x1024) = s ∧ I ρ' x1022 A1021 ∧ Fr 25 a [(0, .func (.yield l) #[] #[]), (5, .agg #[.int .u64 x2, .int .u64 x3, .int .u64 x4, .int .u64 x5]), (6, .int .i64 x1024)] ∧ Hp C w' ρ' (Yd l (rec true x1022) A1021 :: Box b1 [.int .u64 x2, .int .u64 x3, .int .u64 x4, .int .u64 x5] :: hs)) ?_ ?_
  ·exact fun a hf => ⟨ρ, A0, s0, 0, (View.le_refl _), rfl, hI0, hf.sub ⟨rfl, rfl, rfl, trivial⟩, H⟩
  ·rintro s o1124 a wd1127 ⟨ρ, A1021, x1022, x1024, lw1128, rfl, hI1023, hf, H⟩ hB1125 hO1126
   replace hB1125 : F_sets_Set_all_1_l0 N Y x2 x3 x4 x5 x1022 x1024 = some o1124 := hB1125
   unfold F_sets_Set_all_1_l0 at hB1125
   refine CW.at hf ?_
   replace gle := GErrs.up lw1128 gle
   replace gl18 := GTab.up lw1128 gl18
   refine C_seq <| R_nd <| nq (Q_lss rfl rfl) rfl rfl <| WL_nil <| x_then <| C_seq ?_
   refine C_cond rfl (fun hb => ?_) (fun hb => ?_)
   ·replace hB1125 := itT hb hB1125
    refine C_skip <| x_then <| C_seq <| C_block <| C_seq <| R_nd <| nq (Q_move rfl) rfl rfl ?_
    obtain ⟨x1129, hx1129, hB1125⟩ := bnd hB1125
    refine nq (v := .int .u64 x1129) (Q_ixI (xs := [x2, x3, x4, x5]) (rdL_ints .u64 ρ [x2, x3, x4, x5]) rfl hx1129 Tryz.underlying39 rfl rfl ty37 rfl) rfl rfl <| nq (Q_assign rfl) rfl rfl <| nq (Q_assign rfl) rfl rfl <| WL_nil <| x_then ?_
    obtain ⟨o1177, ho1177, hB1125⟩ := bnd hB1125
    refine C_cutQ (fun a w' => ∃ (ρ' : View) (A1174 : Hl) (x1175 : σ), View.le ρ ρ' ∧ .inl x1175 = o1177 ∧ I ρ' x1175 A1174 ∧ Fr 25 a [(0, .func (.yield l) #[] #[]), (5, .agg #[.int .u64 x2, .int .u64 x3, .int .u64 x4, .int .u64 x5]), (6, .int .i64 x1024)] ∧ Hp C w' ρ' (Yd l (rec true x1175) A1174 :: Box b1 [.int .u64 x2, .int .u64 x3, .int .u64 x4, .int .u64 x5] :: hs)) ?_ ?_
    ·refine C_block ?_
     replace H := H.f1
     replace H := H.f1
     refine C_iter (f := fun s => F_sets_Set_all_1_l1 N Y x1024 s.1 s.2) ho1177 (fun s a w' => ∃ (ρ' : View) (A1191 : Hl) (x1192 : σ) (x1194 : Int), View.le ρ ρ' ∧ (x1192, x1194) = s ∧ I ρ' x1192 A1191 ∧ Fr 25 a [(0, .func (.yield l) #[] #[]), (3, .int .i64 x1024), (4, .int .u64 x1194), (5, .agg #[.int .u64 x2, .int .u64 x3, .int .u64 x4, .int .u64 x5]), (6, .int .i64 x1024)] ∧ Hp C w' ρ' (Yd l (rec true x1192) A1191 :: Box b1 [.int .u64 x2, .int .u64 x3, .int .u64 x4, .int .u64 x5] :: hs)) ?_ ?_
     ·exact fun a hf => ⟨ρ, A1021, x1022, x1129, (View.le_refl _), rfl, hI1023, hf.sub ⟨rfl, rfl, rfl, rfl, rfl, trivial⟩, H⟩
     ·rintro s o1208 a wd1211 ⟨ρ, A1191, x1192, x1194, lw1212, rfl, hI1193, hf, H⟩ hB1209 hO1210
      replace hB1209 : F_sets_Set_all_1_l1 N Y x1024 x1192 x1194 = some o1208 := hB1209
      unfold F_sets_Set_all_1_l1 at hB1209
      refine CW.at hf ?_
      replace gle := GErrs.up lw1212 gle
      replace gl18 := GTab.up lw1212 gl18
      refine C_seq <| C_seq <| R_nd <| nq (Q_move rfl) rfl rfl <| nq (Q_neq rfl rfl) rfl rfl <| WL_nil <| x_then ?_
      refine C_cond rfl (fun hb => ?_) (fun hb => ?_)
      ·replace hB1209 := itT hb hB1209
       refine C_skip <| x_then <| C_seq <| C_block <| C_seq <| R_nd <| nq (Q_move rfl) rfl rfl <| nq (Q_move rfl) rfl rfl <| nq (Q_mul rfl rfl) rfl rfl <| nq (Q_move rfl) rfl rfl ?_
       obtain ⟨q1213, hq1213, hB1209⟩ := bnd hB1209
       refine ne (E_call fn132 rfl (c_132 H gle gl18  hq1213)) rfl rfl ?_
       rintro _ wd1216 ⟨x1215, rfl, rfl, H⟩
       try dsimp only at hB1209
       refine nq (Q_add rfl rfl) rfl rfl ?_
       obtain ⟨q1217, hq1217, hB1209⟩ := bnd hB1209
       refine neI (E_yield (x := (w64 ((w64 (64 * x1024)) + x1215))) (vs := [.int .i64 (w64 ((w64 (64 * x1024)) + x1215))]) hY (View.le_trans lw1128 lw1212) hI1193 H rfl hq1217 rfl rfl) rfl rfl ?_
       rintro _ wd1218 ⟨rfl, ρ, A1219, lw1220, hI1221, H⟩
       replace gle := GErrs.up lw1220 gle
       replace gl18 := GTab.up lw1220 gl18
       refine nq (Q_not rfl) rfl rfl <| WL_nil <| x_then ?_
       refine C_cond rfl (fun hb => ?_) (fun hb => ?_)
       ·replace hB1209 := itT hb hB1209
        replace hb : q1217.2 = false := bnT hb
        rw [hb] at H
        refine C_ret <| x_block_ret <| x_then_ret <| x_then_ret <| x_block_ret <| x_then_ret <| x_block_ret <| x_then_ret <| x_then_ret <| x_block_ret <| x_then_ret ?_
        replace H := H.drop 1 rfl
        dsimp only [List.eraseIdx] at H
        obtain rfl := Option.some.inj hB1209
        obtain rfl := hO1210 _ rfl
        obtain rfl := Option.some.inj (show some _ = some _ from hB1125)
        obtain rfl := hO1126 _ rfl
        obtain rfl := Option.some.inj (show some _ = some _ from hF)
        exact fn_ret (l := []) (vs := []) rfl rfl rfl ⟨ρ, A1219, q1217.1, false, rfl, rfl, (View.le_trans lw1128 (View.le_trans lw1212 lw1220)), hI1221, H⟩
       ·replace hB1209 := itF hb hB1209
        replace hb : q1217.2 = true := bnF hb
        rw [hb] at H
        refine C_skip <| x_block <| x_then <| R_nd <| nq (Q_move rfl) rfl rfl <| nq (Q_move rfl) rfl rfl <| nq (Q_sub rfl rfl) rfl rfl <| nq (Q_and rfl rfl) rfl rfl <| nq (Q_assign rfl) rfl rfl <| WL_nil ?_
        replace H := H.f1
        replace H := H.f1
        obtain rfl := Option.some.inj hB1209
        refine x_A fun a hf => ⟨_, rfl, ρ, A1219, q1217.1, iand .u64 x1194 (IntKind.wrap .u64 (x1194 - 1)), (View.le_trans lw1212 lw1220), rfl, hI1221, hf.sub ⟨rfl, rfl, rfl, rfl, rfl, trivial⟩, H⟩
      ·replace hB1209 := itF hb hB1209
       refine C_exit <| x_then_exit <| x_then_exit <| x_block_exit ?_
       replace H := H.f1
       replace H := H.f1
       obtain rfl := Option.some.inj hB1209
       obtain rfl := hO1210 _ rfl
       refine x_A fun a hf => ⟨ρ, A1191, x1192, lw1212, rfl, hI1193, hf.sub ⟨rfl, rfl, rfl, trivial⟩, H⟩
    ·rintro a wd1222 ⟨ρ, A1174, x1175, lw1223, rfl, hI1176, hf, H⟩
     try dsimp only at hB1125
     replace gle := GErrs.up lw1223 gle
     replace gl18 := GTab.up lw1223 gl18
     refine XX.at hf <| x_block <| x_then <| R_nd <| nq (Q_add rfl rfl) rfl rfl <| nq (Q_move rfl) rfl rfl <| WL_nil ?_
     replace H := H.f1
     replace H := H.f1
     obtain rfl := Option.some.inj hB1125
     refine x_A fun a hf => ⟨_, rfl, ρ, A1174, x1175, w64 (x1024 + 1), (View.le_trans lw1128 lw1223), rfl, hI1176, hf.sub ⟨rfl, rfl, rfl, trivial⟩, H⟩
   ·replace hB1125 := itF hb hB1125
    refine C_exit <| x_then_exit <| x_then_exit <| x_block_exit ?_
    replace H := H.f1
    replace H := H.f1
    obtain rfl := Option.some.inj hB1125
    obtain rfl := hO1126 _ rfl
    refine x_A fun a hf => ⟨ρ, A1021, x1022, lw1128, rfl, hI1023, hf.sub trivial, H⟩
 ·rintro a wd1224 ⟨ρ, A919, x920, lw1225, rfl, hI921, hf, H⟩
  try dsimp only at hF
  replace gle := GErrs.up lw1225 gle
  replace gl18 := GTab.up lw1225 gl18
  refine XX.at hf ?_
  replace H := H.drop 1 rfl
  dsimp only [List.eraseIdx] at H
  obtain rfl := Option.some.inj hF
  exact fn_end (l := []) (vs := []) rfl rfl rfl ⟨ρ, A919, x920, true, rfl, rfl, lw1225, hI921, H⟩
theorem c_138 {N : Nat} {C : Cx} {w : World} {ρ : View} {hs : List Hl} {gV : Nat → Value} {x1 : Int} {x2 : Int} {x3 : Int} {x4 : Int} {x5 : Int} (H : Hp C w ρ (hs)) (gle : GErrs ρ 394 errIds gV) (gl18 : GTab ρ 18 .u8 tab_math_bits_deBruijn64tab) {r : Int} (hF : F_sets_Set_Nth N x1 x2 x3 x4 x5 = some r) :
  Calls Tryz.prog 138 [.agg #[.int .u64 x1, .int .u64 x2, .int .u64 x3, .int .u64 x4], .int .i64 x5].toArray w (Rets (fun v w' => (∃ (ρ' : View) (x41 : Int), x41 = r ∧ .int .i64 x41 = v ∧ View.le ρ ρ' ∧ Hp C w' ρ' (hs)))) := by
 unfold F_sets_Set_Nth at hF
 have h0 : Tryz.f138.body = some _ := rfl
 refine fn_callsM Tryz.func138 h0 (n := 20) rfl (by simp) <| C_seq <| R_nd <| ne (E_box H (vs := [.int .u64 x1, .int .u64 x2, .int .u64 x3, .int .u64 x4]) rfl rfl) rfl rfl ?_
 rintro _ wd43 ⟨b42, rfl, H⟩
 refine ne (E_box H (vs := [.int .i64 x5]) rfl rfl) rfl rfl ?_
 rintro _ wd45 ⟨b44, rfl, H⟩
 refine ne (E_alloc H ty3 (zs := [.int .i64 0]) rfl) rfl rfl ?_
 rintro _ wd47 ⟨b46, rfl, H⟩
 refine WL_nil <| x_then <| C_seq ?_
 obtain ⟨o49, ho49, hF⟩ := bnd hF
 refine C_cut (fun a w' => ∃ (x48 : Bool), x48 = o49 ∧ Fr 20 a [(2, .pointer (some ⟨b42, 0, none⟩)), (3, .pointer (some ⟨b44, 0, none⟩)), (4, .pointer (some ⟨b46, 0, none⟩)), (11, .bool x48)] ∧ Hp C w' ρ (Box b42 [.int .u64 x1, .int .u64 x2, .int .u64 x3, .int .u64 x4] :: Box b44 [.int .i64 x5] :: Box b46 [.int .i64 0] :: hs)) ?_ ?_
 ·refine R_nd <| nq (v := .int .i64 x5) (Q_ldB (k := 1) (cs := [.int .i64 x5]) H.ok rfl ty3 rfl rfl rfl (fun _ => rfl) rfl) rfl rfl <| nq (Q_lss rfl rfl) rfl rfl <| nq (Q_move rfl) rfl rfl ?_
  rcases Bool.eq_false_or_eq_true (decide (x5 < 0)) with hb | hb
  ·rw [hb]
   replace ho49 := itT hb ho49
   refine gs rfl rfl rfl rfl <| gs rfl rfl rfl rfl <| nq (Q_pickT rfl rfl) rfl rfl <| WL_nil ?_
   replace H := H.f1
   replace H := H.f2
   obtain rfl := Option.some.inj ho49
   refine x_A fun a hf => ⟨true, rfl, hf.sub ⟨rfl, rfl, rfl, rfl, trivial⟩, H⟩
  ·rw [hb]
   replace ho49 := itF hb ho49
   refine gq (v := .int .i64 x5) (Q_ldB (k := 1) (cs := [.int .i64 x5]) H.ok rfl ty3 rfl rfl rfl (fun _ => rfl) rfl) rfl rfl rfl <| gq (Q_geq rfl rfl) rfl rfl rfl <| nq (Q_pickF rfl rfl) rfl rfl <| WL_nil ?_
   replace H := H.f1
   replace H := H.f2
   obtain rfl := Option.some.inj ho49
   refine x_A fun a hf => ⟨decide (x5 ≥ 256), rfl, hf.sub ⟨rfl, rfl, rfl, rfl, trivial⟩, H⟩
 ·rintro a wd50 ⟨x48, rfl, hf, H⟩
  try dsimp only at hF
  refine CW.at hf ?_
  refine C_cond rfl (fun hb => ?_) (fun hb => ?_)
  ·replace hF := itT hb hF
   refine C_seq <| R_nd <| ne (E_stB (k := 2) (cs := [.int .i64 (-1)]) (vs' := [.int .i64 (-1)]) H rfl ty3 rfl rfl rfl rfl (one_cons rfl one_nil) (by simp) rfl) rfl rfl ?_
   rintro _ wd51 H
   dsimp only [List.set] at H
   refine WL_nil <| x_then <| C_ret <| x_then_ret ?_
   have hRV : RV Tryz.prog wd51 [(4, .pointer (some ⟨b46, 0, none⟩))] [.cell 4 3] [.int .i64 (-1)] := ⟨⟨_, rfl, run_ldv ty3 rfl (fun _ => rfl) (box_at (H.ok.get (k := 2) rfl) 0 1)⟩, trivial⟩
   replace H := H.drop 0 rfl
   dsimp only [List.eraseIdx] at H
   replace H := H.drop 0 rfl
   dsimp only [List.eraseIdx] at H
   replace H := H.drop 0 rfl
   dsimp only [List.eraseIdx] at H
   obtain rfl := Option.some.inj hF
   exact fn_retM (rs := [.cell 4 3]) (vs := [.int .i64 (-1)]) rfl hRV ⟨ρ, (-1), rfl, rfl, (View.le_refl _), H⟩
  ·replace hF := itF hb hF
   refine C_skip <| x_then <| C_seq <| C_seq <| R_nd <| nq (v := .agg #[.int .u64 x1, .int .u64 x2, .int .u64 x3, .int .u64 x4]) (Q_ldB (k := 0) (cs := [.int .u64 x1, .int .u64 x2, .int .u64 x3, .int .u64 x4]) H.ok rfl ty39 rfl rfl rfl (fun h => nomatch h) rfl) rfl rfl ?_
   obtain ⟨q52, hq52, hF⟩ := bnd hF
   refine ne (E_call fn169 rfl (c_169 H gle   hq52)) rfl rfl ?_
   rintro _ wd55 ⟨b54, rfl, rfl, H⟩
   try dsimp only at hF
   refine WL_nil <| x_then <| C_block ?_
   replace H := H.f3
   replace H := H.f3
   replace H := H.drop 3 rfl
   dsimp only [List.eraseIdx] at H
   obtain ⟨q65, hq65, hF⟩ := bnd hF
   obtain ⟨q651_, b66⟩ := q65
   refine C_range (σ := (Int ⊕ Int)) (α := Int) (s0 := (.inl x5)) (r := (q651_, b66)) (I := (IS (fun ρ (s : Int) A => ∃ (x60 : Int), x60 = s ∧ A = Star [Box b44 [.int .i64 x60], Box b46 [.int .i64 0]]) (fun ρ (s : Int) A => ∃ (x64 : Int), x64 = s ∧ A = Star [Box b46 [.int .i64 x64]]))) (R := (fun _ x args => args = #[.int .i64 x])) (Y := (YS (σ1 := Int) (σ2 := Int) (fun x s => F_sets_Set_Nth_r0 N x s))) [Box b54 [.int .u64 x1, .int .u64 x2, .int .u64 x3, .int .u64 x4]] (fun _ => .ret) rfl fn197 (Hp.star (L := [Box b44 [.int .i64 x5], Box b46 [.int .i64 0]]) H) (IS.l ⟨x5, rfl, rfl⟩) rfl ?_ ?_ ?_
   ·intro a_ hfa l fn_ D
    refine YC.of2 ?_
    intro C w ρ hs s A x56 args r67 hle hIx hA69 H hF68
    obtain ⟨x60, rfl, rfl⟩ := hIx
    obtain rfl := hA69
    replace gle := GErrs.up hle gle
    replace gl18 := GTab.up hle gl18
    replace hF68 : F_sets_Set_Nth_r0 N x56 x60 = some r67 := hF68
    unfold F_sets_Set_Nth_r0 at hF68
    refine yieldAt (n := 20) (E := ((14, .int .i64 x56) :: [(3, .pointer (some ⟨b44, 0, none⟩)), (4, .pointer (some ⟨b46, 0, none⟩))])) (ps := [14]) (vs := [.int .i64 x56]) H rfl rfl rfl rfl rfl rfl rfl ?_ (Fr.params (E := [(3, .pointer (some ⟨b44, 0, none⟩)), (4, .pointer (some ⟨b46, 0, none⟩))]) ⟨hfa.size, rfl, (hfa.sub (E' := [(3, .pointer (some ⟨b44, 0, none⟩)), (4, .pointer (some ⟨b46, 0, none⟩))]) ⟨rfl, rfl, trivial⟩).slots⟩ (by decide) rfl)
    obtain ⟨o, ho, H⟩ := H.ydOpen
    dsimp only [List.cons_append, List.nil_append] at H
    refine R_nd <| nq (Q_assign rfl) rfl rfl <| WL_nil <| x_begin (by rw [ho]; rfl) H ?_
    intro wd70 H
    refine C_block <| C_seq <| C_seq <| R_nd <| nq (v := .int .i64 x60) (Q_ldB (k := 1) (cs := [.int .i64 x60]) H.ok rfl ty3 rfl rfl rfl (fun _ => rfl) rfl) rfl rfl <| nq (Q_eql rfl rfl) rfl rfl <| WL_nil <| x_then ?_
    refine C_cond rfl (fun hb => ?_) (fun hb => ?_)
    ·replace hF68 := itT hb hF68
     refine C_seq <| R_nd <| nq (Q_move rfl) rfl rfl <| ne (E_stB (k := 2) (cs := [.int .i64 x56]) (vs' := [.int .i64 x56]) H rfl ty3 rfl rfl rfl rfl (one_cons rfl one_nil) (by simp) rfl) rfl rfl ?_
     rintro _ wd71 H
     dsimp only [List.set] at H
     refine WL_nil <| x_then <| C_ret <| x_then_ret <| x_block_ret ?_
     replace H := H.f2
     replace H := H.drop 2 rfl
     dsimp only [List.eraseIdx] at H
     replace H := H.f1
     obtain rfl := Option.some.inj hF68
     subst ho
     refine x_round_ret H (fun w_ H => ?_)
     exact ⟨rfl, ρ, _, (View.le_refl _), IS.r ⟨x56, rfl, rfl⟩, Hp.ydClose (L := [Box b46 [.int .i64 x56]]) H⟩
    ·replace hF68 := itF hb hF68
     refine C_skip <| x_then <| R_nd <| nq (v := .int .i64 x60) (Q_ldB (k := 1) (cs := [.int .i64 x60]) H.ok rfl ty3 rfl rfl rfl (fun _ => rfl) rfl) rfl rfl <| nq (Q_sub rfl rfl) rfl rfl <| ne (E_stB (k := 1) (cs := [.int .i64 (w64 (x60 - 1))]) (vs' := [.int .i64 (w64 (x60 - 1))]) H rfl ty3 rfl rfl rfl rfl (one_cons rfl one_nil) (by simp) rfl) rfl rfl ?_
     rintro _ wd72 H
     dsimp only [List.set] at H
     refine WL_nil <| x_block ?_
     replace H := H.f2
     replace H := H.f2
     replace H := H.f2
     obtain rfl := Option.some.inj hF68
     subst ho
     refine x_round H (fun w_ H => ?_)
     exact ⟨rfl, ρ, _, (View.le_refl _), IS.l ⟨w64 (x60 - 1), rfl, rfl⟩, Hp.ydClose (L := [Box b44 [.int .i64 (w64 (x60 - 1))], Box b46 [.int .i64 0]]) H⟩
   ·intro l rec W hs' hY H
    refine (c_197 H gle gl18 hY (IS.l ⟨x5, rfl, rfl⟩) (IS.mono (fun hl h => by obtain ⟨x60, e1_, e2_⟩ := h; exact ⟨x60, e1_, e2_⟩) (fun hl h => by obtain ⟨x64, e1_, e2_⟩ := h; exact ⟨x64, e1_, e2_⟩))  hq65).mono fun e w' he => ?_
    obtain ⟨v, rfl, ρ', A', x, b, hr_, _, h1, h2, h3⟩ := he
    cases hr_
    exact ⟨_, rfl, ρ', A', h1, h2, h3⟩
   ·intro D73 wd74 ρ A' lw75 hIx H
    rcases q651_ with q651_ | q651_
    ·obtain ⟨x60, rfl, rfl⟩ := IS.unl hIx
     replace H := Hp.unstar H
     dsimp only [List.cons_append, List.nil_append] at H
     replace gle := GErrs.up lw75 gle
     replace gl18 := GTab.up lw75 gl18
     refine ⟨fun hb => ?_, fun hb => ?_⟩
     ·subst hb
      try dsimp only at hF
      refine x_block <| x_then <| C_seq <| R_nd <| ne (E_stB (k := 1) (cs := [.int .i64 (-1)]) (vs' := [.int .i64 (-1)]) H rfl ty3 rfl rfl rfl rfl (one_cons rfl one_nil) (by simp) rfl) rfl rfl ?_
      rintro _ wd76 H
      dsimp only [List.set] at H
      refine WL_nil <| x_then <| C_ret ?_
      replace H := H.f2
      refine x_take H ?_
      intro wd77 H
      have hRV : RV Tryz.prog wd77 [(4, .pointer (some ⟨b46, 0, none⟩))] [.cell 4 3] [.int .i64 (-1)] := ⟨⟨_, rfl, run_ldv ty3 rfl (fun _ => rfl) (box_at (H.ok.get (k := 1) rfl) 0 1)⟩, trivial⟩
      replace H := H.drop 0 rfl
      dsimp only [List.eraseIdx] at H
      replace H := H.drop 0 rfl
      dsimp only [List.eraseIdx] at H
      obtain rfl := Option.some.inj hF
      exact fn_retM (rs := [.cell 4 3]) (vs := [.int .i64 (-1)]) rfl hRV ⟨ρ, (-1), rfl, rfl, lw75, H⟩
     ·subst hb
      try dsimp only at hF
      cases hF
    ·obtain ⟨x64, rfl, rfl⟩ := IS.unr hIx
     replace H := Hp.unstar H
     dsimp only [List.cons_append, List.nil_append] at H
     replace gle := GErrs.up lw75 gle
     replace gl18 := GTab.up lw75 gl18
     refine ⟨fun hb => ?_, fun hb => ?_⟩
     ·subst hb
      try dsimp only at hF
      cases hF
     ·subst hb
      try dsimp only at hF
      refine C_ret <| x_block_ret <| x_then_ret ?_
      replace H := H.f1
      refine x_take H ?_
      intro wd78 H
      have hRV : RV Tryz.prog wd78 [(4, .pointer (some ⟨b46, 0, none⟩))] [.cell 4 3] [.int .i64 x64] := ⟨⟨_, rfl, run_ldv ty3 rfl (fun _ => rfl) (box_at (H.ok.get (k := 0) rfl) 0 1)⟩, trivial⟩
      replace H := H.drop 0 rfl
      dsimp only [List.eraseIdx] at H
      obtain rfl := Option.some.inj hF
      exact fn_retM (rs := [.cell 4 3]) (vs := [.int .i64 x64]) rfl hRV ⟨ρ, x64, rfl, rfl, lw75, H⟩
theorem c_94 {N : Nat} {C : Cx} {w : World} {ρ : View} {hs : List Hl} {gV : Nat → Value} {x1 : Int} {x2 : Int} {x3 : Int} {x4 : Int} (H : Hp C w ρ (hs)) (gle : GErrs ρ 394 errIds gV) (gl18 : GTab ρ 18 .u8 tab_math_bits_deBruijn64tab) {r : Int} (hF : F_sets_Set_Least N x1 x2 x3 x4 = some r) :
  Calls Tryz.prog 94 [.agg #[.int .u64 x1, .int .u64 x2, .int .u64 x3, .int .u64 x4]].toArray w (Rets (fun v w' => (∃ (ρ' : View) (x12 : Int), x12 = r ∧ .int .i64 x12 = v ∧ View.le ρ ρ' ∧ Hp C w' ρ' (hs)))) := by
 unfold F_sets_Set_Least at hF
 have h0 : Tryz.f94.body = some _ := rfl
 refine fn_calls' Tryz.func94 h0 (n := 5) rfl (by simp) <| C_seq <| R_nd <| ne (E_box H (vs := [.int .u64 x1, .int .u64 x2, .int .u64 x3, .int .u64 x4]) rfl rfl) rfl rfl ?_
 rintro _ wd14 ⟨b13, rfl, H⟩
 refine nq (Q_assign rfl) rfl rfl <| WL_nil <| x_then <| C_seq <| R_nd <| nq (v := .agg #[.int .u64 x1, .int .u64 x2, .int .u64 x3, .int .u64 x4]) (Q_ldB (k := 0) (cs := [.int .u64 x1, .int .u64 x2, .int .u64 x3, .int .u64 x4]) H.ok rfl ty39 rfl rfl rfl (fun h => nomatch h) rfl) rfl rfl ?_
 obtain ⟨q15, hq15, hF⟩ := bnd hF
 refine ne (E_call fn138 rfl (c_138 H gle gl18  hq15)) rfl rfl ?_
 rintro _ wd19 ⟨ρ, x17, rfl, rfl, lw18, H⟩
 try dsimp only at hF
 replace gle := GErrs.up lw18 gle
 replace gl18 := GTab.up lw18 gl18
 refine nq (Q_assign rfl) rfl rfl <| WL_nil <| x_then <| C_ret ?_
 replace H := H.drop 0 rfl
 dsimp only [List.eraseIdx] at H
 obtain rfl := Option.some.inj hF
 exact fn_ret (l := [.tmp 2]) (vs := [.int .i64 x17]) rfl rfl rfl ⟨ρ, x17, rfl, rfl, lw18, H⟩
theorem c_137 {N : Nat} {C : Cx} {w : World} {ρ : View} {hs : List Hl} {gV : Nat → Value} {x1 : Int} (H : Hp C w ρ (hs)) (_gle : GErrs ρ 394 errIds gV) {r : Unit} (hF : F_cmp_isNaN_int N x1 = some r) :
  Calls Tryz.prog 137 [.int .i64 x1].toArray w (Rets (fun v w' => (() = r ∧ .bool (x1 != x1) = v ∧ Hp C w' ρ (hs)))) := by
 unfold F_cmp_isNaN_int at hF
 have h0 : Tryz.f137.body = some _ := rfl
 refine fn_calls' Tryz.func137 h0 (n := 6) rfl (by simp) <| C_seq <| R_nd <| nq (Q_assign rfl) rfl rfl <| WL_nil <| x_then <| C_seq <| R_nd <| nq (Q_move rfl) rfl rfl <| nq (Q_move rfl) rfl rfl <| nq (Q_neq rfl rfl) rfl rfl <| nq (Q_assign rfl) rfl rfl <| WL_nil <| x_then ?_
 refine C_ret ?_
 obtain rfl := Option.some.inj hF
 exact fn_ret (l := [.tmp 2]) (vs := [.bool (x1 != x1)]) rfl rfl rfl ⟨rfl, rfl, H⟩
theorem c_93 {N : Nat} {C : Cx} {w : World} {ρ : View} {hs : List Hl} {gV : Nat → Value} {x1 : Int} {x2 : Int} (H : Hp C w ρ (hs)) (gle : GErrs ρ 394 errIds gV) {r : Int} (hF : F_cmp_Compare_int N x1 x2 = some r) :
  Calls Tryz.prog 93 [.int .i64 x1, .int .i64 x2].toArray w (Rets (fun v w' => (∃ (x9 : Int), x9 = r ∧ .int .i64 x9 = v ∧ Hp C w' ρ (hs)))) := by
 unfold F_cmp_Compare_int at hF
 have h0 : Tryz.f93.body = some _ := rfl
 refine fn_calls' Tryz.func93 h0 (n := 20) rfl (by simp) <| C_seq <| R_nd <| nq (Q_assign rfl) rfl rfl <| WL_nil <| x_then <| C_seq <| R_nd <| nq (Q_move rfl) rfl rfl ?_
 obtain ⟨q10, hq10, hF⟩ := bnd hF
 refine ne (E_call fn137 rfl (c_137 H gle   hq10)) rfl rfl ?_
 rintro _ wd12 ⟨rfl, rfl, H⟩
 try dsimp only at hF
 refine nq (Q_assign rfl) rfl rfl <| WL_nil <| x_then <| C_seq <| R_nd <| nq (Q_move rfl) rfl rfl ?_
 obtain ⟨q13, hq13, hF⟩ := bnd hF
 refine ne (E_call fn137 rfl (c_137 H gle   hq13)) rfl rfl ?_
 rintro _ wd15 ⟨rfl, rfl, H⟩
 try dsimp only at hF
 refine nq (Q_assign rfl) rfl rfl <| WL_nil <| x_then <| C_seq <| C_seq <| R_nd <| nq (Q_move rfl) rfl rfl <| WL_nil <| x_then ?_
 refine C_cond rfl (fun hb => ?_) (fun hb => ?_)
 ·replace hF := itT hb hF
  refine C_seq <| C_seq <| R_nd <| nq (Q_move rfl) rfl rfl <| WL_nil <| x_then ?_
  refine C_cond rfl (fun hb => ?_) (fun hb => ?_)
  ·replace hF := itT hb hF
   refine C_seq <| R_nd <| nq (Q_assign rfl) rfl rfl <| WL_nil <| x_then <| C_ret <| x_then_ret <| x_then_ret ?_
   obtain rfl := Option.some.inj hF
   exact fn_ret (l := [.tmp 4]) (vs := [.int .i64 0]) rfl rfl rfl ⟨0, rfl, rfl, H⟩
  ·replace hF := itF hb hF
   refine C_skip <| x_then <| C_seq <| R_nd <| nq (Q_assign rfl) rfl rfl <| WL_nil <| x_then <| C_ret <| x_then_ret ?_
   obtain rfl := Option.some.inj hF
   exact fn_ret (l := [.tmp 4]) (vs := [.int .i64 (-1)]) rfl rfl rfl ⟨(-1), rfl, rfl, H⟩
 ·replace hF := itF hb hF
  refine C_skip <| x_then <| C_seq <| C_seq <| R_nd <| nq (Q_move rfl) rfl rfl <| WL_nil <| x_then ?_
  refine C_cond rfl (fun hb => ?_) (fun hb => ?_)
  ·replace hF := itT hb hF
   refine C_seq <| R_nd <| nq (Q_assign rfl) rfl rfl <| WL_nil <| x_then <| C_ret <| x_then_ret ?_
   obtain rfl := Option.some.inj hF
   exact fn_ret (l := [.tmp 4]) (vs := [.int .i64 1]) rfl rfl rfl ⟨1, rfl, rfl, H⟩
  ·replace hF := itF hb hF
   refine C_skip <| x_then <| C_seq <| C_seq <| R_nd <| nq (Q_move rfl) rfl rfl <| nq (Q_move rfl) rfl rfl <| nq (Q_lss rfl rfl) rfl rfl <| WL_nil <| x_then ?_
   refine C_cond rfl (fun hb => ?_) (fun hb => ?_)
   ·replace hF := itT hb hF
    refine C_seq <| R_nd <| nq (Q_assign rfl) rfl rfl <| WL_nil <| x_then <| C_ret <| x_then_ret ?_
    obtain rfl := Option.some.inj hF
    exact fn_ret (l := [.tmp 4]) (vs := [.int .i64 (-1)]) rfl rfl rfl ⟨(-1), rfl, rfl, H⟩
   ·replace hF := itF hb hF
    refine C_skip <| x_then <| C_seq <| C_seq <| R_nd <| nq (Q_move rfl) rfl rfl <| nq (Q_move rfl) rfl rfl <| nq (Q_gtr rfl rfl) rfl rfl <| WL_nil <| x_then ?_
    refine C_cond rfl (fun hb => ?_) (fun hb => ?_)
    ·replace hF := itT hb hF
     refine C_seq <| R_nd <| nq (Q_assign rfl) rfl rfl <| WL_nil <| x_then <| C_ret <| x_then_ret ?_
     obtain rfl := Option.some.inj hF
     exact fn_ret (l := [.tmp 4]) (vs := [.int .i64 1]) rfl rfl rfl ⟨1, rfl, rfl, H⟩
    ·replace hF := itF hb hF
     refine C_skip <| x_then <| C_seq <| R_nd <| nq (Q_assign rfl) rfl rfl <| WL_nil <| x_then <| C_ret ?_
     obtain rfl := Option.some.inj hF
     exact fn_ret (l := [.tmp 4]) (vs := [.int .i64 0]) rfl rfl rfl ⟨0, rfl, rfl, H⟩
theorem c_92 {N : Nat} {C : Cx} {w : World} {ρ : View} {hs : List Hl} {gV : Nat → Value} {x1 : Int} {x2 : Int} {x3 : Int} {x4 : Int} {x5 : Int} {x6 : Int} {x7 : Int} {x8 : Int} (H : Hp C w ρ (hs)) (gle : GErrs ρ 394 errIds gV) (gl18 : GTab ρ 18 .u8 tab_math_bits_deBruijn64tab) {r : Int} (hF : F_nfa_Bytes_1 N x1 x2 x3 x4 x5 x6 x7 x8 = some r) :
  Calls Tryz.prog 92 [.agg #[.int .u64 x1, .int .u64 x2, .int .u64 x3, .int .u64 x4], .agg #[.int .u64 x5, .int .u64 x6, .int .u64 x7, .int .u64 x8]].toArray w (Rets (fun v w' => (∃ (ρ' : View) (x27 : Int), x27 = r ∧ .int .i64 x27 = v ∧ View.le ρ ρ' ∧ Hp C w' ρ' (hs)))) := by
 unfold F_nfa_Bytes_1 at hF
 have h0 : Tryz.f92.body = some _ := rfl
 refine fn_calls' Tryz.func92 h0 (n := 10) rfl (by simp) <| C_seq <| R_nd <| ne (E_box H (vs := [.int .u64 x1, .int .u64 x2, .int .u64 x3, .int .u64 x4]) rfl rfl) rfl rfl ?_
 rintro _ wd29 ⟨b28, rfl, H⟩
 refine ne (E_box H (vs := [.int .u64 x5, .int .u64 x6, .int .u64 x7, .int .u64 x8]) rfl rfl) rfl rfl ?_
 rintro _ wd31 ⟨b30, rfl, H⟩
 refine nq (Q_assign rfl) rfl rfl <| WL_nil <| x_then <| C_seq <| R_dr (.take 0 (.take 2 (.one 1 (.one 3 (.one 4 (.take 5 .done)))))) (fun w' => Ok w' ρ [Box b30 [.int .u64 x5, .int .u64 x6, .int .u64 x7, .int .u64 x8], Box b28 [.int .u64 x1, .int .u64 x2, .int .u64 x3, .int .u64 x4]]) (by kernel_rfl) (by kernel_rfl) (by kernel_rfl) (H.drew.okS (by simp)) ?_
 replace H := H.drew
 refine dq (v := .agg #[.int .u64 x1, .int .u64 x2, .int .u64 x3, .int .u64 x4]) rfl (fun _ hw => Q_ldB (k := 1) (cs := [.int .u64 x1, .int .u64 x2, .int .u64 x3, .int .u64 x4]) hw rfl ty39 rfl rfl rfl (fun h => nomatch h) rfl) rfl rfl <| dq (v := .agg #[.int .u64 x5, .int .u64 x6, .int .u64 x7, .int .u64 x8]) rfl (fun _ hw => Q_ldB (k := 0) (cs := [.int .u64 x5, .int .u64 x6, .int .u64 x7, .int .u64 x8]) hw rfl ty39 rfl rfl rfl (fun h => nomatch h) rfl) rfl rfl ?_
 obtain ⟨q32, hq32, hF⟩ := bnd hF
 refine d1 (de rfl (E_call fn94 rfl (c_94 H gle gl18  hq32)) rfl rfl ?_)
 rintro _ wd36 ⟨ρ, x34, rfl, rfl, lw35, H⟩
 try dsimp only at hF
 replace gle := GErrs.up lw35 gle
 replace gl18 := GTab.up lw35 gl18
 refine ⟨(H.okS (by simp)).low lw35, ?_⟩
 obtain ⟨q37, hq37, hF⟩ := bnd hF
 refine d1 (de rfl (E_call fn94 rfl (c_94 H gle gl18  hq37)) rfl rfl ?_)
 rintro _ wd41 ⟨ρ, x39, rfl, rfl, lw40, H⟩
 try dsimp only at hF
 replace gle := GErrs.up lw40 gle
 replace gl18 := GTab.up lw40 gl18
 refine ⟨(H.okS (by simp)).low (View.le_trans lw35 lw40), ?_⟩
 obtain ⟨q42, hq42, hF⟩ := bnd hF
 refine d1 (de rfl (E_call fn93 rfl (c_93 H gle   hq42)) rfl rfl ?_)
 rintro _ wd45 ⟨x44, rfl, rfl, H⟩
 try dsimp only at hF
 refine ⟨(H.okS (by simp)).low (View.le_trans lw35 lw40), ?_⟩
 refine dq rfl (fun _ _ => Q_assign rfl) rfl rfl <| DL_nil <| x_then <| C_ret ?_
 replace H := H.drop 0 rfl
 dsimp only [List.eraseIdx] at H
 replace H := H.drop 0 rfl
 dsimp only [List.eraseIdx] at H
 obtain rfl := Option.some.inj hF
 exact fn_ret (l := [.tmp 4]) (vs := [.int .i64 x44]) rfl rfl rfl ⟨ρ, x44, rfl, rfl, (View.le_trans lw35 lw40), H⟩
theorem c_91 {N : Nat} {C : Cx} {w : World} {ρ : View} {hs : List Hl} {gV : Nat → Value} {v : Value} {c : List Value} {x : List S4} (H : Hp C w ρ (Arr v 4 c :: hs)) (gle : GErrs ρ 394 errIds gV) (gl18 : GTab ρ 18 .u8 tab_math_bits_deBruijn64tab) (r3 : rdL e4 ρ x c) {y : List S4} (hF : sortF (fun a b => F_nfa_Bytes_1 N a.1 a.2.1 a.2.2.1 a.2.2.2 b.1 b.2.1 b.2.2.1 b.2.2.2) x = some y) :
  Calls Tryz.prog 91 [v, .func (.func 92) #[] [].toArray].toArray w (Rets (fun u w' => u = .tuple [].toArray ∧ rdL e4 ρ y (y.flatMap raw4) ∧ Hp C w' ρ (Arr v 4 (y.flatMap raw4) :: hs))) := by
 refine c_sort4 sortSets rfl Tryz.isAgg39 Tryz.sizeOf39 (Go.Proofs.enters_of Tryz.func92 (by kernel_rfl) rfl) H r3 (fun W hW a b r hr => ?_) hF
 refine (c_92 (C := ⟨W, []⟩) (hs := []) (Hp.here hW) gle gl18 hr).mono fun e w' he => ?_
 obtain ⟨_, rfl, ρ2, z, rfl, rfl, _, H2⟩ := he
 exact ⟨_, rfl, rfl, H2.bel⟩
set_option maxHeartbeats 8000000 in
theorem c_43 {N : Nat} {C : Cx} {w : World} {ρ : View} {hs : List Hl} {gV : Nat → Value} {v1 : Value} {v4 : Value} {x2 : (List ((List Int) × (Int × Int × Int × Int) × Int × Int))} {x5 : (List Int)} (H : Hp C w ρ (hs)) (gle : GErrs ρ 394 errIds gV) (gl18 : GTab ρ 18 .u8 tab_math_bits_deBruijn64tab) (r3 : RdSl ρ (eP (eL (eI .i64)) (eP (eP (eI .u64) (eP (eI .u64) (eP (eI .u64) (eI .u64)))) (eP (eI .i64) (eI .i64)))) v1 x2) (r6 : RdSl ρ (eI .i64) v4 x5) {r : (List (Int × Int × Int × Int))} (hF : F_nfa_Bytes N x2 x5 = some r) :
  Calls Tryz.prog 43 [.agg #[v1, v4]].toArray w (Rets (fun v w' => (∃ (v34957 : Value) (c34958 : (List Value)) (x34959 : (List (Int × Int × Int × Int))), x34959 = r ∧ v34957 = v ∧ rdL (eP (eI .u64) (eP (eI .u64) (eP (eI .u64) (eI .u64)))) ρ x34959 c34958 ∧ Hp C w' ρ (Arr v34957 4 c34958 :: hs)))) := by
 unfold F_nfa_Bytes at hF
 have h0 : Tryz.f43.body = some _ := rfl
 refine fn_calls' Tryz.func43 h0 (n := 69) rfl (by simp) <| C_seq <| R_nd <| ne (E_box H (vs := [v1, v4]) rfl rfl) rfl rfl ?_
 rintro _ wd34962 ⟨b34961, rfl, H⟩
 refine nq (Q_assign rfl) rfl rfl <| WL_nil <| x_then <| C_seq <| C_seq <| R_nd <| nq (v := .agg #[v1, v4]) (Q_ldB (k := 0) (cs := [v1, v4]) H.ok rfl ty25 rfl rfl rfl (fun h => nomatch h) rfl) rfl rfl ?_
 obtain ⟨q34963, hq34963, hF⟩ := bnd hF
 refine ne (E_call fn18 rfl (c_18 H gle  r3 r6 hq34963)) rfl rfl ?_
 rintro _ wd34966 ⟨x34965, rfl, rfl, H⟩
 try dsimp only at hF
 refine nq (Q_not rfl) rfl rfl <| WL_nil <| x_then ?_
 refine C_cond rfl (fun hb => ?_) (fun hb => ?_)
 ·replace hF := itT hb hF
  refine C_seq <| R_nd <| nq (Q_assign rfl) rfl rfl <| WL_nil <| x_then <| C_ret <| x_then_ret ?_
  have H := H.nilArr 4
  replace H := H.drop 1 rfl
  dsimp only [List.eraseIdx] at H
  obtain rfl := Option.some.inj hF
  exact fn_ret (l := [.tmp 2]) (vs := [(.slice none 0 0)]) rfl rfl rfl ⟨(.slice none 0 0), [], [], rfl, rfl, rdL.nil, H⟩
 ·replace hF := itF hb hF
  refine C_skip <| x_then <| C_seq <| R_nd ?_
  obtain ⟨q34967, hq34967, hF⟩ := bnd hF
  refine ne (E_call fn88 rfl (c_88 H gle   hq34967)) rfl rfl ?_
  rintro _ wd34973 ⟨x34969, x34970, x34971, x34972, rfl, rfl, H⟩
  try dsimp only at hF
  refine ne (E_bslice (xs := [.tmp 15]) (vs := [.agg #[.int .u64 x34969, .int .u64 x34970, .int .u64 x34971, .int .u64 x34972]]) H Tryz.underlying72 ty39 (by decide) (cs := [.int .u64 x34969, .int .u64 x34970, .int .u64 x34971, .int .u64 x34972]) rfl (sz_cons rfl sz_nil) rfl (by simp) (by simp) rfl rfl) rfl rfl ?_
  rintro _ wd34975 ⟨b34974, rfl, H⟩
  refine nq (Q_assign rfl) rfl rfl <| WL_nil <| x_then <| C_seq <| R_nd <| ne (E_makeMap (kA 4 .u64) (Value.int .i64) H) rfl rfl ?_
  rintro _ wd34977 ⟨b34976, rfl, H⟩
  refine nq (Q_assign rfl) rfl rfl <| WL_nil <| x_then <| C_seq <| C_seq <| R_nd <| nq (v := .pointer (some ⟨b34961, 0, none⟩)) (Q_fld Tryz.underlying25 rfl ty22 (by decide) rfl rfl) rfl rfl <| nq (v := v1) (Q_ldB (k := 2) (cs := [v1]) H.ok rfl ty22 rfl rfl rfl (fun _ => rfl) rfl) rfl rfl <| nq (Q_len Tryz.underlying22 rfl r3) rfl rfl <| nq (Q_move rfl) rfl rfl <| WL_nil <| x_then ?_
  obtain ⟨o52443, ho52443, hF⟩ := bnd hF
  refine C_cutQ (fun a w' => ∃ (v52439 : Value) (c52440 : (List Value)) (x52441 : (List (Int × Int × Int × Int))), x52441 = o52443 ∧ rdL (eP (eI .u64) (eP (eI .u64) (eP (eI .u64) (eI .u64)))) ρ x52441 c52440 ∧ Fr 69 a [(3, v52439)] ∧ Hp C w' ρ (Arr v52439 4 c52440 :: hs)) ?_ ?_
  ·refine C_block ?_
   replace H := H.f1
   replace H := H.drop 2 rfl
   dsimp only [List.eraseIdx] at H
   refine C_iter (f := fun s => F_nfa_Bytes_l0 N x2 s.1 s.2.1 s.2.2) ho52443 (fun s a w' => ∃ (v58264 : Value) (c58265 : (List Value)) (x58263 : Int) (x58266 : (List (Int × Int × Int × Int))) (x58268 : (List ((List Int) × Int))), (x58263, x58266, x58268) = s ∧ rdL (eP (eI .u64) (eP (eI .u64) (eP (eI .u64) (eI .u64)))) ρ x58266 c58265 ∧ Fr 69 a [(3, v58264), (4, .map (some b34976)), (19, v1), (20, .int .i64 (x2.length : Int)), (21, .int .i64 x58263)] ∧ Hp C w' ρ (Arr v58264 4 c58265 :: Mp (kA 4 .u64) (Value.int .i64) b34976 x58268 :: hs)) ?_ ?_
   ·exact fun a hf => ⟨(.slice (some ⟨b34974, 0, none⟩) 1 1), [.int .u64 x34969, .int .u64 x34970, .int .u64 x34971, .int .u64 x34972], 0, [(x34969, x34970, x34971, x34972)], ([] : List ((List Int) × Int)), rfl, (show rdL (eP (eI .u64) (eP (eI .u64) (eP (eI .u64) (eI .u64)))) ρ ([(x34969, x34970, x34971, x34972)]) ([.int .u64 x34969, .int .u64 x34970, .int .u64 x34971, .int .u64 x34972]) from ⟨([.int .u64 x34969, .int .u64 x34970, .int .u64 x34971, .int .u64 x34972]), _, rfl, ⟨[.int .u64 x34969], _, rfl, rfl, ⟨[.int .u64 x34970], _, rfl, rfl, ⟨[.int .u64 x34971], _, rfl, rfl, rfl⟩⟩⟩, rdL.nil⟩), hf.sub ⟨rfl, rfl, rfl, rfl, rfl, trivial⟩, H⟩
   ·rintro s o64088 a wd64091 ⟨v58264, c58265, x58263, x58266, x58268, rfl, r58267, hf, H⟩ hB64089 hO64090
    replace hB64089 : F_nfa_Bytes_l0 N x2 x58263 x58266 x58268 = some o64088 := hB64089
    unfold F_nfa_Bytes_l0 at hB64089
    refine CW.at hf <| C_seq <| R_nd <| nq (Q_lss rfl rfl) rfl rfl <| WL_nil <| x_then <| C_seq ?_
    refine C_cond rfl (fun hb => ?_) (fun hb => ?_)
    ·replace hB64089 := itT hb hB64089
     refine C_skip <| x_then ?_
     obtain ⟨o67000, ho67000, hB64089⟩ := bnd hB64089
     refine C_cut (fun a w' => ∃ (v66995 : Value) (c66996 : (List Value)) (x66997 : (List (Int × Int × Int × Int))) (x66999 : (List ((List Int) × Int))), (x66997, x66999) = o67000 ∧ rdL (eP (eI .u64) (eP (eI .u64) (eP (eI .u64) (eI .u64)))) ρ x66997 c66996 ∧ Fr 69 a [(3, v66995), (4, .map (some b34976)), (19, v1), (20, .int .i64 (x2.length : Int)), (21, .int .i64 x58263)] ∧ Hp C w' ρ (Arr v66995 4 c66996 :: Mp (kA 4 .u64) (Value.int .i64) b34976 x66999 :: hs)) ?_ ?_
     ·refine C_block <| C_seq <| R_nd ?_
      obtain ⟨x67001, hx67001, ho67000⟩ := bnd ho67000
      obtain ⟨b67002, o67003, c67004, hc67005, ha67006, hi67007⟩ := idxR r3 hx67001
      refine nq (Q_idx hi67007 Tryz.underlying22 ty41 rfl rfl) rfl rfl ?_
      obtain ⟨c67008, c67009, he67010, hc67011, hc67012⟩ := (id hc67005)
      obtain ⟨v67013, he67014, r67015⟩ := hc67011
      obtain ⟨c67016, c67017, he67018, hc67019, hc67020⟩ := hc67012
      obtain ⟨c67021, c67022, he67023, hc67024, hc67025⟩ := hc67019
      obtain ⟨c67026, c67027, he67028, hc67029, hc67030⟩ := hc67025
      obtain ⟨c67031, c67032, he67033, hc67034, hc67035⟩ := hc67030
      obtain ⟨c67036, c67037, he67038, hc67039, hc67040⟩ := hc67020
      refine nq (v := .agg #[v67013, .int .u64 x67001.2.1.1, .int .u64 x67001.2.1.2.1, .int .u64 x67001.2.1.2.2.1, .int .u64 x67001.2.1.2.2.2, .int .i64 x67001.2.2.1, .int .i64 x67001.2.2.2]) (Q_ld (show cellsAt _ _ _ [v67013, .int .u64 x67001.2.1.1, .int .u64 x67001.2.1.2.1, .int .u64 x67001.2.1.2.2.1, .int .u64 x67001.2.1.2.2.2, .int .i64 x67001.2.2.1, .int .i64 x67001.2.2.2] from cellsAt.cg (cat2 he67010 he67014 (cat2 he67018 (cat2 he67023 (rdI hc67024) (cat2 he67028 (rdI hc67029) (cat2 he67033 (rdI hc67034) (rdI hc67035)))) (cat2 he67038 (rdI hc67039) (rdI hc67040)))) (ha67006.up H.ok.view)) ty41 rfl (fun h => nomatch h) rfl rfl) rfl rfl <| ne (E_alloc H ty41 (zs := [.slice none 0 0, .int .u64 0, .int .u64 0, .int .u64 0, .int .u64 0, .int .i64 0, .int .i64 0]) rfl) rfl rfl ?_
      rintro _ wd67042 ⟨b67041, rfl, H⟩
      refine ne (E_stB (k := 0) (cs := [v67013, .int .u64 x67001.2.1.1, .int .u64 x67001.2.1.2.1, .int .u64 x67001.2.1.2.2.1, .int .u64 x67001.2.1.2.2.2, .int .i64 x67001.2.2.1, .int .i64 x67001.2.2.2]) (vs' := [v67013, .int .u64 x67001.2.1.1, .int .u64 x67001.2.1.2.1, .int .u64 x67001.2.1.2.2.1, .int .u64 x67001.2.1.2.2.2, .int .i64 x67001.2.2.1, .int .i64 x67001.2.2.2]) H rfl ty41 rfl rfl rfl rfl (one_cons (RdSl.one r67015) (one_cons rfl (one_cons rfl (one_cons rfl (one_cons rfl (one_cons rfl (one_cons rfl one_nil))))))) (by simp) rfl) rfl rfl ?_
      rintro _ wd67043 H
      dsimp only [List.set] at H
      refine WL_nil <| x_then <| C_seq <| C_seq <| R_nd <| nq (Q_move rfl) rfl rfl <| nq (v := .pointer (some ⟨b67041, 1, none⟩)) (Q_fld Tryz.underlying41 rfl ty39 (by decide) rfl rfl) rfl rfl <| nq (v := .agg #[.int .u64 x67001.2.1.1, .int .u64 x67001.2.1.2.1, .int .u64 x67001.2.1.2.2.1, .int .u64 x67001.2.1.2.2.2]) (Q_ldB (k := 0) (cs := [.int .u64 x67001.2.1.1, .int .u64 x67001.2.1.2.1, .int .u64 x67001.2.1.2.2.1, .int .u64 x67001.2.1.2.2.2]) H.ok rfl ty39 rfl rfl rfl (fun h => nomatch h) rfl) rfl rfl <| nq (v := .int .i64 ((mget x58268 ([x67001.2.1.1, x67001.2.1.2.1, x67001.2.1.2.2.1, x67001.2.1.2.2.2])).getD 0)) (Q_look1 (zp := 0) (k := 2) H.ok rfl Tryz.underlying149 (kOk_A Tryz.underlying39 ty37 Tryz.underlying37) (rfl : List.length ([x67001.2.1.1, x67001.2.1.2.1, x67001.2.1.2.2.1, x67001.2.1.2.2.2] : List Int) = 4) ty3 rfl rfl (kA_ev (xs := [x67001.2.1.1, x67001.2.1.2.1, x67001.2.1.2.2.1, x67001.2.1.2.2.2]) (rdL_ints .u64 ρ [x67001.2.1.1, x67001.2.1.2.1, x67001.2.1.2.2.1, x67001.2.1.2.2.2]) rfl)) rfl rfl <| nq (Q_gtr rfl rfl) rfl rfl <| WL_nil <| x_then ?_
      refine C_cond rfl (fun hb => ?_) (fun hb => ?_)
      ·replace ho67000 := itT hb ho67000
       refine C_exit <| x_then_exit <| x_block_exit ?_
       replace H := H.f2
       replace H := H.f2
       replace H := H.drop 2 rfl
       dsimp only [List.eraseIdx] at H
       obtain rfl := Option.some.inj ho67000
       refine x_A fun a hf => ⟨v58264, c58265, x58266, x58268, rfl, r58267, hf.sub ⟨rfl, rfl, rfl, rfl, rfl, trivial⟩, H⟩
      ·replace ho67000 := itF hb ho67000
       refine C_skip <| x_then ?_
       obtain ⟨o67050, ho67050, ho67000⟩ := bnd ho67000
       refine C_cut (fun a w' => Fr 69 a [(3, v58264), (4, .map (some b34976)), (6, .pointer (some ⟨b67041, 0, none⟩)), (19, v1), (20, .int .i64 (x2.length : Int)), (21, .int .i64 x58263)] ∧ Hp C w' ρ (Arr v58264 4 c58265 :: Mp (kA 4 .u64) (Value.int .i64) b34976 (mset (mset x58268 ([x67001.2.1.1, x67001.2.1.2.1, x67001.2.1.2.2.1, x67001.2.1.2.2.2]) ((mget x58268 ([x67001.2.1.1, x67001.2.1.2.1, x67001.2.1.2.2.1, x67001.2.1.2.2.2])).getD 0)) ([x67001.2.1.1, x67001.2.1.2.1, x67001.2.1.2.2.1, x67001.2.1.2.2.2]) (w64 (((mget x58268 ([x67001.2.1.1, x67001.2.1.2.1, x67001.2.1.2.2.1, x67001.2.1.2.2.2])).getD 0) + 1))) :: Box b67041 [v67013, .int .u64 x67001.2.1.1, .int .u64 x67001.2.1.2.1, .int .u64 x67001.2.1.2.2.1, .int .u64 x67001.2.1.2.2.2, .int .i64 x67001.2.2.1, .int .i64 x67001.2.2.2] :: hs)) ?_ ?_
       ·refine R_dr (.take 0 (.take 1 (.take 2 (.two 3 5 (.take 4 (.one 5 (.take 6 (.one 7 .done)))) (.take 6 (.one 3 (.take 4 (.one 7 .done)))))))) (fun w' => Ok w' ρ [Box b67041 [v67013, .int .u64 x67001.2.1.1, .int .u64 x67001.2.1.2.1, .int .u64 x67001.2.1.2.2.1, .int .u64 x67001.2.1.2.2.2, .int .i64 x67001.2.2.1, .int .i64 x67001.2.2.2], Arr v58264 4 c58265]) (by kernel_rfl) (by kernel_rfl) (by kernel_rfl) (H.drew.okS (by simp)) ?_
        replace H := H.drew
        refine dq rfl (fun _ _ => Q_move rfl) rfl rfl <| dq (v := .pointer (some ⟨b67041, 1, none⟩)) rfl (fun _ _ => Q_fld Tryz.underlying41 rfl ty39 (by decide) rfl rfl) rfl rfl <| dq (v := .agg #[.int .u64 x67001.2.1.1, .int .u64 x67001.2.1.2.1, .int .u64 x67001.2.1.2.2.1, .int .u64 x67001.2.1.2.2.2]) rfl (fun _ hw => Q_ldB (k := 0) (cs := [.int .u64 x67001.2.1.1, .int .u64 x67001.2.1.2.1, .int .u64 x67001.2.1.2.2.1, .int .u64 x67001.2.1.2.2.2]) hw rfl ty39 rfl rfl rfl (fun h => nomatch h) rfl) rfl rfl ?_
        refine d2 ?_ ?_
        ·refine de rfl (Eff.quiet (v := .int .i64 ((mget x58268 ([x67001.2.1.1, x67001.2.1.2.1, x67001.2.1.2.2.1, x67001.2.1.2.2.2])).getD 0)) (Q_look1 (zp := 0) (k := 2) H.ok rfl Tryz.underlying149 (kOk_A Tryz.underlying39 ty37 Tryz.underlying37) (rfl : List.length ([x67001.2.1.1, x67001.2.1.2.1, x67001.2.1.2.2.1, x67001.2.1.2.2.2] : List Int) = 4) ty3 rfl rfl (kA_ev (xs := [x67001.2.1.1, x67001.2.1.2.1, x67001.2.1.2.2.1, x67001.2.1.2.2.2]) (rdL_ints .u64 ρ [x67001.2.1.1, x67001.2.1.2.1, x67001.2.1.2.2.1, x67001.2.1.2.2.2]) rfl))) rfl rfl ?_
         rintro _ _ ⟨rfl, rfl⟩
         refine ⟨H.okS (by simp), ?_⟩
         refine dq rfl (fun _ _ => Q_add rfl rfl) rfl rfl ?_
         refine d1 (de rfl (E_mentry (zp := 0) (k := 2) H rfl Tryz.underlying149 (kOk_A Tryz.underlying39 ty37 Tryz.underlying37) (rfl : List.length ([x67001.2.1.1, x67001.2.1.2.1, x67001.2.1.2.2.1, x67001.2.1.2.2.2] : List Int) = 4) ty3 rfl rfl (kA_ev (xs := [x67001.2.1.1, x67001.2.1.2.1, x67001.2.1.2.2.1, x67001.2.1.2.2.2]) (rdL_ints .u64 ρ [x67001.2.1.1, x67001.2.1.2.1, x67001.2.1.2.2.1, x67001.2.1.2.2.2]) rfl)) rfl rfl ?_)
         rintro _ wd67052 ⟨n67051, rfl, H⟩
         refine ⟨H.okS (by simp), ?_⟩
         dsimp only [List.set] at H
         refine dq rfl (fun _ _ => Q_extract rfl rfl) rfl rfl ?_
         refine d1 (de rfl (E_estore (b := (w64 (((mget x58268 ([x67001.2.1.1, x67001.2.1.2.1, x67001.2.1.2.2.1, x67001.2.1.2.2.2])).getD 0) + 1))) (k := 2) (kOk_A (N := 4) (k := .u64) Tryz.underlying39 ty37 Tryz.underlying37).law H rfl rfl rfl rfl) rfl rfl ?_)
         rintro _ wd67053 H
         refine ⟨H.okS (by simp), ?_⟩
         dsimp only [List.set] at H
         refine DL_nil ?_
         replace H := H.f2
         replace H := H.f2
         obtain rfl := Option.some.inj ho67050
         refine x_A fun a hf => ⟨hf.sub ⟨rfl, rfl, rfl, rfl, rfl, rfl, trivial⟩, H⟩
        ·refine de rfl (E_mentry (zp := 0) (k := 2) H rfl Tryz.underlying149 (kOk_A Tryz.underlying39 ty37 Tryz.underlying37) (rfl : List.length ([x67001.2.1.1, x67001.2.1.2.1, x67001.2.1.2.2.1, x67001.2.1.2.2.2] : List Int) = 4) ty3 rfl rfl (kA_ev (xs := [x67001.2.1.1, x67001.2.1.2.1, x67001.2.1.2.2.1, x67001.2.1.2.2.2]) (rdL_ints .u64 ρ [x67001.2.1.1, x67001.2.1.2.1, x67001.2.1.2.2.1, x67001.2.1.2.2.2]) rfl)) rfl rfl ?_
         rintro _ wd67055 ⟨n67054, rfl, H⟩
         refine ⟨H.okS (by simp), ?_⟩
         dsimp only [List.set] at H
         refine dq rfl (fun _ _ => Q_extract rfl rfl) rfl rfl ?_
         refine d1 (de rfl (Eff.quiet (v := .int .i64 ((mget x58268 ([x67001.2.1.1, x67001.2.1.2.1, x67001.2.1.2.2.1, x67001.2.1.2.2.2])).getD 0)) (Q_look1E (m := x58268) (zp := 0) (k := 2) H.ok rfl Tryz.underlying149 (kOk_A Tryz.underlying39 ty37 Tryz.underlying37) (rfl : List.length ([x67001.2.1.1, x67001.2.1.2.1, x67001.2.1.2.2.1, x67001.2.1.2.2.2] : List Int) = 4) ty3 rfl rfl (kA_ev (xs := [x67001.2.1.1, x67001.2.1.2.1, x67001.2.1.2.2.1, x67001.2.1.2.2.2]) (rdL_ints .u64 ρ [x67001.2.1.1, x67001.2.1.2.1, x67001.2.1.2.2.1, x67001.2.1.2.2.2]) rfl))) rfl rfl ?_)
         rintro _ _ ⟨rfl, rfl⟩
         refine ⟨H.okS (by simp), ?_⟩
         refine dq rfl (fun _ _ => Q_add rfl rfl) rfl rfl ?_
         refine d1 (de rfl (E_estore (b := (w64 (((mget x58268 ([x67001.2.1.1, x67001.2.1.2.1, x67001.2.1.2.2.1, x67001.2.1.2.2.2])).getD 0) + 1))) (k := 2) (kOk_A (N := 4) (k := .u64) Tryz.underlying39 ty37 Tryz.underlying37).law H rfl rfl rfl rfl) rfl rfl ?_)
         rintro _ wd67056 H
         refine ⟨H.okS (by simp), ?_⟩
         dsimp only [List.set] at H
         refine DL_nil ?_
         replace H := H.f2
         replace H := H.f2
         obtain rfl := Option.some.inj ho67050
         refine x_A fun a hf => ⟨hf.sub ⟨rfl, rfl, rfl, rfl, rfl, rfl, trivial⟩, H⟩
       ·rintro a wd67057 ⟨hf, H⟩
        try dsimp only at ho67000
        refine CW.at hf <| C_seq <| R_nd <| nq (Q_assign rfl) rfl rfl <| WL_nil <| x_then <| C_seq <| C_seq <| R_nd <| nq (Q_move rfl) rfl rfl <| nq (Q_lenA (k := 0) H.ok rfl r58267 (by decide) Tryz.underlying72 rfl) rfl rfl <| nq (Q_move rfl) rfl rfl <| WL_nil <| x_then ?_
        obtain ⟨o68482, ho68482, ho67000⟩ := bnd ho67000
        refine C_cutQ (fun a w' => ∃ (v68478 : Value) (c68479 : (List Value)) (x68480 : (List (Int × Int × Int × Int))), x68480 = o68482 ∧ rdL (eP (eI .u64) (eP (eI .u64) (eP (eI .u64) (eI .u64)))) ρ x68480 c68479 ∧ Fr 69 a [(4, .map (some b34976)), (7, v68478), (19, v1), (20, .int .i64 (x2.length : Int)), (21, .int .i64 x58263)] ∧ Hp C w' ρ (Mp (kA 4 .u64) (Value.int .i64) b34976 (mset (mset x58268 ([x67001.2.1.1, x67001.2.1.2.1, x67001.2.1.2.2.1, x67001.2.1.2.2.2]) ((mget x58268 ([x67001.2.1.1, x67001.2.1.2.1, x67001.2.1.2.2.1, x67001.2.1.2.2.2])).getD 0)) ([x67001.2.1.1, x67001.2.1.2.1, x67001.2.1.2.2.1, x67001.2.1.2.2.2]) (w64 (((mget x58268 ([x67001.2.1.1, x67001.2.1.2.1, x67001.2.1.2.2.1, x67001.2.1.2.2.2])).getD 0) + 1))) :: Arr v68478 4 c68479 :: hs)) ?_ ?_
        ·refine C_block ?_
         have H := H.nilArr 4
         replace H := H.f3
         replace H := H.f3
         replace H := H.f3
         refine C_iter (f := fun s => F_nfa_Bytes_l1 N x58266 x67001 s.1 s.2) ho68482 (fun s a w' => ∃ (v68956 : Value) (c68957 : (List Value)) (x68955 : Int) (x68958 : (List (Int × Int × Int × Int))), (x68955, x68958) = s ∧ rdL (eP (eI .u64) (eP (eI .u64) (eP (eI .u64) (eI .u64)))) ρ x68958 c68957 ∧ Fr 69 a [(4, .map (some b34976)), (6, .pointer (some ⟨b67041, 0, none⟩)), (7, v68956), (19, v1), (20, .int .i64 (x2.length : Int)), (21, .int .i64 x58263), (37, v58264), (38, .int .i64 (x58266.length : Int)), (39, .int .i64 x68955)] ∧ Hp C w' ρ (Arr v58264 4 c58265 :: Mp (kA 4 .u64) (Value.int .i64) b34976 (mset (mset x58268 ([x67001.2.1.1, x67001.2.1.2.1, x67001.2.1.2.2.1, x67001.2.1.2.2.2]) ((mget x58268 ([x67001.2.1.1, x67001.2.1.2.1, x67001.2.1.2.2.1, x67001.2.1.2.2.2])).getD 0)) ([x67001.2.1.1, x67001.2.1.2.1, x67001.2.1.2.2.1, x67001.2.1.2.2.2]) (w64 (((mget x58268 ([x67001.2.1.1, x67001.2.1.2.1, x67001.2.1.2.2.1, x67001.2.1.2.2.2])).getD 0) + 1))) :: Box b67041 [v67013, .int .u64 x67001.2.1.1, .int .u64 x67001.2.1.2.1, .int .u64 x67001.2.1.2.2.1, .int .u64 x67001.2.1.2.2.2, .int .i64 x67001.2.2.1, .int .i64 x67001.2.2.2] :: Arr v68956 4 c68957 :: hs)) ?_ ?_
         ·exact fun a hf => ⟨(.slice none 0 0), [], 0, [], rfl, rdL.nil, hf.sub ⟨rfl, rfl, rfl, rfl, rfl, rfl, rfl, rfl, rfl, trivial⟩, H⟩
         ·rintro s o69432 a wd69435 ⟨v68956, c68957, x68955, x68958, rfl, r68959, hf, H⟩ hB69433 hO69434
          replace hB69433 : F_nfa_Bytes_l1 N x58266 x67001 x68955 x68958 = some o69432 := hB69433
          unfold F_nfa_Bytes_l1 at hB69433
          refine CW.at hf <| C_seq <| R_nd <| nq (Q_lss rfl rfl) rfl rfl <| WL_nil <| x_then <| C_seq ?_
          refine C_cond rfl (fun hb => ?_) (fun hb => ?_)
          ·replace hB69433 := itT hb hB69433
           refine C_skip <| x_then <| C_seq <| C_block <| C_seq <| R_nd ?_
           obtain ⟨x69436, hx69436, hB69433⟩ := bnd hB69433
           obtain ⟨b69437, o69438, hi69442, hc69440, ha69441⟩ := arr_at (hs := [Arr v58264 4 c58265]) (k := 0) (by decide) (H.okS (by simp)) rfl r58267 hx69436
           refine nq (Q_idx hi69442 Tryz.underlying72 ty39 rfl rfl) rfl rfl ?_
           obtain ⟨c69443, c69444, he69445, hc69446, hc69447⟩ := (id hc69440)
           obtain ⟨c69448, c69449, he69450, hc69451, hc69452⟩ := hc69447
           obtain ⟨c69453, c69454, he69455, hc69456, hc69457⟩ := hc69452
           refine nq (v := .agg #[.int .u64 x69436.1, .int .u64 x69436.2.1, .int .u64 x69436.2.2.1, .int .u64 x69436.2.2.2]) (Q_ld (show cellsAt _ _ _ [.int .u64 x69436.1, .int .u64 x69436.2.1, .int .u64 x69436.2.2.1, .int .u64 x69436.2.2.2] from cellsAt.cg (cat2 he69445 (rdI hc69446) (cat2 he69450 (rdI hc69451) (cat2 he69455 (rdI hc69456) (rdI hc69457)))) (ha69441 _ (Ok.subS (by simp) H.ok))) ty39 rfl (fun h => nomatch h) rfl rfl) rfl rfl <| ne (E_alloc H ty39 (zs := [.int .u64 0, .int .u64 0, .int .u64 0, .int .u64 0]) rfl) rfl rfl ?_
           rintro _ wd69459 ⟨b69458, rfl, H⟩
           refine ne (E_stB (k := 0) (cs := [.int .u64 x69436.1, .int .u64 x69436.2.1, .int .u64 x69436.2.2.1, .int .u64 x69436.2.2.2]) (vs' := [.int .u64 x69436.1, .int .u64 x69436.2.1, .int .u64 x69436.2.2.1, .int .u64 x69436.2.2.2]) H rfl ty39 rfl rfl rfl rfl (one_cons rfl (one_cons rfl (one_cons rfl (one_cons rfl one_nil)))) (by simp) rfl) rfl rfl ?_
           rintro _ wd69460 H
           dsimp only [List.set] at H
           refine WL_nil <| x_then <| C_seq <| R_dr (.take 0 (.take 1 (.take 2 (.take 4 (.take 5 (.take 6 (.take 9 (.one 3 (.one 7 (.take 8 .done)))))))))) (fun w' => Ok w' ρ [Box b69458 [.int .u64 x69436.1, .int .u64 x69436.2.1, .int .u64 x69436.2.2.1, .int .u64 x69436.2.2.2], Arr v58264 4 c58265, Mp (kA 4 .u64) (Value.int .i64) b34976 (mset (mset x58268 ([x67001.2.1.1, x67001.2.1.2.1, x67001.2.1.2.2.1, x67001.2.1.2.2.2]) ((mget x58268 ([x67001.2.1.1, x67001.2.1.2.1, x67001.2.1.2.2.1, x67001.2.1.2.2.2])).getD 0)) ([x67001.2.1.1, x67001.2.1.2.1, x67001.2.1.2.2.1, x67001.2.1.2.2.2]) (w64 (((mget x58268 ([x67001.2.1.1, x67001.2.1.2.1, x67001.2.1.2.2.1, x67001.2.1.2.2.2])).getD 0) + 1))), Box b67041 [v67013, .int .u64 x67001.2.1.1, .int .u64 x67001.2.1.2.1, .int .u64 x67001.2.1.2.2.1, .int .u64 x67001.2.1.2.2.2, .int .i64 x67001.2.2.1, .int .i64 x67001.2.2.2], Arr v68956 4 c68957]) (by kernel_rfl) (by kernel_rfl) (by kernel_rfl) (H.drew.okS (by simp)) ?_
           replace H := H.drew
           refine dq (v := .agg #[.int .u64 x69436.1, .int .u64 x69436.2.1, .int .u64 x69436.2.2.1, .int .u64 x69436.2.2.2]) rfl (fun _ hw => Q_ldB (k := 0) (cs := [.int .u64 x69436.1, .int .u64 x69436.2.1, .int .u64 x69436.2.2.1, .int .u64 x69436.2.2.2]) hw rfl ty39 rfl rfl rfl (fun h => nomatch h) rfl) rfl rfl <| dq (v := .pointer (some ⟨b67041, 1, none⟩)) rfl (fun _ _ => Q_fld Tryz.underlying41 rfl ty39 (by decide) rfl rfl) rfl rfl <| dq (v := .agg #[.int .u64 x67001.2.1.1, .int .u64 x67001.2.1.2.1, .int .u64 x67001.2.1.2.2.1, .int .u64 x67001.2.1.2.2.2]) rfl (fun _ hw => Q_ldB (k := 3) (cs := [.int .u64 x67001.2.1.1, .int .u64 x67001.2.1.2.1, .int .u64 x67001.2.1.2.2.1, .int .u64 x67001.2.1.2.2.2]) hw rfl ty39 rfl rfl rfl (fun h => nomatch h) rfl) rfl rfl <| dq (v := .agg #[.int .u64 x69436.1, .int .u64 x69436.2.1, .int .u64 x69436.2.2.1, .int .u64 x69436.2.2.2]) rfl (fun _ hw => Q_ldB (k := 0) (cs := [.int .u64 x69436.1, .int .u64 x69436.2.1, .int .u64 x69436.2.2.1, .int .u64 x69436.2.2.2]) hw rfl ty39 rfl rfl rfl (fun h => nomatch h) rfl) rfl rfl <| dq (v := .pointer (some ⟨b67041, 1, none⟩)) rfl (fun _ _ => Q_fld Tryz.underlying41 rfl ty39 (by decide) rfl rfl) rfl rfl <| dq (v := .agg #[.int .u64 x67001.2.1.1, .int .u64 x67001.2.1.2.1, .int .u64 x67001.2.1.2.2.1, .int .u64 x67001.2.1.2.2.2]) rfl (fun _ hw => Q_ldB (k := 3) (cs := [.int .u64 x67001.2.1.1, .int .u64 x67001.2.1.2.1, .int .u64 x67001.2.1.2.2.1, .int .u64 x67001.2.1.2.2.2]) hw rfl ty39 rfl rfl rfl (fun h => nomatch h) rfl) rfl rfl <| dq rfl (fun _ _ => Q_move rfl) rfl rfl ?_
           obtain ⟨q69461, hq69461, hB69433⟩ := bnd hB69433
           refine d1 (de rfl (E_call fn89 rfl (c_89 H gle   hq69461)) rfl rfl ?_)
           rintro _ wd69467 ⟨x69463, x69464, x69465, x69466, rfl, rfl, H⟩
           try dsimp only at hB69433
           refine ⟨H.okS (by simp), ?_⟩
           obtain ⟨q69468, hq69468, hB69433⟩ := bnd hB69433
           refine d1 (de rfl (E_call fn90 rfl (c_90 H gle   hq69468)) rfl rfl ?_)
           rintro _ wd69474 ⟨x69470, x69471, x69472, x69473, rfl, rfl, H⟩
           try dsimp only at hB69433
           refine ⟨H.okS (by simp), ?_⟩
           refine dq (v := .agg #[.int .u64 x69463, .int .u64 x69464, .int .u64 x69465, .int .u64 x69466, .int .u64 x69470, .int .u64 x69471, .int .u64 x69472, .int .u64 x69473]) rfl (fun _ _ => Q_buildAF (zs := [.int .u64 0, .int .u64 0, .int .u64 0, .int .u64 0, .int .u64 0, .int .u64 0, .int .u64 0, .int .u64 0]) (res := [.int .u64 x69463, .int .u64 x69464, .int .u64 x69465, .int .u64 x69466, .int .u64 x69470, .int .u64 x69471, .int .u64 x69472, .int .u64 x69473]) (parts := [(0, .tmp 46), (1, .tmp 50)]) (ps := [(0, [.int .u64 x69463, .int .u64 x69464, .int .u64 x69465, .int .u64 x69466]), (4, [.int .u64 x69470, .int .u64 x69471, .int .u64 x69472, .int .u64 x69473])]) ty151 rfl Tryz.underlying151 ty39 rfl ⟨rfl, rfl, by simp, ⟨rfl, rfl, by simp, trivial⟩⟩ rfl) rfl rfl <| DL_nil <| x_then ?_
           obtain ⟨o69690, ho69690, hB69433⟩ := bnd hB69433
           refine C_cutQ (fun a w' => ∃ (v69686 : Value) (c69687 : (List Value)) (x69688 : (List (Int × Int × Int × Int))), x69688 = o69690 ∧ rdL (eP (eI .u64) (eP (eI .u64) (eP (eI .u64) (eI .u64)))) ρ x69688 c69687 ∧ Fr 69 a [(4, .map (some b34976)), (6, .pointer (some ⟨b67041, 0, none⟩)), (7, v69686), (19, v1), (20, .int .i64 (x2.length : Int)), (21, .int .i64 x58263), (37, v58264), (38, .int .i64 (x58266.length : Int)), (39, .int .i64 x68955)] ∧ Hp C w' ρ (Arr v58264 4 c58265 :: Mp (kA 4 .u64) (Value.int .i64) b34976 (mset (mset x58268 ([x67001.2.1.1, x67001.2.1.2.1, x67001.2.1.2.2.1, x67001.2.1.2.2.2]) ((mget x58268 ([x67001.2.1.1, x67001.2.1.2.1, x67001.2.1.2.2.1, x67001.2.1.2.2.2])).getD 0)) ([x67001.2.1.1, x67001.2.1.2.1, x67001.2.1.2.2.1, x67001.2.1.2.2.2]) (w64 (((mget x58268 ([x67001.2.1.1, x67001.2.1.2.1, x67001.2.1.2.2.1, x67001.2.1.2.2.2])).getD 0) + 1))) :: Box b67041 [v67013, .int .u64 x67001.2.1.1, .int .u64 x67001.2.1.2.1, .int .u64 x67001.2.1.2.2.1, .int .u64 x67001.2.1.2.2.2, .int .i64 x67001.2.2.1, .int .i64 x67001.2.2.2] :: Arr v69686 4 c69687 :: hs)) ?_ ?_
           ·refine C_block ?_
            replace H := H.f4
            replace H := H.f4
            replace H := H.f4
            replace H := H.f4
            replace H := H.drop 4 rfl
            dsimp only [List.eraseIdx] at H
            refine C_iter (f := fun s => F_nfa_Bytes_l2 N x69463 x69464 x69465 x69466 x69470 x69471 x69472 x69473 s.1 s.2) ho69690 (fun s a w' => ∃ (v69761 : Value) (c69762 : (List Value)) (x69760 : Int) (x69763 : (List (Int × Int × Int × Int))), (x69760, x69763) = s ∧ rdL (eP (eI .u64) (eP (eI .u64) (eP (eI .u64) (eI .u64)))) ρ x69763 c69762 ∧ Fr 69 a [(4, .map (some b34976)), (6, .pointer (some ⟨b67041, 0, none⟩)), (7, v69761), (19, v1), (20, .int .i64 (x2.length : Int)), (21, .int .i64 x58263), (37, v58264), (38, .int .i64 (x58266.length : Int)), (39, .int .i64 x68955), (51, .agg #[.int .u64 x69463, .int .u64 x69464, .int .u64 x69465, .int .u64 x69466, .int .u64 x69470, .int .u64 x69471, .int .u64 x69472, .int .u64 x69473]), (52, .int .i64 x69760)] ∧ Hp C w' ρ (Arr v58264 4 c58265 :: Mp (kA 4 .u64) (Value.int .i64) b34976 (mset (mset x58268 ([x67001.2.1.1, x67001.2.1.2.1, x67001.2.1.2.2.1, x67001.2.1.2.2.2]) ((mget x58268 ([x67001.2.1.1, x67001.2.1.2.1, x67001.2.1.2.2.1, x67001.2.1.2.2.2])).getD 0)) ([x67001.2.1.1, x67001.2.1.2.1, x67001.2.1.2.2.1, x67001.2.1.2.2.2]) (w64 (((mget x58268 ([x67001.2.1.1, x67001.2.1.2.1, x67001.2.1.2.2.1, x67001.2.1.2.2.2])).getD 0) + 1))) :: Box b67041 [v67013, .int .u64 x67001.2.1.1, .int .u64 x67001.2.1.2.1, .int .u64 x67001.2.1.2.2.1, .int .u64 x67001.2.1.2.2.2, .int .i64 x67001.2.2.1, .int .i64 x67001.2.2.2] :: Arr v69761 4 c69762 :: hs)) ?_ ?_
            ·exact fun a hf => ⟨v68956, c68957, 0, x68958, rfl, r68959, hf.sub ⟨rfl, rfl, rfl, rfl, rfl, rfl, rfl, rfl, rfl, rfl, rfl, trivial⟩, H⟩
            ·rintro s o69834 a wd69837 ⟨v69761, c69762, x69760, x69763, rfl, r69764, hf, H⟩ hB69835 hO69836
             replace hB69835 : F_nfa_Bytes_l2 N x69463 x69464 x69465 x69466 x69470 x69471 x69472 x69473 x69760 x69763 = some o69834 := hB69835
             unfold F_nfa_Bytes_l2 at hB69835
             refine CW.at hf <| C_seq <| R_nd <| nq (Q_lss rfl rfl) rfl rfl <| WL_nil <| x_then <| C_seq ?_
             refine C_cond rfl (fun hb => ?_) (fun hb => ?_)
             ·replace hB69835 := itT hb hB69835
              refine C_skip <| x_then ?_
              obtain ⟨o69871, ho69871, hB69835⟩ := bnd hB69835
              refine C_cut (fun a w' => ∃ (v69867 : Value) (c69868 : (List Value)) (x69869 : (List (Int × Int × Int × Int))), x69869 = o69871 ∧ rdL (eP (eI .u64) (eP (eI .u64) (eP (eI .u64) (eI .u64)))) ρ x69869 c69868 ∧ Fr 69 a [(4, .map (some b34976)), (6, .pointer (some ⟨b67041, 0, none⟩)), (7, v69867), (19, v1), (20, .int .i64 (x2.length : Int)), (21, .int .i64 x58263), (37, v58264), (38, .int .i64 (x58266.length : Int)), (39, .int .i64 x68955), (51, .agg #[.int .u64 x69463, .int .u64 x69464, .int .u64 x69465, .int .u64 x69466, .int .u64 x69470, .int .u64 x69471, .int .u64 x69472, .int .u64 x69473]), (52, .int .i64 x69760)] ∧ Hp C w' ρ (Arr v58264 4 c58265 :: Mp (kA 4 .u64) (Value.int .i64) b34976 (mset (mset x58268 ([x67001.2.1.1, x67001.2.1.2.1, x67001.2.1.2.2.1, x67001.2.1.2.2.2]) ((mget x58268 ([x67001.2.1.1, x67001.2.1.2.1, x67001.2.1.2.2.1, x67001.2.1.2.2.2])).getD 0)) ([x67001.2.1.1, x67001.2.1.2.1, x67001.2.1.2.2.1, x67001.2.1.2.2.2]) (w64 (((mget x58268 ([x67001.2.1.1, x67001.2.1.2.1, x67001.2.1.2.2.1, x67001.2.1.2.2.2])).getD 0) + 1))) :: Box b67041 [v67013, .int .u64 x67001.2.1.1, .int .u64 x67001.2.1.2.1, .int .u64 x67001.2.1.2.2.1, .int .u64 x67001.2.1.2.2.2, .int .i64 x67001.2.2.1, .int .i64 x67001.2.2.2] :: Arr v69867 4 c69868 :: hs)) ?_ ?_
              ·refine C_block <| C_seq <| R_nd ?_
               obtain ⟨x69872, hx69872, ho69871⟩ := bnd ho69871
               refine nq (v := .agg #[.int .u64 x69872.1, .int .u64 x69872.2.1, .int .u64 x69872.2.2.1, .int .u64 x69872.2.2.2]) (Q_ixN (xs := [(x69463, x69464, x69465, x69466), (x69470, x69471, x69472, x69473)]) (fun y => [.int .u64 y.1, .int .u64 y.2.1, .int .u64 y.2.2.1, .int .u64 y.2.2.2]) (fun _ => rfl) rfl hx69872 Tryz.underlying151 rfl rfl ty39) rfl rfl <| ne (E_alloc H ty39 (zs := [.int .u64 0, .int .u64 0, .int .u64 0, .int .u64 0]) rfl) rfl rfl ?_
               rintro _ wd69874 ⟨b69873, rfl, H⟩
               refine ne (E_stB (k := 0) (cs := [.int .u64 x69872.1, .int .u64 x69872.2.1, .int .u64 x69872.2.2.1, .int .u64 x69872.2.2.2]) (vs' := [.int .u64 x69872.1, .int .u64 x69872.2.1, .int .u64 x69872.2.2.1, .int .u64 x69872.2.2.2]) H rfl ty39 rfl rfl rfl rfl (one_cons rfl (one_cons rfl (one_cons rfl (one_cons rfl one_nil)))) (by simp) rfl) rfl rfl ?_
               rintro _ wd69875 H
               dsimp only [List.set] at H
               refine WL_nil <| x_then <| C_seq <| R_nd <| nq (v := .agg #[.int .u64 x69872.1, .int .u64 x69872.2.1, .int .u64 x69872.2.2.1, .int .u64 x69872.2.2.2]) (Q_ldB (k := 0) (cs := [.int .u64 x69872.1, .int .u64 x69872.2.1, .int .u64 x69872.2.2.1, .int .u64 x69872.2.2.2]) H.ok rfl ty39 rfl rfl rfl (fun h => nomatch h) rfl) rfl rfl ?_
               obtain ⟨q69876, hq69876, ho69871⟩ := bnd ho69871
               refine ne (E_call fn75 rfl (c_75 H gle   hq69876)) rfl rfl ?_
               rintro _ wd69878 ⟨rfl, rfl, H⟩
               try dsimp only at ho69871
               refine nq (Q_not rfl) rfl rfl <| WL_nil <| x_then ?_
               obtain ⟨o69891, ho69891, ho69871⟩ := bnd ho69871
               refine C_cutQ (fun a w' => ∃ (v69887 : Value) (c69888 : (List Value)) (x69889 : (List (Int × Int × Int × Int))), x69889 = o69891 ∧ rdL (eP (eI .u64) (eP (eI .u64) (eP (eI .u64) (eI .u64)))) ρ x69889 c69888 ∧ Fr 69 a [(4, .map (some b34976)), (6, .pointer (some ⟨b67041, 0, none⟩)), (7, v69887), (19, v1), (20, .int .i64 (x2.length : Int)), (21, .int .i64 x58263), (37, v58264), (38, .int .i64 (x58266.length : Int)), (39, .int .i64 x68955), (51, .agg #[.int .u64 x69463, .int .u64 x69464, .int .u64 x69465, .int .u64 x69466, .int .u64 x69470, .int .u64 x69471, .int .u64 x69472, .int .u64 x69473]), (52, .int .i64 x69760)] ∧ Hp C w' ρ (Arr v58264 4 c58265 :: Mp (kA 4 .u64) (Value.int .i64) b34976 (mset (mset x58268 ([x67001.2.1.1, x67001.2.1.2.1, x67001.2.1.2.2.1, x67001.2.1.2.2.2]) ((mget x58268 ([x67001.2.1.1, x67001.2.1.2.1, x67001.2.1.2.2.1, x67001.2.1.2.2.2])).getD 0)) ([x67001.2.1.1, x67001.2.1.2.1, x67001.2.1.2.2.1, x67001.2.1.2.2.2]) (w64 (((mget x58268 ([x67001.2.1.1, x67001.2.1.2.1, x67001.2.1.2.2.1, x67001.2.1.2.2.2])).getD 0) + 1))) :: Box b67041 [v67013, .int .u64 x67001.2.1.1, .int .u64 x67001.2.1.2.1, .int .u64 x67001.2.1.2.2.1, .int .u64 x67001.2.1.2.2.2, .int .i64 x67001.2.2.1, .int .i64 x67001.2.2.2] :: Arr v69887 4 c69888 :: hs)) ?_ ?_
               ·refine C_cond rfl (fun hb => ?_) (fun hb => ?_)
                ·replace ho69891 := itT hb ho69891
                 refine R_nd <| nq (Q_move rfl) rfl rfl <| nq (v := .agg #[.int .u64 x69872.1, .int .u64 x69872.2.1, .int .u64 x69872.2.2.1, .int .u64 x69872.2.2.2]) (Q_ldB (k := 0) (cs := [.int .u64 x69872.1, .int .u64 x69872.2.1, .int .u64 x69872.2.2.1, .int .u64 x69872.2.2.2]) H.ok rfl ty39 rfl rfl rfl (fun h => nomatch h) rfl) rfl rfl <| ne (E_bslice (xs := [.tmp 59]) (vs := [.agg #[.int .u64 x69872.1, .int .u64 x69872.2.1, .int .u64 x69872.2.2.1, .int .u64 x69872.2.2.2]]) H Tryz.underlying72 ty39 (by decide) (cs := [.int .u64 x69872.1, .int .u64 x69872.2.1, .int .u64 x69872.2.2.1, .int .u64 x69872.2.2.2]) rfl (sz_cons rfl sz_nil) rfl (by simp) (by simp) rfl rfl) rfl rfl ?_
                 rintro _ wd69893 ⟨b69892, rfl, H⟩
                 obtain ⟨x69894, hx69894, ho69891⟩ := bnd ho69891
                 obtain ⟨ha69895a, ha69895b⟩ := app_some hx69894
                 have r69897 : rdL (eP (eI .u64) (eP (eI .u64) (eP (eI .u64) (eI .u64)))) ρ x69894 (c69762 ++ ([.int .u64 x69872.1, .int .u64 x69872.2.1, .int .u64 x69872.2.2.1, .int .u64 x69872.2.2.2])) := ha69895b ▸ rdL.app r69764 (show rdL (eP (eI .u64) (eP (eI .u64) (eP (eI .u64) (eI .u64)))) ρ ([(x69872.1, x69872.2.1, x69872.2.2.1, x69872.2.2.2)]) ([.int .u64 x69872.1, .int .u64 x69872.2.1, .int .u64 x69872.2.2.1, .int .u64 x69872.2.2.2]) from ⟨([.int .u64 x69872.1, .int .u64 x69872.2.1, .int .u64 x69872.2.2.1, .int .u64 x69872.2.2.2]), _, rfl, ⟨[.int .u64 x69872.1], _, rfl, rfl, ⟨[.int .u64 x69872.2.1], _, rfl, rfl, ⟨[.int .u64 x69872.2.2.1], _, rfl, rfl, rfl⟩⟩⟩, rdL.nil⟩)
                 refine ne (E_append (k := 5) H rfl Tryz.underlying72 ty39 rfl (by decide) (by decide) rfl rfl (Src.ofArr (k := 0) H.ok rfl) (rdL.one (show rdL (eP (eI .u64) (eP (eI .u64) (eP (eI .u64) (eI .u64)))) ρ ([(x69872.1, x69872.2.1, x69872.2.2.1, x69872.2.2.2)]) ([.int .u64 x69872.1, .int .u64 x69872.2.1, .int .u64 x69872.2.2.1, .int .u64 x69872.2.2.2]) from ⟨([.int .u64 x69872.1, .int .u64 x69872.2.1, .int .u64 x69872.2.2.1, .int .u64 x69872.2.2.2]), _, rfl, ⟨[.int .u64 x69872.1], _, rfl, rfl, ⟨[.int .u64 x69872.2.1], _, rfl, rfl, ⟨[.int .u64 x69872.2.2.1], _, rfl, rfl, rfl⟩⟩⟩, rdL.nil⟩)) (app_fit r69764 (show rdL (eP (eI .u64) (eP (eI .u64) (eP (eI .u64) (eI .u64)))) ρ ([(x69872.1, x69872.2.1, x69872.2.2.1, x69872.2.2.2)]) ([.int .u64 x69872.1, .int .u64 x69872.2.1, .int .u64 x69872.2.2.1, .int .u64 x69872.2.2.2]) from ⟨([.int .u64 x69872.1, .int .u64 x69872.2.1, .int .u64 x69872.2.2.1, .int .u64 x69872.2.2.2]), _, rfl, ⟨[.int .u64 x69872.1], _, rfl, rfl, ⟨[.int .u64 x69872.2.1], _, rfl, rfl, ⟨[.int .u64 x69872.2.2.1], _, rfl, rfl, rfl⟩⟩⟩, rdL.nil⟩) ha69895a)) rfl rfl ?_
                 rintro v69896 wd69899 ⟨H, hc69898⟩
                 dsimp only [List.set] at H
                 refine nq (Q_assign rfl) rfl rfl <| WL_nil ?_
                 replace H := H.f5
                 replace H := H.f5
                 replace H := H.f5
                 replace H := H.f5
                 replace H := H.drop 4 rfl
                 dsimp only [List.eraseIdx] at H
                 replace H := H.drop 4 rfl
                 dsimp only [List.eraseIdx] at H
                 obtain rfl := Option.some.inj ho69891
                 refine x_A fun a hf => ⟨v69896, (c69762 ++ ([.int .u64 x69872.1, .int .u64 x69872.2.1, .int .u64 x69872.2.2.1, .int .u64 x69872.2.2.2])), x69894, rfl, r69897, hf.sub ⟨rfl, rfl, rfl, rfl, rfl, rfl, rfl, rfl, rfl, rfl, rfl, trivial⟩, H⟩
                ·replace ho69891 := itF hb ho69891
                 refine C_skip ?_
                 replace H := H.f4
                 replace H := H.f4
                 replace H := H.f4
                 replace H := H.f4
                 replace H := H.drop 4 rfl
                 dsimp only [List.eraseIdx] at H
                 obtain rfl := Option.some.inj ho69891
                 refine x_A fun a hf => ⟨v69761, c69762, x69763, rfl, r69764, hf.sub ⟨rfl, rfl, rfl, rfl, rfl, rfl, rfl, rfl, rfl, rfl, rfl, trivial⟩, H⟩
               ·rintro a wd69900 ⟨v69887, c69888, x69889, rfl, r69890, hf, H⟩
                try dsimp only at ho69871
                refine XX.at hf <| x_block ?_
                replace H := H.f3
                replace H := H.f3
                replace H := H.f3
                replace H := H.f3
                obtain rfl := Option.some.inj ho69871
                refine x_A fun a hf => ⟨v69887, c69888, x69889, rfl, r69890, hf.sub ⟨rfl, rfl, rfl, rfl, rfl, rfl, rfl, rfl, rfl, rfl, rfl, trivial⟩, H⟩
              ·rintro a wd69901 ⟨v69867, c69868, x69869, rfl, r69870, hf, H⟩
               try dsimp only at hB69835
               refine CW.at hf <| R_nd <| nq (Q_add rfl rfl) rfl rfl <| nq (Q_move rfl) rfl rfl <| WL_nil ?_
               replace H := H.f3
               replace H := H.f3
               replace H := H.f3
               replace H := H.f3
               obtain rfl := Option.some.inj hB69835
               refine x_A fun a hf => ⟨_, rfl, v69867, c69868, w64 (x69760 + 1), x69869, rfl, r69870, hf.sub ⟨rfl, rfl, rfl, rfl, rfl, rfl, rfl, rfl, rfl, rfl, rfl, trivial⟩, H⟩
             ·replace hB69835 := itF hb hB69835
              refine C_exit <| x_then_exit <| x_then_exit <| x_block_exit ?_
              replace H := H.f3
              replace H := H.f3
              replace H := H.f3
              replace H := H.f3
              obtain rfl := Option.some.inj hB69835
              obtain rfl := hO69836 _ rfl
              refine x_A fun a hf => ⟨v69761, c69762, x69763, rfl, r69764, hf.sub ⟨rfl, rfl, rfl, rfl, rfl, rfl, rfl, rfl, rfl, trivial⟩, H⟩
           ·rintro a wd69902 ⟨v69686, c69687, x69688, rfl, r69689, hf, H⟩
            try dsimp only at hB69433
            refine XX.at hf <| x_block <| x_then <| R_nd <| nq (Q_add rfl rfl) rfl rfl <| nq (Q_move rfl) rfl rfl <| WL_nil ?_
            replace H := H.f3
            replace H := H.f3
            replace H := H.f3
            replace H := H.f3
            obtain rfl := Option.some.inj hB69433
            refine x_A fun a hf => ⟨_, rfl, v69686, c69687, w64 (x68955 + 1), x69688, rfl, r69689, hf.sub ⟨rfl, rfl, rfl, rfl, rfl, rfl, rfl, rfl, rfl, trivial⟩, H⟩
          ·replace hB69433 := itF hb hB69433
           refine C_exit <| x_then_exit <| x_then_exit <| x_block_exit ?_
           replace H := H.f3
           replace H := H.f2
           replace H := H.drop 2 rfl
           dsimp only [List.eraseIdx] at H
           replace H := H.drop 2 rfl
           dsimp only [List.eraseIdx] at H
           obtain rfl := Option.some.inj hB69433
           obtain rfl := hO69434 _ rfl
           refine x_A fun a hf => ⟨v68956, c68957, x68958, rfl, r68959, hf.sub ⟨rfl, rfl, rfl, rfl, rfl, trivial⟩, H⟩
        ·rintro a wd69903 ⟨v68478, c68479, x68480, rfl, r68481, hf, H⟩
         try dsimp only at ho67000
         refine XX.at hf <| x_then <| R_nd <| nq (Q_move rfl) rfl rfl <| nq (Q_assign rfl) rfl rfl <| WL_nil <| x_block ?_
         replace H := H.f1
         obtain rfl := Option.some.inj ho67000
         refine x_A fun a hf => ⟨v68478, c68479, x68480, (mset (mset x58268 ([x67001.2.1.1, x67001.2.1.2.1, x67001.2.1.2.2.1, x67001.2.1.2.2.2]) ((mget x58268 ([x67001.2.1.1, x67001.2.1.2.1, x67001.2.1.2.2.1, x67001.2.1.2.2.2])).getD 0)) ([x67001.2.1.1, x67001.2.1.2.1, x67001.2.1.2.2.1, x67001.2.1.2.2.2]) (w64 (((mget x58268 ([x67001.2.1.1, x67001.2.1.2.1, x67001.2.1.2.2.1, x67001.2.1.2.2.2])).getD 0) + 1))), rfl, r68481, hf.sub ⟨rfl, rfl, rfl, rfl, rfl, trivial⟩, H⟩
     ·rintro a wd69904 ⟨v66995, c66996, x66997, x66999, rfl, r66998, hf, H⟩
      try dsimp only at hB64089
      refine CW.at hf <| R_nd <| nq (Q_add rfl rfl) rfl rfl <| nq (Q_move rfl) rfl rfl <| WL_nil ?_
      replace H := H.f1
      replace H := H.f1
      obtain rfl := Option.some.inj hB64089
      refine x_A fun a hf => ⟨_, rfl, v66995, c66996, w64 (x58263 + 1), x66997, x66999, rfl, r66998, hf.sub ⟨rfl, rfl, rfl, rfl, rfl, trivial⟩, H⟩
    ·replace hB64089 := itF hb hB64089
     refine C_exit <| x_then_exit <| x_then_exit <| x_block_exit ?_
     replace H := H.drop 1 rfl
     dsimp only [List.eraseIdx] at H
     obtain rfl := Option.some.inj hB64089
     obtain rfl := hO64090 _ rfl
     refine x_A fun a hf => ⟨v58264, c58265, x58266, rfl, r58267, hf.sub ⟨rfl, trivial⟩, H⟩
  ·rintro a wd69905 ⟨v52439, c52440, x52441, rfl, r52442, hf, H⟩
   try dsimp only at hF
   refine XX.at hf <| x_then <| C_seq <| R_nd <| nq (Q_move rfl) rfl rfl ?_
   obtain ⟨x69906, hx69906, hF⟩ := bnd hF
   refine ne (E_call fn91 rfl (c_91 H gle gl18 r52442 hx69906)) rfl rfl ?_
   rintro _ wd69908 ⟨rfl, r69907, H⟩
   refine WL_nil <| x_then <| C_seq <| R_nd <| nq (Q_move rfl) rfl rfl <| nq (Q_assign rfl) rfl rfl <| WL_nil <| x_then <| C_ret ?_
   obtain rfl := Option.some.inj hF
   exact fn_ret (l := [.tmp 2]) (vs := [v52439]) rfl rfl rfl ⟨v52439, (x69906.flatMap raw4), x69906, rfl, rfl, r69907, H⟩
theorem c_95 {N : Nat} {C : Cx} {w : World} {ρ : View} {hs : List Hl} {gV : Nat → Value} {x1 : Int} {x2 : Int} {x3 : Int} {x4 : Int} {x5 : Int} (H : Hp C w ρ (hs)) (_gle : GErrs ρ 394 errIds gV) {r : Bool} (hF : F_dofferref01_Has N x1 x2 x3 x4 x5 = some r) :
  Calls Tryz.prog 95 [.agg #[.int .u64 x1, .int .u64 x2, .int .u64 x3, .int .u64 x4], .int .i64 x5].toArray w (Rets (fun v w' => (∃ (x12 : Bool), x12 = r ∧ .bool x12 = v ∧ Hp C w' ρ (hs)))) := by
 unfold F_dofferref01_Has at hF
 have h0 : Tryz.f95.body = some _ := rfl
 refine fn_calls' Tryz.func95 h0 (n := 16) rfl (by simp) <| C_seq <| R_nd <| ne (E_box H (vs := [.int .u64 x1, .int .u64 x2, .int .u64 x3, .int .u64 x4]) rfl rfl) rfl rfl ?_
 rintro _ wd14 ⟨b13, rfl, H⟩
 refine nq (Q_assign rfl) rfl rfl <| WL_nil <| x_then <| C_seq <| R_nd <| nq (Q_move rfl) rfl rfl <| nq (Q_quo rfl rfl (by decide)) rfl rfl ?_
 obtain ⟨x15, hx15, hF⟩ := bnd hF
 have hn16 := idx_lt (N := 4) (xs := [x1, x2, x3, x4]) rfl hx15
 refine nq (v := .pointer (some ⟨b13, 0 + (w64 (x5.tdiv 64)).toNat * 1, none⟩)) (Q_idxA hn16.1 hn16.2 Tryz.underlying38 ty37 rfl rfl) rfl rfl <| nq (v := .int .u64 x15) (Q_ldX (j := 0) (o := 0) (k := .u64) (xs := [x1, x2, x3, x4]) H.ok rfl ty37 rfl rfl hx15) rfl rfl <| nq (Q_move rfl) rfl rfl <| nq (Q_rem rfl rfl (by decide)) rfl rfl <| nq (Q_cvI ⟨_, Tryz.underlying3⟩ Tryz.underlying143 rfl) rfl rfl ?_
 obtain ⟨x17, hx17, hF⟩ := bnd hF
 refine nq (Q_shl rfl rfl (nn_some hx17)) rfl rfl ?_
 obtain ⟨x18, hx18, hF⟩ := bnd hF
 refine nq (Q_quo rfl rfl (nz_some hx18)) rfl rfl <| nq (Q_rem rfl rfl (by decide)) rfl rfl <| nq (Q_eql rfl rfl) rfl rfl <| nq (Q_assign rfl) rfl rfl <| WL_nil <| x_then <| C_ret ?_
 replace H := H.drop 0 rfl
 dsimp only [List.eraseIdx] at H
 obtain rfl := Option.some.inj hF
 exact fn_ret (l := [.tmp 4]) (vs := [.bool (((IntKind.wrap .u64 (x15.tdiv (shlI .u64 1 (IntKind.wrap .u64 (x5.tmod 64))))).tmod 2) == 1)]) rfl rfl rfl ⟨((IntKind.wrap .u64 (x15.tdiv (shlI .u64 1 (IntKind.wrap .u64 (x5.tmod 64))))).tmod 2) == 1, rfl, rfl, H⟩
theorem c_96 {N : Nat} {C : Cx} {w : World} {ρ : View} {hs : List Hl} {gV : Nat → Value} {v1 : Value} {x2 : (List Bool)} (H : Hp C w ρ (hs)) (_gle : GErrs ρ 394 errIds gV) (r3 : RdSl ρ eB v1 x2) {r : (Int × Int × Int × Int)} (hF : F_dofferref01_Of N x2 = some r) :
  Calls Tryz.prog 96 [v1].toArray w (Rets (fun v w' => (∃ (x414 : Int) (x415 : Int) (x416 : Int) (x417 : Int), (x414, x415, x416, x417) = r ∧ .agg #[.int .u64 x414, .int .u64 x415, .int .u64 x416, .int .u64 x417] = v ∧ Hp C w' ρ (hs)))) := by
 unfold F_dofferref01_Of at hF
 have h0 : Tryz.f96.body = some _ := rfl
 refine fn_calls' Tryz.func96 h0 (n := 25) rfl (by simp) <| C_seq <| R_nd <| ne (E_alloc H ty38 (zs := [.int .u64 0, .int .u64 0, .int .u64 0, .int .u64 0]) rfl) rfl rfl ?_
 rintro _ wd419 ⟨b418, rfl, H⟩
 refine WL_nil <| x_then <| C_seq <| R_nd <| nq (v := .agg #[.int .u64 0, .int .u64 0, .int .u64 0, .int .u64 0]) (Q_build0 (zs := [.int .u64 0, .int .u64 0, .int .u64 0, .int .u64 0]) ty38 Tryz.underlying38 ty37 rfl) rfl rfl <| ne (E_alloc H ty38 (zs := [.int .u64 0, .int .u64 0, .int .u64 0, .int .u64 0]) rfl) rfl rfl ?_
 rintro _ wd421 ⟨b420, rfl, H⟩
 refine ne (E_stB (k := 0) (cs := [.int .u64 0, .int .u64 0, .int .u64 0, .int .u64 0]) (vs' := [.int .u64 0, .int .u64 0, .int .u64 0, .int .u64 0]) H rfl ty38 rfl rfl rfl rfl (one_cons rfl (one_cons rfl (one_cons rfl (one_cons rfl one_nil)))) (by simp) rfl) rfl rfl ?_
 rintro _ wd422 H
 dsimp only [List.set] at H
 refine WL_nil <| x_then <| C_seq <| C_seq <| R_nd <| nq (Q_assign rfl) rfl rfl <| WL_nil <| x_then ?_
 obtain ⟨o626, ho626, hF⟩ := bnd hF
 refine C_cutQ (fun a w' => ∃ (x622 : Int) (x623 : Int) (x624 : Int) (x625 : Int), (x622, x623, x624, x625) = o626 ∧ Fr 25 a [(2, .pointer (some ⟨b418, 0, none⟩)), (3, .pointer (some ⟨b420, 0, none⟩))] ∧ Hp C w' ρ (Box b418 [.int .u64 0, .int .u64 0, .int .u64 0, .int .u64 0] :: Box b420 [.int .u64 x622, .int .u64 x623, .int .u64 x624, .int .u64 x625] :: hs)) ?_ ?_
 ·refine C_block ?_
  replace H := H.f1
  refine C_iter (f := fun s => F_dofferref01_Of_l0 N x2 s.1 s.2.1 s.2.2.1 s.2.2.2.1 s.2.2.2.2) ho626 (fun s a w' => ∃ (x692 : Int) (x693 : Int) (x694 : Int) (x695 : Int) (x696 : Int), (x692, x693, x694, x695, x696) = s ∧ Fr 25 a [(0, v1), (2, .pointer (some ⟨b418, 0, none⟩)), (3, .pointer (some ⟨b420, 0, none⟩)), (4, .int .i64 x696)] ∧ Hp C w' ρ (Box b418 [.int .u64 0, .int .u64 0, .int .u64 0, .int .u64 0] :: Box b420 [.int .u64 x692, .int .u64 x693, .int .u64 x694, .int .u64 x695] :: hs)) ?_ ?_
  ·exact fun a hf => ⟨0, 0, 0, 0, 0, rfl, hf.sub ⟨rfl, rfl, rfl, rfl, trivial⟩, H⟩
  ·rintro s o762 a wd765 ⟨x692, x693, x694, x695, x696, rfl, hf, H⟩ hB763 hO764
   replace hB763 : F_dofferref01_Of_l0 N x2 x692 x693 x694 x695 x696 = some o762 := hB763
   unfold F_dofferref01_Of_l0 at hB763
   refine CW.at hf <| C_seq <| C_seq <| R_nd <| nq (Q_move rfl) rfl rfl <| nq (Q_lss rfl rfl) rfl rfl <| WL_nil <| x_then ?_
   refine C_cond rfl (fun hb => ?_) (fun hb => ?_)
   ·replace hB763 := itT hb hB763
    refine C_skip <| x_then ?_
    obtain ⟨o797, ho797, hB763⟩ := bnd hB763
    refine C_cut (fun a w' => ∃ (x793 : Int) (x794 : Int) (x795 : Int) (x796 : Int), (x793, x794, x795, x796) = o797 ∧ Fr 25 a [(0, v1), (2, .pointer (some ⟨b418, 0, none⟩)), (3, .pointer (some ⟨b420, 0, none⟩)), (4, .int .i64 x696)] ∧ Hp C w' ρ (Box b418 [.int .u64 0, .int .u64 0, .int .u64 0, .int .u64 0] :: Box b420 [.int .u64 x793, .int .u64 x794, .int .u64 x795, .int .u64 x796] :: hs)) ?_ ?_
    ·refine C_block <| C_seq <| R_nd <| nq (Q_move rfl) rfl rfl <| nq (Q_move rfl) rfl rfl ?_
     obtain ⟨x798, hx798, ho797⟩ := bnd ho797
     obtain ⟨b799, o800, c801, hc802, ha803, hi804⟩ := idxR r3 hx798
     refine nq (Q_idx hi804 Tryz.underlying65 ty4 rfl rfl) rfl rfl <| nq (v := .bool x798) (Q_ld (show cellsAt _ _ _ [.bool x798] from (show _ = [_] from hc802) ▸ (ha803.up H.ok.view)) ty4 rfl (fun _ => rfl) rfl rfl) rfl rfl <| WL_nil <| x_then ?_
     obtain ⟨o816, ho816, ho797⟩ := bnd ho797
     refine C_cutQ (fun a w' => ∃ (x812 : Int) (x813 : Int) (x814 : Int) (x815 : Int), (x812, x813, x814, x815) = o816 ∧ Fr 25 a [(0, v1), (2, .pointer (some ⟨b418, 0, none⟩)), (3, .pointer (some ⟨b420, 0, none⟩)), (4, .int .i64 x696)] ∧ Hp C w' ρ (Box b418 [.int .u64 0, .int .u64 0, .int .u64 0, .int .u64 0] :: Box b420 [.int .u64 x812, .int .u64 x813, .int .u64 x814, .int .u64 x815] :: hs)) ?_ ?_
     ·refine C_cond rfl (fun hb => ?_) (fun hb => ?_)
      ·replace ho816 := itT hb ho816
       refine R_nd <| nq (Q_move rfl) rfl rfl <| nq (Q_quo rfl rfl (by decide)) rfl rfl ?_
       obtain ⟨x817, hx817, ho816⟩ := bnd ho816
       have hn818 := idx_lt (N := 4) (xs := [x692, x693, x694, x695]) rfl hx817
       refine nq (v := .pointer (some ⟨b420, 0 + (w64 (x696.tdiv 64)).toNat * 1, none⟩)) (Q_idxA hn818.1 hn818.2 Tryz.underlying38 ty37 rfl rfl) rfl rfl <| nq (v := .int .u64 x817) (Q_ldX (j := 1) (o := 0) (k := .u64) (xs := [x692, x693, x694, x695]) H.ok rfl ty37 rfl rfl hx817) rfl rfl <| nq (Q_move rfl) rfl rfl <| nq (Q_rem rfl rfl (by decide)) rfl rfl <| nq (Q_cvI ⟨_, Tryz.underlying3⟩ Tryz.underlying143 rfl) rfl rfl ?_
       obtain ⟨x819, hx819, ho816⟩ := bnd ho816
       refine nq (Q_shl rfl rfl (nn_some hx819)) rfl rfl <| nq (Q_add rfl rfl) rfl rfl ?_
       obtain ⟨x820, hx820, ho816⟩ := bnd ho816
       have hn821 := idx_lt (N := 4) (xs := [x692, x693, x694, x695]) rfl hx820
       refine nq (v := .pointer (some ⟨b420, 0 + (w64 (x696.tdiv 64)).toNat * 1, none⟩)) (Q_idxA hn821.1 hn821.2 Tryz.underlying38 ty37 rfl rfl) rfl rfl ?_
       obtain ⟨x822, hx822, ho816⟩ := bnd ho816
       refine ne (E_stX (j := 1) (o := 0) (N := 4) (k := .u64) (xs := [x692, x693, x694, x695]) (vs' := [.int .u64 (x822.getD 0 0), .int .u64 (x822.getD 1 0), .int .u64 (x822.getD 2 0), .int .u64 (x822.getD 3 0)]) H rfl ty37 rfl rfl rfl rfl hx822 (by simp) rfl) rfl rfl ?_
       rintro _ wd823 H
       dsimp only [List.set] at H
       refine WL_nil ?_
       replace H := H.f1
       replace H := H.f1
       obtain rfl := Option.some.inj ho816
       refine x_A fun a hf => ⟨x822.getD 0 0, x822.getD 1 0, x822.getD 2 0, x822.getD 3 0, rfl, hf.sub ⟨rfl, rfl, rfl, rfl, trivial⟩, H⟩
      ·replace ho816 := itF hb ho816
       refine C_skip ?_
       replace H := H.f1
       replace H := H.f1
       obtain rfl := Option.some.inj ho816
       refine x_A fun a hf => ⟨x692, x693, x694, x695, rfl, hf.sub ⟨rfl, rfl, rfl, rfl, trivial⟩, H⟩
     ·rintro a wd824 ⟨x812, x813, x814, x815, rfl, hf, H⟩
      try dsimp only at ho797
      refine XX.at hf <| x_block ?_
      replace H := H.f1
      replace H := H.f1
      obtain rfl := Option.some.inj ho797
      refine x_A fun a hf => ⟨x812, x813, x814, x815, rfl, hf.sub ⟨rfl, rfl, rfl, rfl, trivial⟩, H⟩
    ·rintro a wd825 ⟨x793, x794, x795, x796, rfl, hf, H⟩
     try dsimp only at hB763
     refine CW.at hf <| R_nd <| nq (Q_move rfl) rfl rfl <| nq (Q_add rfl rfl) rfl rfl <| nq (Q_assign rfl) rfl rfl <| WL_nil ?_
     replace H := H.f1
     replace H := H.f1
     obtain rfl := Option.some.inj hB763
     refine x_A fun a hf => ⟨_, rfl, x793, x794, x795, x796, w64 (x696 + 1), rfl, hf.sub ⟨rfl, rfl, rfl, rfl, trivial⟩, H⟩
   ·replace hB763 := itF hb hB763
    refine C_exit <| x_then_exit <| x_then_exit <| x_block_exit ?_
    replace H := H.f1
    replace H := H.f1
    obtain rfl := Option.some.inj hB763
    obtain rfl := hO764 _ rfl
    refine x_A fun a hf => ⟨x692, x693, x694, x695, rfl, hf.sub ⟨rfl, rfl, trivial⟩, H⟩
 ·rintro a wd826 ⟨x622, x623, x624, x625, rfl, hf, H⟩
  try dsimp only at hF
  refine XX.at hf <| x_then <| C_seq <| R_nd <| nq (v := .agg #[.int .u64 x622, .int .u64 x623, .int .u64 x624, .int .u64 x625]) (Q_ldB (k := 1) (cs := [.int .u64 x622, .int .u64 x623, .int .u64 x624, .int .u64 x625]) H.ok rfl ty38 rfl rfl rfl (fun h => nomatch h) rfl) rfl rfl <| ne (E_stB (k := 0) (cs := [.int .u64 x622, .int .u64 x623, .int .u64 x624, .int .u64 x625]) (vs' := [.int .u64 x622, .int .u64 x623, .int .u64 x624, .int .u64 x625]) H rfl ty38 rfl rfl rfl rfl (one_cons rfl (one_cons rfl (one_cons rfl (one_cons rfl one_nil)))) (by simp) rfl) rfl rfl ?_
  rintro _ wd827 H
  dsimp only [List.set] at H
  refine WL_nil <| x_then <| C_ret ?_
  have hRV : RV Tryz.prog wd827 [(2, .pointer (some ⟨b418, 0, none⟩))] [.cell 2 38] [.agg #[.int .u64 x622, .int .u64 x623, .int .u64 x624, .int .u64 x625]] := ⟨⟨_, rfl, run_ldv ty38 rfl (fun h => nomatch h) (box_at (H.ok.get (k := 0) rfl) 0 4)⟩, trivial⟩
  replace H := H.drop 0 rfl
  dsimp only [List.eraseIdx] at H
  replace H := H.drop 0 rfl
  dsimp only [List.eraseIdx] at H
  obtain rfl := Option.some.inj hF
  exact fn_retV (rs := [.cell 2 38]) (vs := [.agg #[.int .u64 x622, .int .u64 x623, .int .u64 x624, .int .u64 x625]]) rfl hRV ⟨x622, x623, x624, x625, rfl, rfl, H⟩
theorem c_44 {N : Nat} {C : Cx} {w : World} {ρ : View} {hs : List Hl} {gV : Nat → Value} {v1 : Value} {v4 : Value} {x2 : (List ((List Int) × (Int × Int × Int × Int) × Int × Int))} {x5 : (List Int)} (H : Hp C w ρ (hs)) (gle : GErrs ρ 394 errIds gV) (r3 : RdSl ρ (eP (eL (eI .i64)) (eP (eP (eI .u64) (eP (eI .u64) (eP (eI .u64) (eI .u64)))) (eP (eI .i64) (eI .i64)))) v1 x2) (_r6 : RdSl ρ (eI .i64) v4 x5) {r : (List (Int × Int × Int × Int))} (hF : F_dofferref15_Bytes N x2 x5 = some r) :
  Calls Tryz.prog 44 [.agg #[v1, v4]].toArray w (Rets (fun v w' => (∃ (v61230 : Value) (c61231 : (List Value)) (x61232 : (List (Int × Int × Int × Int))), x61232 = r ∧ v61230 = v ∧ rdL (eP (eI .u64) (eP (eI .u64) (eP (eI .u64) (eI .u64)))) ρ x61232 c61231 ∧ Hp C w' ρ (Arr v61230 4 c61231 :: hs)))) := by
 unfold F_dofferref15_Bytes at hF
 have h0 : Tryz.f44.body = some _ := rfl
 refine fn_calls' Tryz.func44 h0 (n := 87) rfl (by simp) <| C_seq <| R_nd <| ne (E_box H (vs := [v1, v4]) rfl rfl) rfl rfl ?_
 rintro _ wd61235 ⟨b61234, rfl, H⟩
 refine nq (Q_assign rfl) rfl rfl <| WL_nil <| x_then <| C_seq <| R_nd <| ne (E_bslice0 H Tryz.underlying23 ty3) rfl rfl ?_
 rintro _ wd61237 ⟨b61236, rfl, H⟩
 refine nq (Q_assign rfl) rfl rfl <| WL_nil <| x_then <| C_seq <| R_nd <| ne (E_bslice0 H Tryz.underlying155 ty65) rfl rfl ?_
 rintro _ wd61239 ⟨b61238, rfl, H⟩
 replace H := H.njoin0 eB
 refine nq (Q_assign rfl) rfl rfl <| WL_nil <| x_then <| C_seq <| C_seq <| R_nd <| nq (Q_assign rfl) rfl rfl <| WL_nil <| x_then ?_
 obtain ⟨o91754, ho91754, hF⟩ := bnd hF
 refine C_cutQ (fun a w' => ∃ (v91751 : Value) (c91752 : (List Value)) (x91753 : (List (List Bool))), x91753 = o91754 ∧ Fr 87 a [(4, v91751)] ∧ Hp C w' ρ (NA eB 1 v91751 c91752 x91753 :: hs)) ?_ ?_
 ·refine C_block ?_
  replace H := H.f1
  replace H := H.f2
  refine C_iter (f := fun s => F_dofferref15_Bytes_l0 N x2 s.1 s.2.1 s.2.2) ho91754 (fun s a w' => ∃ (v101924 : Value) (c101925 : (List Value)) (v101928 : Value) (c101929 : (List Value)) (x101926 : (List Int)) (x101930 : (List (List Bool))) (x101931 : Int), (x101926, x101930, x101931) = s ∧ rdL (eI .i64) ρ x101926 c101925 ∧ Fr 87 a [(1, .pointer (some ⟨b61234, 0, none⟩)), (3, v101924), (4, v101928), (5, .int .i64 x101931)] ∧ Hp C w' ρ (Box b61234 [v1, v4] :: Arr v101924 1 c101925 :: NA eB 1 v101928 c101929 x101930 :: hs)) ?_ ?_
  ·exact fun a hf => ⟨(.slice (some ⟨b61236, 0, none⟩) 0 0), [], (.slice (some ⟨b61238, 0, none⟩) 0 0), [], [], [], 0, rfl, rdL.nil, hf.sub ⟨rfl, rfl, rfl, rfl, trivial⟩, H⟩
  ·rintro s o112101 a wd112104 ⟨v101924, c101925, v101928, c101929, x101926, x101930, x101931, rfl, r101927, hf, H⟩ hB112102 hO112103
   replace hB112102 : F_dofferref15_Bytes_l0 N x2 x101926 x101930 x101931 = some o112101 := hB112102
   unfold F_dofferref15_Bytes_l0 at hB112102
   refine CW.at hf <| C_seq <| C_seq <| R_nd <| nq (Q_move rfl) rfl rfl <| nq (Q_lss rfl rfl) rfl rfl <| WL_nil <| x_then ?_
   refine C_cond rfl (fun hb => ?_) (fun hb => ?_)
   ·replace hB112102 := itT hb hB112102
    refine C_skip <| x_then ?_
    obtain ⟨o117188, ho117188, hB112102⟩ := bnd hB112102
    refine C_cut (fun a w' => ∃ (v117181 : Value) (c117182 : (List Value)) (v117185 : Value) (c117186 : (List Value)) (x117183 : (List Int)) (x117187 : (List (List Bool))), (x117183, x117187) = o117188 ∧ rdL (eI .i64) ρ x117183 c117182 ∧ Fr 87 a [(1, .pointer (some ⟨b61234, 0, none⟩)), (3, v117181), (4, v117185), (5, .int .i64 x101931)] ∧ Hp C w' ρ (Box b61234 [v1, v4] :: Arr v117181 1 c117182 :: NA eB 1 v117185 c117186 x117187 :: hs)) ?_ ?_
    ·refine C_block <| C_seq <| R_nd <| nq (Q_assign rfl) rfl rfl <| WL_nil <| x_then <| C_seq <| C_seq <| R_nd <| nq (Q_move rfl) rfl rfl <| nq (Q_lenA (k := 1) H.ok rfl r101927 (by decide) Tryz.underlying23 rfl) rfl rfl <| nq (Q_move rfl) rfl rfl <| WL_nil <| x_then ?_
     obtain ⟨o119693, ho119693, ho117188⟩ := bnd ho117188
     refine C_cutQ (fun a w' => ∃ (x119692 : Int), x119692 = o119693 ∧ Fr 87 a [(1, .pointer (some ⟨b61234, 0, none⟩)), (3, v101924), (4, v101928), (5, .int .i64 x101931), (6, .int .i64 x119692)] ∧ Hp C w' ρ (Box b61234 [v1, v4] :: Arr v101924 1 c101925 :: NA eB 1 v101928 c101929 x101930 :: hs)) ?_ ?_
     ·refine C_block ?_
      replace H := H.f2
      replace H := H.f2
      replace H := H.f2
      refine C_iter (f := fun s => F_dofferref15_Bytes_l1 N x2 x101926 x101931 s.1 s.2) ho119693 (fun s a w' => ∃ (x120527 : Int) (x120528 : Int), (x120527, x120528) = s ∧ Fr 87 a [(1, .pointer (some ⟨b61234, 0, none⟩)), (3, v101924), (4, v101928), (5, .int .i64 x101931), (6, .int .i64 x120528), (21, v101924), (22, .int .i64 (x101926.length : Int)), (23, .int .i64 x120527)] ∧ Hp C w' ρ (Box b61234 [v1, v4] :: Arr v101924 1 c101925 :: NA eB 1 v101928 c101929 x101930 :: hs)) ?_ ?_
      ·exact fun a hf => ⟨0, (-1), rfl, hf.sub ⟨rfl, rfl, rfl, rfl, rfl, rfl, rfl, rfl, trivial⟩, H⟩
      ·rintro s o121362 a wd121365 ⟨x120527, x120528, rfl, hf, H⟩ hB121363 hO121364
       replace hB121363 : F_dofferref15_Bytes_l1 N x2 x101926 x101931 x120527 x120528 = some o121362 := hB121363
       unfold F_dofferref15_Bytes_l1 at hB121363
       refine CW.at hf <| C_seq <| R_nd <| nq (Q_lss rfl rfl) rfl rfl <| WL_nil <| x_then <| C_seq ?_
       refine C_cond rfl (fun hb => ?_) (fun hb => ?_)
       ·replace hB121363 := itT hb hB121363
        refine C_skip <| x_then ?_
        obtain ⟨o121781, ho121781, hB121363⟩ := bnd hB121363
        refine C_cut (fun a w' => ∃ (x121780 : Int), x121780 = o121781 ∧ Fr 87 a [(1, .pointer (some ⟨b61234, 0, none⟩)), (3, v101924), (4, v101928), (5, .int .i64 x101931), (6, .int .i64 x121780), (21, v101924), (22, .int .i64 (x101926.length : Int)), (23, .int .i64 x120527)] ∧ Hp C w' ρ (Box b61234 [v1, v4] :: Arr v101924 1 c101925 :: NA eB 1 v101928 c101929 x101930 :: hs)) ?_ ?_
        ·refine C_block <| C_seq <| R_nd <| nq (Q_move rfl) rfl rfl ?_
         obtain ⟨x121782, hx121782, ho121781⟩ := bnd ho121781
         obtain ⟨b121783, o121784, hi121788, hc121786, ha121787⟩ := arr_at (hs := [Arr v101924 1 c101925]) (k := 0) (by decide) (H.okS (by simp)) rfl r101927 hx121782
         refine nq (Q_idx hi121788 Tryz.underlying23 ty3 rfl rfl) rfl rfl <| nq (v := .int .i64 x121782) (Q_ld (show cellsAt _ _ _ [.int .i64 x121782] from (show _ = [_] from hc121786) ▸ (ha121787 _ (Ok.subS (by simp) H.ok))) ty3 rfl (fun _ => rfl) rfl rfl) rfl rfl <| nq (Q_assign rfl) rfl rfl <| nq (Q_assign rfl) rfl rfl <| WL_nil <| x_then <| C_seq <| R_nd <| nq (Q_assign rfl) rfl rfl <| WL_nil <| x_then <| C_seq <| C_seq <| R_nd ?_
         refine nq (v := .pointer (some ⟨b61234, 0, none⟩)) (Q_fld Tryz.underlying29 rfl ty27 (by decide) rfl rfl) rfl rfl <| nq (v := v1) (Q_ldB (k := 0) (cs := [v1]) H.ok rfl ty27 rfl rfl rfl (fun _ => rfl) rfl) rfl rfl <| nq (Q_len Tryz.underlying27 rfl r3) rfl rfl <| nq (Q_move rfl) rfl rfl <| WL_nil <| x_then ?_
         obtain ⟨o121989, ho121989, ho121781⟩ := bnd ho121781
         refine C_cutQ (fun a w' => ∃ (x121988 : Bool), x121988 = o121989 ∧ Fr 87 a [(1, .pointer (some ⟨b61234, 0, none⟩)), (3, v101924), (4, v101928), (5, .int .i64 x101931), (6, .int .i64 x120528), (7, .int .i64 x120527), (9, .bool x121988), (21, v101924), (22, .int .i64 (x101926.length : Int)), (23, .int .i64 x120527)] ∧ Hp C w' ρ (Box b61234 [v1, v4] :: Arr v101924 1 c101925 :: NA eB 1 v101928 c101929 x101930 :: hs)) ?_ ?_
         ·refine C_block ?_
          replace H := H.f2
          replace H := H.f2
          replace H := H.f2
          refine C_iter (f := fun s => F_dofferref15_Bytes_l2 N x2 x101931 x121782 s.1 s.2) ho121989 (fun s a w' => ∃ (x122057 : Int) (x122058 : Bool), (x122057, x122058) = s ∧ Fr 87 a [(1, .pointer (some ⟨b61234, 0, none⟩)), (3, v101924), (4, v101928), (5, .int .i64 x101931), (6, .int .i64 x120528), (7, .int .i64 x120527), (8, .int .i64 x121782), (9, .bool x122058), (21, v101924), (22, .int .i64 (x101926.length : Int)), (23, .int .i64 x120527), (29, v1), (30, .int .i64 (x2.length : Int)), (31, .int .i64 x122057)] ∧ Hp C w' ρ (Box b61234 [v1, v4] :: Arr v101924 1 c101925 :: NA eB 1 v101928 c101929 x101930 :: hs)) ?_ ?_
          ·exact fun a hf => ⟨0, true, rfl, hf.sub ⟨rfl, rfl, rfl, rfl, rfl, rfl, rfl, rfl, rfl, rfl, rfl, rfl, rfl, rfl, trivial⟩, H⟩
          ·rintro s o122123 a wd122126 ⟨x122057, x122058, rfl, hf, H⟩ hB122124 hO122125
           replace hB122124 : F_dofferref15_Bytes_l2 N x2 x101931 x121782 x122057 x122058 = some o122123 := hB122124
           unfold F_dofferref15_Bytes_l2 at hB122124
           refine CW.at hf <| C_seq <| R_nd <| nq (Q_lss rfl rfl) rfl rfl <| WL_nil <| x_then <| C_seq ?_
           refine C_cond rfl (fun hb => ?_) (fun hb => ?_)
           ·replace hB122124 := itT hb hB122124
            refine C_skip <| x_then <| C_seq <| C_block <| C_seq <| R_nd ?_
            obtain ⟨x122127, hx122127, hB122124⟩ := bnd hB122124
            obtain ⟨b122128, o122129, c122130, hc122131, ha122132, hi122133⟩ := idxR r3 hx122127
            refine nq (Q_idx hi122133 Tryz.underlying27 ty126 rfl rfl) rfl rfl ?_
            obtain ⟨c122134, c122135, he122136, hc122137, hc122138⟩ := (id hc122131)
            obtain ⟨v122139, he122140, r122141⟩ := hc122137
            obtain ⟨c122142, c122143, he122144, hc122145, hc122146⟩ := hc122138
            obtain ⟨c122147, c122148, he122149, hc122150, hc122151⟩ := hc122145
            obtain ⟨c122152, c122153, he122154, hc122155, hc122156⟩ := hc122151
            obtain ⟨c122157, c122158, he122159, hc122160, hc122161⟩ := hc122156
            obtain ⟨c122162, c122163, he122164, hc122165, hc122166⟩ := hc122146
            refine nq (v := .agg #[v122139, .int .u64 x122127.2.1.1, .int .u64 x122127.2.1.2.1, .int .u64 x122127.2.1.2.2.1, .int .u64 x122127.2.1.2.2.2, .int .i64 x122127.2.2.1, .int .i64 x122127.2.2.2]) (Q_ld (show cellsAt _ _ _ [v122139, .int .u64 x122127.2.1.1, .int .u64 x122127.2.1.2.1, .int .u64 x122127.2.1.2.2.1, .int .u64 x122127.2.1.2.2.2, .int .i64 x122127.2.2.1, .int .i64 x122127.2.2.2] from cellsAt.cg (cat2 he122136 he122140 (cat2 he122144 (cat2 he122149 (rdI hc122150) (cat2 he122154 (rdI hc122155) (cat2 he122159 (rdI hc122160) (rdI hc122161)))) (cat2 he122164 (rdI hc122165) (rdI hc122166)))) (ha122132.up H.ok.view)) ty126 rfl (fun h => nomatch h) rfl rfl) rfl rfl <| ne (E_alloc H ty126 (zs := [.slice none 0 0, .int .u64 0, .int .u64 0, .int .u64 0, .int .u64 0, .int .i64 0, .int .i64 0]) rfl) rfl rfl ?_
            rintro _ wd122168 ⟨b122167, rfl, H⟩
            refine ne (E_stB (k := 0) (cs := [v122139, .int .u64 x122127.2.1.1, .int .u64 x122127.2.1.2.1, .int .u64 x122127.2.1.2.2.1, .int .u64 x122127.2.1.2.2.2, .int .i64 x122127.2.2.1, .int .i64 x122127.2.2.2]) (vs' := [v122139, .int .u64 x122127.2.1.1, .int .u64 x122127.2.1.2.1, .int .u64 x122127.2.1.2.2.1, .int .u64 x122127.2.1.2.2.2, .int .i64 x122127.2.2.1, .int .i64 x122127.2.2.2]) H rfl ty126 rfl rfl rfl rfl (one_cons (RdSl.one r122141) (one_cons rfl (one_cons rfl (one_cons rfl (one_cons rfl (one_cons rfl (one_cons rfl one_nil))))))) (by simp) rfl) rfl rfl ?_
            rintro _ wd122169 H
            dsimp only [List.set] at H
            refine WL_nil <| x_then ?_
            obtain ⟨o122179, ho122179, hB122124⟩ := bnd hB122124
            refine C_cutQ (fun a w' => ∃ (x122178 : Bool), x122178 = o122179 ∧ Fr 87 a [(1, .pointer (some ⟨b61234, 0, none⟩)), (3, v101924), (4, v101928), (5, .int .i64 x101931), (6, .int .i64 x120528), (7, .int .i64 x120527), (8, .int .i64 x121782), (9, .bool x122178), (21, v101924), (22, .int .i64 (x101926.length : Int)), (23, .int .i64 x120527), (29, v1), (30, .int .i64 (x2.length : Int)), (31, .int .i64 x122057)] ∧ Hp C w' ρ (Box b61234 [v1, v4] :: Arr v101924 1 c101925 :: NA eB 1 v101928 c101929 x101930 :: hs)) ?_ ?_
            ·refine R_dr (.take 0 (.take 1 (.take 2 (.take 3 (.take 4 (.take 6 (.take 7 (.take 8 (.one 5 (.one 9 (.take 10 (.take 11 (.take 12 .done))))))))))))) (fun w' => Ok w' ρ [Box b122167 [v122139, .int .u64 x122127.2.1.1, .int .u64 x122127.2.1.2.1, .int .u64 x122127.2.1.2.2.1, .int .u64 x122127.2.1.2.2.2, .int .i64 x122127.2.2.1, .int .i64 x122127.2.2.2], Box b61234 [v1, v4], Arr v101924 1 c101925, NA eB 1 v101928 c101929 x101930]) (by kernel_rfl) (by kernel_rfl) (by kernel_rfl) (H.drew.okS (by simp)) ?_
             replace H := H.drew
             refine dq rfl (fun _ _ => Q_move rfl) rfl rfl <| dq rfl (fun _ _ => Q_move rfl) rfl rfl ?_
             rcases Bool.eq_false_or_eq_true x122058 with hb | hb
             ·rw [hb]
              replace ho122179 := itT hb ho122179
              refine dgq (v := .pointer (some ⟨b122167, 1, none⟩)) rfl (fun _ _ => Q_fld Tryz.underlying126 rfl ty38 (by decide) rfl rfl) rfl rfl rfl <| dgq (v := .agg #[.int .u64 x122127.2.1.1, .int .u64 x122127.2.1.2.1, .int .u64 x122127.2.1.2.2.1, .int .u64 x122127.2.1.2.2.2]) rfl (fun _ hw => Q_ldB (k := 0) (cs := [.int .u64 x122127.2.1.1, .int .u64 x122127.2.1.2.1, .int .u64 x122127.2.1.2.2.1, .int .u64 x122127.2.1.2.2.2]) hw rfl ty38 rfl rfl rfl (fun h => nomatch h) rfl) rfl rfl rfl <| dgq rfl (fun _ _ => Q_move rfl) rfl rfl rfl <| dgq (v := .pointer (some ⟨b122167, 1, none⟩)) rfl (fun _ _ => Q_fld Tryz.underlying126 rfl ty38 (by decide) rfl rfl) rfl rfl rfl <| dgq (v := .agg #[.int .u64 x122127.2.1.1, .int .u64 x122127.2.1.2.1, .int .u64 x122127.2.1.2.2.1, .int .u64 x122127.2.1.2.2.2]) rfl (fun _ hw => Q_ldB (k := 0) (cs := [.int .u64 x122127.2.1.1, .int .u64 x122127.2.1.2.1, .int .u64 x122127.2.1.2.2.1, .int .u64 x122127.2.1.2.2.2]) hw rfl ty38 rfl rfl rfl (fun h => nomatch h) rfl) rfl rfl rfl <| dgq rfl (fun _ _ => Q_move rfl) rfl rfl rfl ?_
              obtain ⟨q122180, hq122180, ho122179⟩ := bnd ho122179
              refine d1 (dge rfl (E_call fn95 rfl (c_95 H gle   hq122180)) rfl rfl rfl ?_)
              rintro _ wd122183 ⟨x122182, rfl, rfl, H⟩
              try dsimp only at ho122179
              refine ⟨H.okS (by simp), ?_⟩
              obtain ⟨q122184, hq122184, ho122179⟩ := bnd ho122179
              refine d1 (dge rfl (E_call fn95 rfl (c_95 H gle   hq122184)) rfl rfl rfl ?_)
              rintro _ wd122187 ⟨x122186, rfl, rfl, H⟩
              try dsimp only at ho122179
              refine ⟨H.okS (by simp), ?_⟩
              refine dgq (v := .bool (x122182 == x122186)) rfl (fun _ _ => Q_eqlB Tryz.underlying4 rfl rfl) rfl rfl rfl <| dq rfl (fun _ _ => Q_pickT rfl rfl) rfl rfl <| dq rfl (fun _ _ => Q_assign rfl) rfl rfl <| DL_nil ?_
              replace H := H.f3
              replace H := H.f3
              replace H := H.f3
              replace H := H.drop 3 rfl
              dsimp only [List.eraseIdx] at H
              obtain rfl := Option.some.inj ho122179
              refine x_A fun a hf => ⟨x122182 == x122186, rfl, hf.sub ⟨rfl, rfl, rfl, rfl, rfl, rfl, rfl, rfl, rfl, rfl, rfl, rfl, rfl, rfl, trivial⟩, H⟩
             ·rw [hb]
              replace ho122179 := itF hb ho122179
              refine dgs rfl rfl rfl rfl rfl <| dgs rfl rfl rfl rfl rfl <| dgs rfl rfl rfl rfl rfl <| dgs rfl rfl rfl rfl rfl <| dgs rfl rfl rfl rfl rfl <| dgs rfl rfl rfl rfl rfl ?_
              refine d1 (dges rfl rfl rfl rfl rfl ?_)
              refine d1 (dges rfl rfl rfl rfl rfl ?_)
              refine dgs rfl rfl rfl rfl rfl <| dq rfl (fun _ _ => Q_pickF rfl rfl) rfl rfl <| dq rfl (fun _ _ => Q_assign rfl) rfl rfl <| DL_nil ?_
              replace H := H.f3
              replace H := H.f3
              replace H := H.f3
              replace H := H.drop 3 rfl
              dsimp only [List.eraseIdx] at H
              obtain rfl := Option.some.inj ho122179
              refine x_A fun a hf => ⟨false, rfl, hf.sub ⟨rfl, rfl, rfl, rfl, rfl, rfl, rfl, rfl, rfl, rfl, rfl, rfl, rfl, rfl, trivial⟩, H⟩
            ·rintro a wd122188 ⟨x122178, rfl, hf, H⟩
             try dsimp only at hB122124
             refine XX.at hf <| x_block <| x_then <| R_nd <| nq (Q_add rfl rfl) rfl rfl <| nq (Q_move rfl) rfl rfl <| WL_nil ?_
             replace H := H.f2
             replace H := H.f2
             replace H := H.f2
             obtain rfl := Option.some.inj hB122124
             refine x_A fun a hf => ⟨_, rfl, w64 (x122057 + 1), x122178, rfl, hf.sub ⟨rfl, rfl, rfl, rfl, rfl, rfl, rfl, rfl, rfl, rfl, rfl, rfl, rfl, rfl, trivial⟩, H⟩
           ·replace hB122124 := itF hb hB122124
            refine C_exit <| x_then_exit <| x_then_exit <| x_block_exit ?_
            replace H := H.f2
            replace H := H.f2
            replace H := H.f2
            obtain rfl := Option.some.inj hB122124
            obtain rfl := hO122125 _ rfl
            refine x_A fun a hf => ⟨x122058, rfl, hf.sub ⟨rfl, rfl, rfl, rfl, rfl, rfl, rfl, rfl, rfl, rfl, trivial⟩, H⟩
         ·rintro a wd122189 ⟨x121988, rfl, hf, H⟩
          try dsimp only at ho121781
          refine XX.at hf <| x_then ?_
          obtain ⟨o122191, ho122191, ho121781⟩ := bnd ho121781
          refine C_cut (fun a w' => ∃ (x122190 : Bool), x122190 = o122191 ∧ Fr 87 a [(1, .pointer (some ⟨b61234, 0, none⟩)), (3, v101924), (4, v101928), (5, .int .i64 x101931), (6, .int .i64 x120528), (7, .int .i64 x120527), (21, v101924), (22, .int .i64 (x101926.length : Int)), (23, .int .i64 x120527), (52, .bool x122190)] ∧ Hp C w' ρ (Box b61234 [v1, v4] :: Arr v101924 1 c101925 :: NA eB 1 v101928 c101929 x101930 :: hs)) ?_ ?_
          ·refine R_nd <| nq (Q_move rfl) rfl rfl <| nq (Q_move rfl) rfl rfl ?_
           rcases Bool.eq_false_or_eq_true x121988 with hb | hb
           ·rw [hb]
            replace ho122191 := itT hb ho122191
            refine gq (Q_move rfl) rfl rfl rfl <| gq (Q_lss rfl rfl) rfl rfl rfl <| nq (Q_pickT rfl rfl) rfl rfl <| WL_nil ?_
            replace H := H.f2
            replace H := H.f2
            replace H := H.f2
            obtain rfl := Option.some.inj ho122191
            refine x_A fun a hf => ⟨decide (x120528 < 0), rfl, hf.sub ⟨rfl, rfl, rfl, rfl, rfl, rfl, rfl, rfl, rfl, rfl, trivial⟩, H⟩
           ·rw [hb]
            replace ho122191 := itF hb ho122191
            refine gs rfl rfl rfl rfl <| gs rfl rfl rfl rfl <| nq (Q_pickF rfl rfl) rfl rfl <| WL_nil ?_
            replace H := H.f2
            replace H := H.f2
            replace H := H.f2
            obtain rfl := Option.some.inj ho122191
            refine x_A fun a hf => ⟨false, rfl, hf.sub ⟨rfl, rfl, rfl, rfl, rfl, rfl, rfl, rfl, rfl, rfl, trivial⟩, H⟩
          ·rintro a wd122192 ⟨x122190, rfl, hf, H⟩
           try dsimp only at ho121781
           refine CW.at hf ?_
           obtain ⟨o122194, ho122194, ho121781⟩ := bnd ho121781
           refine C_cutQ (fun a w' => ∃ (x122193 : Int), x122193 = o122194 ∧ Fr 87 a [(1, .pointer (some ⟨b61234, 0, none⟩)), (3, v101924), (4, v101928), (5, .int .i64 x101931), (6, .int .i64 x122193), (21, v101924), (22, .int .i64 (x101926.length : Int)), (23, .int .i64 x120527)] ∧ Hp C w' ρ (Box b61234 [v1, v4] :: Arr v101924 1 c101925 :: NA eB 1 v101928 c101929 x101930 :: hs)) ?_ ?_
           ·refine C_cond rfl (fun hb => ?_) (fun hb => ?_)
            ·replace ho122194 := itT hb ho122194
             refine R_nd <| nq (Q_move rfl) rfl rfl <| nq (Q_assign rfl) rfl rfl <| WL_nil ?_
             replace H := H.f2
             replace H := H.f2
             replace H := H.f2
             obtain rfl := Option.some.inj ho122194
             refine x_A fun a hf => ⟨x120527, rfl, hf.sub ⟨rfl, rfl, rfl, rfl, rfl, rfl, rfl, rfl, trivial⟩, H⟩
            ·replace ho122194 := itF hb ho122194
             refine C_skip ?_
             replace H := H.f2
             replace H := H.f2
             replace H := H.f2
             obtain rfl := Option.some.inj ho122194
             refine x_A fun a hf => ⟨x120528, rfl, hf.sub ⟨rfl, rfl, rfl, rfl, rfl, rfl, rfl, rfl, trivial⟩, H⟩
           ·rintro a wd122195 ⟨x122193, rfl, hf, H⟩
            try dsimp only at ho121781
            refine XX.at hf <| x_block ?_
            replace H := H.f2
            replace H := H.f2
            replace H := H.f2
            obtain rfl := Option.some.inj ho121781
            refine x_A fun a hf => ⟨x122193, rfl, hf.sub ⟨rfl, rfl, rfl, rfl, rfl, rfl, rfl, rfl, trivial⟩, H⟩
        ·rintro a wd122196 ⟨x121780, rfl, hf, H⟩
         try dsimp only at hB121363
         refine CW.at hf <| R_nd <| nq (Q_add rfl rfl) rfl rfl <| nq (Q_move rfl) rfl rfl <| WL_nil ?_
         replace H := H.f2
         replace H := H.f2
         replace H := H.f2
         obtain rfl := Option.some.inj hB121363
         refine x_A fun a hf => ⟨_, rfl, w64 (x120527 + 1), x121780, rfl, hf.sub ⟨rfl, rfl, rfl, rfl, rfl, rfl, rfl, rfl, trivial⟩, H⟩
       ·replace hB121363 := itF hb hB121363
        refine C_exit <| x_then_exit <| x_then_exit <| x_block_exit ?_
        replace H := H.f2
        replace H := H.f2
        replace H := H.f2
        obtain rfl := Option.some.inj hB121363
        obtain rfl := hO121364 _ rfl
        refine x_A fun a hf => ⟨x120528, rfl, hf.sub ⟨rfl, rfl, rfl, rfl, rfl, trivial⟩, H⟩
     ·rintro a wd122197 ⟨x119692, rfl, hf, H⟩
      try dsimp only at ho117188
      refine XX.at hf <| x_then <| C_seq <| C_seq <| R_nd <| nq (Q_move rfl) rfl rfl <| nq (Q_lss rfl rfl) rfl rfl <| WL_nil <| x_then ?_
      obtain ⟨o122226, ho122226, ho117188⟩ := bnd ho117188
      refine C_cutQ (fun a w' => ∃ (v122218 : Value) (c122219 : (List Value)) (v122222 : Value) (c122223 : (List Value)) (x122220 : (List Int)) (x122224 : (List (List Bool))) (x122225 : Int), (x122220, x122224, x122225) = o122226 ∧ rdL (eI .i64) ρ x122220 c122219 ∧ Fr 87 a [(1, .pointer (some ⟨b61234, 0, none⟩)), (3, v122218), (4, v122222), (5, .int .i64 x101931), (6, .int .i64 x122225)] ∧ Hp C w' ρ (Box b61234 [v1, v4] :: Arr v122218 1 c122219 :: NA eB 1 v122222 c122223 x122224 :: hs)) ?_ ?_
      ·refine C_cond rfl (fun hb => ?_) (fun hb => ?_)
       ·replace ho122226 := itT hb ho122226
        refine C_seq <| R_nd <| nq (Q_move rfl) rfl rfl <| nq (Q_lenA (k := 1) H.ok rfl r101927 (by decide) Tryz.underlying23 rfl) rfl rfl <| nq (Q_assign rfl) rfl rfl <| WL_nil <| x_then <| C_seq <| R_nd <| nq (Q_move rfl) rfl rfl <| nq (Q_move rfl) rfl rfl <| ne (E_bslice (xs := [.tmp 60]) (vs := [.int .i64 x101931]) H Tryz.underlying23 ty3 (by decide) (cs := [.int .i64 x101931]) rfl (sz_cons rfl sz_nil) rfl (by simp) (by simp) rfl rfl) rfl rfl ?_
        rintro _ wd122228 ⟨b122227, rfl, H⟩
        obtain ⟨x122229, hx122229, ho122226⟩ := bnd ho122226
        obtain ⟨ha122230a, ha122230b⟩ := app_some hx122229
        have r122232 : rdL (eI .i64) ρ x122229 (c101925 ++ ([.int .i64 x101931])) := ha122230b ▸ rdL.app r101927 (show rdL (eI .i64) ρ ([x101931]) ([.int .i64 x101931]) from ⟨([.int .i64 x101931]), _, rfl, rfl, rdL.nil⟩)
        refine ne (E_append (k := 2) H rfl Tryz.underlying23 ty3 rfl (by decide) (by decide) rfl rfl (Src.ofArr (k := 0) H.ok rfl) (rdL.one (show rdL (eI .i64) ρ ([x101931]) ([.int .i64 x101931]) from ⟨([.int .i64 x101931]), _, rfl, rfl, rdL.nil⟩)) (app_fit r101927 (show rdL (eI .i64) ρ ([x101931]) ([.int .i64 x101931]) from ⟨([.int .i64 x101931]), _, rfl, rfl, rdL.nil⟩) ha122230a)) rfl rfl ?_
        rintro v122231 wd122234 ⟨H, hc122233⟩
        dsimp only [List.set] at H
        refine nq (Q_assign rfl) rfl rfl <| WL_nil <| x_then <| R_nd <| nq (Q_move rfl) rfl rfl ?_
        obtain ⟨x122235, hx122235, ho122226⟩ := bnd ho122226
        obtain ⟨hm122237a, hm122237b, hm122237c⟩ := mk_some hx122235
        refine ne (E_make H Tryz.underlying65 ty4 (zs := [.bool false]) rfl rfl (by decide) (by decide) rfl hm122237a hm122237b) rfl rfl ?_
        rintro _ wd122238 ⟨b122236, rfl, H⟩
        have hl122240 := arr_len (en := eB) (by decide) (H.ok.get (k := 0) rfl) (show rdL eB ρ x122235 (repC (256 : Int).toNat [.bool false]) from (hm122237c ▸ rdL_rep (e := eB) (ρ := ρ) (rfl) _))
        refine ne (E_bslice (xs := [.tmp 64]) (vs := [(.slice (some ⟨b122236, 0, none⟩) (256 : Int).toNat (256 : Int).toNat)]) H Tryz.underlying155 ty65 (by decide) (cs := [(.slice (some ⟨b122236, 0, none⟩) (256 : Int).toNat (256 : Int).toNat)]) rfl (sz_cons (by rw [(arr_cells (H.ok.get (k := 0) rfl)).1]; rfl) sz_nil) (fm1 (arr_cells (H.ok.get (k := 0) rfl)).1) (by simp) (by simp) rfl rfl) rfl rfl ?_
        rintro _ wd122241 ⟨b122239, rfl, H⟩
        replace H := Hp.njoin1 flat_B H (show rdL eB ρ x122235 (repC (256 : Int).toNat [.bool false]) from (hm122237c ▸ rdL_rep (e := eB) (ρ := ρ) (rfl) _))
        obtain ⟨x122242, hx122242, ho122226⟩ := bnd ho122226
        replace H := H.f4
        obtain ⟨hu122244, hj122245⟩ := app_alias (ds := [(.slice (some ⟨b122236, 0, none⟩) (256 : Int).toNat (256 : Int).toNat)]) (j := 0) (u := (.slice (some ⟨b122236, 0, none⟩) (256 : Int).toNat (256 : Int).toNat)) (x := x122235) (H.okS (l := [NA eB 1 v101928 c101929 x101930]) (by simp)) hx122242 rfl rfl
        refine ne (E_appN1 H Tryz.underlying155 ty65 rfl (by decide) rfl rfl hx122242) rfl rfl ?_
        rintro u122243 wd122246 H
        refine nq (Q_assign rfl) rfl rfl <| WL_nil ?_
        replace H := H.f3
        replace H := H.f3
        replace H := H.drop 3 rfl
        dsimp only [List.eraseIdx] at H
        obtain rfl := Option.some.inj ho122226
        refine x_A fun a hf => ⟨v122231, (c101925 ++ ([.int .i64 x101931])), u122243, (c101929 ++ ([(.slice (some ⟨b122236, 0, none⟩) (256 : Int).toNat (256 : Int).toNat)])), x122229, x122242, (x101926.length : Int), rfl, r122232, hf.sub ⟨rfl, rfl, rfl, rfl, rfl, trivial⟩, H⟩
       ·replace ho122226 := itF hb ho122226
        refine C_skip ?_
        replace H := H.f2
        replace H := H.f2
        replace H := H.f2
        obtain rfl := Option.some.inj ho122226
        refine x_A fun a hf => ⟨v101924, c101925, v101928, c101929, x101926, x101930, x119692, rfl, r101927, hf.sub ⟨rfl, rfl, rfl, rfl, rfl, trivial⟩, H⟩
      ·rintro a wd122247 ⟨v122218, c122219, v122222, c122223, x122220, x122224, x122225, rfl, r122221, hf, H⟩
       try dsimp only at ho117188
       refine XX.at hf <| x_then <| R_nd <| nq (Q_move rfl) rfl rfl <| nq (Q_move rfl) rfl rfl ?_
       obtain ⟨x122248, hx122248, ho117188⟩ := bnd ho117188
       obtain ⟨b122249, o122250, u122252, hi122251, hu122253, ha122254, hl122255, hj122256⟩ := na_at1 (by decide) (H.okS (l := [NA eB 1 v122222 c122223 x122224]) (by simp)) hx122248
       refine nq (Q_idx hi122251 Tryz.underlying155 ty65 rfl rfl) rfl rfl <| nq (v := u122252) (Q_ld (ha122254 _ (Ok.subS (by simp) H.ok)) ty65 rfl (fun _ => rfl) rfl rfl) rfl rfl <| nq (Q_move rfl) rfl rfl ?_
       obtain ⟨x122257, hx122257, ho117188⟩ := bnd ho117188
       obtain ⟨b122258, o122259, hi122260, ha122261⟩ := inn_at (by decide) (H.okS (l := [NA eB 1 v122222 c122223 x122224]) (by simp)) hu122253 hj122256 hx122257
       refine nq (Q_idx hi122260 Tryz.underlying65 ty4 rfl rfl) rfl rfl ?_
       replace H := H.f2
       obtain ⟨x122262, hx122262, ho117188⟩ := bnd ho117188
       obtain ⟨x122263, hx122263, ho117188⟩ := bnd ho117188
       refine ne (E_stI1 flat_B H hu122253 hj122256 ty4 rfl hi122260 rfl rfl rfl (show (eB).rd _ _ _ from rfl) hx122262 hx122263) rfl rfl ?_
       rintro _ wd122264 H
       refine WL_nil <| x_block ?_
       replace H := H.f2
       replace H := H.f2
       obtain rfl := Option.some.inj ho117188
       refine x_A fun a hf => ⟨v122218, c122219, v122222, c122223, x122220, x122263, rfl, r122221, hf.sub ⟨rfl, rfl, rfl, rfl, trivial⟩, H⟩
    ·rintro a wd122265 ⟨v117181, c117182, v117185, c117186, x117183, x117187, rfl, r117184, hf, H⟩
     try dsimp only at hB112102
     refine CW.at hf <| R_nd <| nq (Q_move rfl) rfl rfl <| nq (Q_add rfl rfl) rfl rfl <| nq (Q_assign rfl) rfl rfl <| WL_nil ?_
     replace H := H.f2
     replace H := H.f2
     replace H := H.f2
     obtain rfl := Option.some.inj hB112102
     refine x_A fun a hf => ⟨_, rfl, v117181, c117182, v117185, c117186, x117183, x117187, w64 (x101931 + 1), rfl, r117184, hf.sub ⟨rfl, rfl, rfl, rfl, trivial⟩, H⟩
   ·replace hB112102 := itF hb hB112102
    refine C_exit <| x_then_exit <| x_then_exit <| x_block_exit ?_
    replace H := H.f2
    replace H := H.drop 1 rfl
    dsimp only [List.eraseIdx] at H
    replace H := H.drop 1 rfl
    dsimp only [List.eraseIdx] at H
    obtain rfl := Option.some.inj hB112102
    obtain rfl := hO112103 _ rfl
    refine x_A fun a hf => ⟨v101928, c101929, x101930, rfl, hf.sub ⟨rfl, trivial⟩, H⟩
 ·rintro a wd122266 ⟨v91751, c91752, x91753, rfl, hf, H⟩
  try dsimp only at hF
  refine XX.at hf <| x_then <| C_seq <| R_nd <| ne (E_bslice0 H Tryz.underlying74 ty38) rfl rfl ?_
  rintro _ wd122268 ⟨b122267, rfl, H⟩
  refine nq (Q_assign rfl) rfl rfl <| WL_nil <| x_then <| C_seq <| C_seq <| R_nd <| nq (Q_move rfl) rfl rfl <| nq (v := .int .i64 (x91753.length : Int)) (na_len (k := 1) H.ok rfl (N := x91753.length) (Nat.mul_one _).symm (by decide) Tryz.underlying155 rfl) rfl rfl <| nq (Q_move rfl) rfl rfl <| WL_nil <| x_then ?_
  obtain ⟨o122364, ho122364, hF⟩ := bnd hF
  refine C_cutQ (fun a w' => ∃ (v122360 : Value) (c122361 : (List Value)) (x122362 : (List (Int × Int × Int × Int))), x122362 = o122364 ∧ rdL (eP (eI .u64) (eP (eI .u64) (eP (eI .u64) (eI .u64)))) ρ x122362 c122361 ∧ Fr 87 a [(12, v122360)] ∧ Hp C w' ρ (Arr v122360 4 c122361 :: hs)) ?_ ?_
  ·refine C_block ?_
   replace H := H.f1
   replace H := H.f1
   refine C_iter (f := fun s => F_dofferref15_Bytes_l3 N x91753 s.1 s.2) ho122364 (fun s a w' => ∃ (v122394 : Value) (c122395 : (List Value)) (x122396 : (List (Int × Int × Int × Int))) (x122398 : Int), (x122396, x122398) = s ∧ rdL (eP (eI .u64) (eP (eI .u64) (eP (eI .u64) (eI .u64)))) ρ x122396 c122395 ∧ Fr 87 a [(12, v122394), (74, v91751), (75, .int .i64 (x91753.length : Int)), (76, .int .i64 x122398)] ∧ Hp C w' ρ (Arr v122394 4 c122395 :: NA eB 1 v91751 c91752 x91753 :: hs)) ?_ ?_
   ·exact fun a hf => ⟨(.slice (some ⟨b122267, 0, none⟩) 0 0), [], [], 0, rfl, rdL.nil, hf.sub ⟨rfl, rfl, rfl, rfl, trivial⟩, H⟩
   ·rintro s o122428 a wd122431 ⟨v122394, c122395, x122396, x122398, rfl, r122397, hf, H⟩ hB122429 hO122430
    replace hB122429 : F_dofferref15_Bytes_l3 N x91753 x122396 x122398 = some o122428 := hB122429
    unfold F_dofferref15_Bytes_l3 at hB122429
    refine CW.at hf <| C_seq <| R_nd <| nq (Q_lss rfl rfl) rfl rfl <| WL_nil <| x_then <| C_seq ?_
    refine C_cond rfl (fun hb => ?_) (fun hb => ?_)
    ·replace hB122429 := itT hb hB122429
     refine C_skip <| x_then <| C_seq <| C_block <| C_seq <| R_nd ?_
     obtain ⟨x122432, hx122432, hB122429⟩ := bnd hB122429
     obtain ⟨b122433, o122434, u122436, hi122435, hu122437, ha122438, hl122439, hj122440⟩ := na_at1 (by decide) (H.okS (l := [NA eB 1 v91751 c91752 x91753]) (by simp)) hx122432
     refine nq (Q_idx hi122435 Tryz.underlying155 ty65 rfl rfl) rfl rfl <| nq (v := u122436) (Q_ld (ha122438 _ (Ok.subS (by simp) H.ok)) ty65 rfl (fun _ => rfl) rfl rfl) rfl rfl <| nq (Q_assign rfl) rfl rfl <| WL_nil <| x_then <| R_nd <| nq (Q_move rfl) rfl rfl <| nq (Q_move rfl) rfl rfl ?_
     replace H := H.f1
     obtain ⟨q122441, hq122441, hB122429⟩ := bnd hB122429
     obtain ⟨C', ρ', hl122442, HA, hL, hback⟩ := Hp.lend (A := []) (L := [NA eB 1 v91751 c91752 x91753]) (F := Arr v122394 4 c122395 :: hs) H
     refine ne (E_call fn96 rfl (c_96 HA (gle.up hl122442)  (inn_rd (by decide) hl122442 (hL (NA eB 1 v91751 c91752 x91753) (by simp)) hu122437 hj122440) hq122441)) rfl rfl ?_
     rintro _ wd122447 ⟨x122443, x122444, x122445, x122446, rfl, rfl, H⟩
     try dsimp only at hB122429
     replace H := hback H
     dsimp only [List.cons_append, List.nil_append] at H
     refine ne (E_bslice (xs := [.tmp 82]) (vs := [.agg #[.int .u64 x122443, .int .u64 x122444, .int .u64 x122445, .int .u64 x122446]]) H Tryz.underlying74 ty38 (by decide) (cs := [.int .u64 x122443, .int .u64 x122444, .int .u64 x122445, .int .u64 x122446]) rfl (sz_cons rfl sz_nil) rfl (by simp) (by simp) rfl rfl) rfl rfl ?_
     rintro _ wd122449 ⟨b122448, rfl, H⟩
     obtain ⟨x122450, hx122450, hB122429⟩ := bnd hB122429
     obtain ⟨ha122451a, ha122451b⟩ := app_some hx122450
     have r122453 : rdL (eP (eI .u64) (eP (eI .u64) (eP (eI .u64) (eI .u64)))) ρ x122450 (c122395 ++ ([.int .u64 x122443, .int .u64 x122444, .int .u64 x122445, .int .u64 x122446])) := ha122451b ▸ rdL.app r122397 (show rdL (eP (eI .u64) (eP (eI .u64) (eP (eI .u64) (eI .u64)))) ρ ([(x122443, x122444, x122445, x122446)]) ([.int .u64 x122443, .int .u64 x122444, .int .u64 x122445, .int .u64 x122446]) from ⟨([.int .u64 x122443, .int .u64 x122444, .int .u64 x122445, .int .u64 x122446]), _, rfl, ⟨[.int .u64 x122443], _, rfl, rfl, ⟨[.int .u64 x122444], _, rfl, rfl, ⟨[.int .u64 x122445], _, rfl, rfl, rfl⟩⟩⟩, rdL.nil⟩)
     refine ne (E_append (k := 2) H rfl Tryz.underlying74 ty38 rfl (by decide) (by decide) rfl rfl (Src.ofArr (k := 0) H.ok rfl) (rdL.one (show rdL (eP (eI .u64) (eP (eI .u64) (eP (eI .u64) (eI .u64)))) ρ ([(x122443, x122444, x122445, x122446)]) ([.int .u64 x122443, .int .u64 x122444, .int .u64 x122445, .int .u64 x122446]) from ⟨([.int .u64 x122443, .int .u64 x122444, .int .u64 x122445, .int .u64 x122446]), _, rfl, ⟨[.int .u64 x122443], _, rfl, rfl, ⟨[.int .u64 x122444], _, rfl, rfl, ⟨[.int .u64 x122445], _, rfl, rfl, rfl⟩⟩⟩, rdL.nil⟩)) (app_fit r122397 (show rdL (eP (eI .u64) (eP (eI .u64) (eP (eI .u64) (eI .u64)))) ρ ([(x122443, x122444, x122445, x122446)]) ([.int .u64 x122443, .int .u64 x122444, .int .u64 x122445, .int .u64 x122446]) from ⟨([.int .u64 x122443, .int .u64 x122444, .int .u64 x122445, .int .u64 x122446]), _, rfl, ⟨[.int .u64 x122443], _, rfl, rfl, ⟨[.int .u64 x122444], _, rfl, rfl, ⟨[.int .u64 x122445], _, rfl, rfl, rfl⟩⟩⟩, rdL.nil⟩) ha122451a)) rfl rfl ?_
     rintro v122452 wd122455 ⟨H, hc122454⟩
     dsimp only [List.set] at H
     refine nq (Q_assign rfl) rfl rfl <| WL_nil <| x_block <| x_then <| R_nd <| nq (Q_add rfl rfl) rfl rfl <| nq (Q_move rfl) rfl rfl <| WL_nil ?_
     replace H := H.f1
     replace H := H.f2
     replace H := H.drop 2 rfl
     dsimp only [List.eraseIdx] at H
     obtain rfl := Option.some.inj hB122429
     refine x_A fun a hf => ⟨_, rfl, v122452, (c122395 ++ ([.int .u64 x122443, .int .u64 x122444, .int .u64 x122445, .int .u64 x122446])), x122450, w64 (x122398 + 1), rfl, r122453, hf.sub ⟨rfl, rfl, rfl, rfl, trivial⟩, H⟩
    ·replace hB122429 := itF hb hB122429
     refine C_exit <| x_then_exit <| x_then_exit <| x_block_exit ?_
     replace H := H.drop 1 rfl
     dsimp only [List.eraseIdx] at H
     obtain rfl := Option.some.inj hB122429
     obtain rfl := hO122430 _ rfl
     refine x_A fun a hf => ⟨v122394, c122395, x122396, rfl, r122397, hf.sub ⟨rfl, trivial⟩, H⟩
  ·rintro a wd122456 ⟨v122360, c122361, x122362, rfl, r122363, hf, H⟩
   try dsimp only at hF
   refine XX.at hf <| x_then <| C_seq <| R_nd <| nq (Q_move rfl) rfl rfl <| nq (Q_assign rfl) rfl rfl <| WL_nil <| x_then <| C_ret ?_
   obtain rfl := Option.some.inj hF
   exact fn_ret (l := [.tmp 2]) (vs := [v122360]) rfl rfl rfl ⟨v122360, c122361, x122362, rfl, rfl, r122363, H⟩
theorem c_7 {N : Nat} {C : Cx} {w : World} {ρ : View} {hs : List Hl} {gV : Nat → Value} {v1 : Value} {v4 : Value} {x2 : (List ((List Int) × (Int × Int × Int × Int) × Int × Int))} {x5 : (List Int)} (H : Hp C w ρ (hs)) (gle : GErrs ρ 394 errIds gV) (gl18 : GTab ρ 18 .u8 tab_math_bits_deBruijn64tab) (r3 : RdSl ρ (eP (eL (eI .i64)) (eP (eP (eI .u64) (eP (eI .u64) (eP (eI .u64) (eI .u64)))) (eP (eI .i64) (eI .i64)))) v1 x2) (r6 : RdSl ρ (eI .i64) v4 x5) {r : Bool} (hF : F_dofferlaw15_NfaBytes N x2 x5 = some r) :
  Calls Tryz.prog 7 [.agg #[v1, v4]].toArray w (Rets (fun v w' => (∃ (x319 : Bool), x319 = r ∧ .bool x319 = v ∧ Hp C w' ρ (hs)))) := by
 unfold F_dofferlaw15_NfaBytes at hF
 have h0 : Tryz.f7.body = some _ := rfl
 refine fn_calls' Tryz.func7 h0 (n := 47) rfl (by simp) <| C_seq <| R_nd <| ne (E_box H (vs := [v1, v4]) rfl rfl) rfl rfl ?_
 rintro _ wd321 ⟨b320, rfl, H⟩
 refine nq (Q_assign rfl) rfl rfl <| WL_nil <| x_then <| C_seq <| C_seq <| R_nd <| ne (E_call fn15 rfl (Cr.c_run runC15 (fun _ => trivial) H)) rfl rfl ?_
 rintro _ wd322 ⟨rfl, H⟩
 refine nq (Q_not rfl) rfl rfl <| WL_nil <| x_then ?_
 refine C_cond rfl (fun h => nomatch h) (fun _ => ?_)
 refine C_skip <| x_then <| C_seq <| R_nd <| nq (v := .agg #[v1, v4]) (Q_ldB (k := 0) (cs := [v1, v4]) H.ok rfl ty25 rfl rfl rfl (fun h => nomatch h) rfl) rfl rfl ?_
 obtain ⟨q323, hq323, hF⟩ := bnd hF
 refine ne (E_call fn16 rfl (c_16 H gle  r3 r6 hq323)) rfl rfl ?_
 rintro _ wd330 ⟨v325, c326, x327, x328, rfl, rfl, r329, H⟩
 try dsimp only at hF
 refine nq (Q_move rfl) rfl rfl <| nq (Q_extract rfl rfl) rfl rfl <| nq (Q_extract rfl rfl) rfl rfl <| ne (E_alloc H ty29 (zs := [.slice none 0 0, .slice none 0 0]) rfl) rfl rfl ?_
 rintro _ wd332 ⟨b331, rfl, H⟩
 refine ne (E_stB (k := 0) (cs := [v325, v4]) (vs' := [v325, v4]) H rfl ty29 rfl rfl rfl rfl (one_cons (arr_cells (H.ok.get (k := 1) rfl)).2 (one_cons (RdSl.one r6) one_nil)) (by simp) rfl) rfl rfl ?_
 rintro _ wd333 H
 dsimp only [List.set] at H
 refine nq (Q_assign rfl) rfl rfl <| WL_nil <| x_then <| C_seq <| C_seq <| R_nd <| nq (Q_move rfl) rfl rfl <| nq (Q_not rfl) rfl rfl <| WL_nil <| x_then ?_
 refine C_cond rfl (fun hb => ?_) (fun hb => ?_)
 ·replace hF := itT hb hF
  refine C_seq <| R_nd <| nq (Q_assign rfl) rfl rfl <| WL_nil <| x_then <| C_ret <| x_then_ret ?_
  replace H := H.drop 0 rfl
  dsimp only [List.eraseIdx] at H
  replace H := H.drop 0 rfl
  dsimp only [List.eraseIdx] at H
  replace H := H.drop 0 rfl
  dsimp only [List.eraseIdx] at H
  obtain rfl := Option.some.inj hF
  exact fn_ret (l := [.tmp 2]) (vs := [.bool true]) rfl rfl rfl ⟨true, rfl, rfl, H⟩
 ·replace hF := itF hb hF
  refine C_skip <| x_then <| C_seq <| R_nd <| nq (v := .agg #[v1, v4]) (Q_ldB (k := 2) (cs := [v1, v4]) H.ok rfl ty25 rfl rfl rfl (fun h => nomatch h) rfl) rfl rfl ?_
  obtain ⟨q334, hq334, hF⟩ := bnd hF
  refine ne (E_call fn43 rfl (c_43 H gle gl18 r3 r6 hq334)) rfl rfl ?_
  rintro _ wd340 ⟨v336, c337, x338, rfl, rfl, r339, H⟩
  try dsimp only at hF
  refine nq (Q_assign rfl) rfl rfl <| WL_nil <| x_then <| C_seq <| C_seq <| R_nd <| nq (v := .agg #[v325, v4]) (Q_ldB (k := 1) (cs := [v325, v4]) H.ok rfl ty29 rfl rfl rfl (fun h => nomatch h) rfl) rfl rfl ?_
  replace H := H.f2
  obtain ⟨q341, hq341, hF⟩ := bnd hF
  obtain ⟨C', ρ', hl342, HA, hL, hback⟩ := Hp.lend (A := []) (L := [Arr v325 7 c326]) (F := Arr v336 4 c337 :: Box b331 [v325, v4] :: Box b320 [v1, v4] :: hs) H
  refine ne (E_call fn19 rfl (c_19 HA (gle.up hl342)  (arr_rd (by decide) hl342 (hL (Arr v325 7 c326) (by simp)) r329) (r6.up hl342) hq341)) rfl rfl ?_
  rintro _ wd344 ⟨x343, rfl, rfl, H⟩
  try dsimp only at hF
  replace H := hback H
  dsimp only [List.cons_append, List.nil_append] at H
  refine nq (Q_not rfl) rfl rfl <| WL_nil <| x_then ?_
  refine C_cond rfl (fun hb => ?_) (fun hb => ?_)
  ·replace hF := itT hb hF
   refine C_seq <| R_nd <| nq (Q_move rfl) rfl rfl <| nq (Q_lenA (k := 1) H.ok rfl r339 (by decide) Tryz.underlying72 rfl) rfl rfl <| nq (Q_eql rfl rfl) rfl rfl <| nq (Q_assign rfl) rfl rfl <| WL_nil <| x_then <| C_ret <| x_then_ret ?_
   replace H := H.drop 0 rfl
   dsimp only [List.eraseIdx] at H
   replace H := H.drop 0 rfl
   dsimp only [List.eraseIdx] at H
   replace H := H.drop 0 rfl
   dsimp only [List.eraseIdx] at H
   replace H := H.drop 0 rfl
   dsimp only [List.eraseIdx] at H
   obtain rfl := Option.some.inj hF
   exact fn_ret (l := [.tmp 2]) (vs := [.bool ((x338.length : Int) == 0)]) rfl rfl rfl ⟨(x338.length : Int) == 0, rfl, rfl, H⟩
  ·replace hF := itF hb hF
   refine C_skip <| x_then <| C_seq <| R_nd <| nq (v := .agg #[v325, v4]) (Q_ldB (k := 2) (cs := [v325, v4]) H.ok rfl ty29 rfl rfl rfl (fun h => nomatch h) rfl) rfl rfl ?_
   obtain ⟨q345, hq345, hF⟩ := bnd hF
   obtain ⟨C', ρ', hl346, HA, hL, hback⟩ := Hp.lend (A := []) (L := [Arr v325 7 c326]) (F := Arr v336 4 c337 :: Box b331 [v325, v4] :: Box b320 [v1, v4] :: hs) H
   refine ne (E_call fn44 rfl (c_44 HA (gle.up hl346)  (arr_rd (by decide) hl346 (hL (Arr v325 7 c326) (by simp)) r329) (r6.up hl346) hq345)) rfl rfl ?_
   rintro _ wd351 ⟨v347, c348, x349, rfl, rfl, r350, H⟩
   try dsimp only at hF
   replace H := hback H
   replace r350 := rdL.flat (ρ := ρ') (ρ' := ρ) (flat_P (flat_I _) (flat_P (flat_I _) (flat_P (flat_I _) (flat_I _)))) r350
   dsimp only [List.cons_append, List.nil_append] at H
   refine nq (Q_assign rfl) rfl rfl <| WL_nil <| x_then <| C_seq <| C_seq <| R_nd <| nq (Q_move rfl) rfl rfl <| nq (Q_lenA (k := 2) H.ok rfl r339 (by decide) Tryz.underlying72 rfl) rfl rfl <| nq (Q_move rfl) rfl rfl <| nq (Q_lenA (k := 0) H.ok rfl r350 (by decide) Tryz.underlying74 rfl) rfl rfl <| nq (Q_neq rfl rfl) rfl rfl <| WL_nil <| x_then ?_
   refine C_cond rfl (fun hb => ?_) (fun hb => ?_)
   ·replace hF := itT hb hF
    refine C_seq <| R_nd <| nq (Q_assign rfl) rfl rfl <| WL_nil <| x_then <| C_ret <| x_then_ret ?_
    replace H := H.drop 0 rfl
    dsimp only [List.eraseIdx] at H
    replace H := H.drop 0 rfl
    dsimp only [List.eraseIdx] at H
    replace H := H.drop 0 rfl
    dsimp only [List.eraseIdx] at H
    replace H := H.drop 0 rfl
    dsimp only [List.eraseIdx] at H
    replace H := H.drop 0 rfl
    dsimp only [List.eraseIdx] at H
    obtain rfl := Option.some.inj hF
    exact fn_ret (l := [.tmp 2]) (vs := [.bool false]) rfl rfl rfl ⟨false, rfl, rfl, H⟩
   ·replace hF := itF hb hF
    refine C_skip <| x_then <| C_seq <| C_seq <| R_nd <| nq (Q_move rfl) rfl rfl <| nq (Q_lenA (k := 2) H.ok rfl r339 (by decide) Tryz.underlying72 rfl) rfl rfl <| nq (Q_move rfl) rfl rfl <| WL_nil <| x_then ?_
    obtain ⟨o491, ho491, hF⟩ := bnd hF
    refine C_cutQ (fun a w' => .inl () = o491 ∧ Fr 47 a [] ∧ Hp C w' ρ (hs)) ?_ ?_
    ·refine C_block ?_
     replace H := H.f2
     replace H := H.drop 2 rfl
     dsimp only [List.eraseIdx] at H
     replace H := H.drop 2 rfl
     dsimp only [List.eraseIdx] at H
     replace H := H.drop 2 rfl
     dsimp only [List.eraseIdx] at H
     refine C_iter (f := fun s => F_dofferlaw15_NfaBytes_l0 N x338 x349 s) ho491 (fun s a w' => ∃ (x537 : Int), x537 = s ∧ Fr 47 a [(5, v336), (6, v347), (33, .int .i64 (x338.length : Int)), (34, .int .i64 x537)] ∧ Hp C w' ρ (Arr v336 4 c337 :: Arr v347 4 c348 :: hs)) ?_ ?_
     ·exact fun a hf => ⟨0, rfl, hf.sub ⟨rfl, rfl, rfl, rfl, trivial⟩, H⟩
     ·rintro s o583 a wd586 ⟨x537, rfl, hf, H⟩ hB584 hO585
      replace hB584 : F_dofferlaw15_NfaBytes_l0 N x338 x349 x537 = some o583 := hB584
      unfold F_dofferlaw15_NfaBytes_l0 at hB584
      refine CW.at hf <| C_seq <| R_nd <| nq (Q_lss rfl rfl) rfl rfl <| WL_nil <| x_then <| C_seq ?_
      refine C_cond rfl (fun hb => ?_) (fun hb => ?_)
      ·replace hB584 := itT hb hB584
       refine C_skip <| x_then <| C_seq <| C_block <| C_seq <| R_nd <| nq (Q_move rfl) rfl rfl <| nq (Q_assign rfl) rfl rfl <| WL_nil <| x_then <| C_seq <| R_dr (.take 0 (.take 1 (.take 2 (.take 3 (.take 4 (.take 5 (.take 6 (.take 7 (.take 8 .done))))))))) (fun w' => Ok w' ρ [Arr v336 4 c337, Arr v347 4 c348]) (by kernel_rfl) (by kernel_rfl) (by kernel_rfl) (H.drew.okS (by simp)) ?_
       replace H := H.drew
       refine dq rfl (fun _ _ => Q_move rfl) rfl rfl <| dq rfl (fun _ _ => Q_move rfl) rfl rfl ?_
       obtain ⟨x587, hx587, hB584⟩ := bnd hB584
       obtain ⟨b588, o589, hi593, hc591, ha592⟩ := arr_at (hs := [Arr v336 4 c337]) (k := 0) (by decide) (H.okS (by simp)) rfl r339 hx587
       refine dq rfl (fun _ _ => Q_idx hi593 Tryz.underlying72 ty39 rfl rfl) rfl rfl ?_
       obtain ⟨c594, c595, he596, hc597, hc598⟩ := (id hc591)
       obtain ⟨c599, c600, he601, hc602, hc603⟩ := hc598
       obtain ⟨c604, c605, he606, hc607, hc608⟩ := hc603
       refine dq (v := .agg #[.int .u64 x587.1, .int .u64 x587.2.1, .int .u64 x587.2.2.1, .int .u64 x587.2.2.2]) rfl (fun _ hw => Q_ld (show cellsAt _ _ _ [.int .u64 x587.1, .int .u64 x587.2.1, .int .u64 x587.2.2.1, .int .u64 x587.2.2.2] from cellsAt.cg (cat2 he596 (rdI hc597) (cat2 he601 (rdI hc602) (cat2 he606 (rdI hc607) (rdI hc608)))) (ha592 _ (Ok.subS (by simp) hw))) ty39 rfl (fun h => nomatch h) rfl rfl) rfl rfl <| dq rfl (fun _ _ => Q_move rfl) rfl rfl <| dq rfl (fun _ _ => Q_move rfl) rfl rfl ?_
       obtain ⟨x609, hx609, hB584⟩ := bnd hB584
       obtain ⟨b610, o611, hi615, hc613, ha614⟩ := arr_at (hs := [Arr v347 4 c348]) (k := 0) (by decide) (H.okS (by simp)) rfl r350 hx609
       refine dq rfl (fun _ _ => Q_idx hi615 Tryz.underlying74 ty38 rfl rfl) rfl rfl ?_
       obtain ⟨c616, c617, he618, hc619, hc620⟩ := (id hc613)
       obtain ⟨c621, c622, he623, hc624, hc625⟩ := hc620
       obtain ⟨c626, c627, he628, hc629, hc630⟩ := hc625
       refine dq (v := .agg #[.int .u64 x609.1, .int .u64 x609.2.1, .int .u64 x609.2.2.1, .int .u64 x609.2.2.2]) rfl (fun _ hw => Q_ld (show cellsAt _ _ _ [.int .u64 x609.1, .int .u64 x609.2.1, .int .u64 x609.2.2.1, .int .u64 x609.2.2.2] from cellsAt.cg (cat2 he618 (rdI hc619) (cat2 he623 (rdI hc624) (cat2 he628 (rdI hc629) (rdI hc630)))) (ha614 _ (Ok.subS (by simp) hw))) ty38 rfl (fun h => nomatch h) rfl rfl) rfl rfl <| dq (v := .bool (([x587.1, x587.2.1, x587.2.2.1, x587.2.2.2] : List Int) != ([x609.1, x609.2.1, x609.2.2.1, x609.2.2.2] : List Int))) rfl (fun _ _ => Q_neqA (xs := ([x587.1, x587.2.1, x587.2.2.1, x587.2.2.2] : List Int)) (ys := ([x609.1, x609.2.1, x609.2.2.1, x609.2.2.2] : List Int)) Tryz.underlying39 ty37 (by kernel_rfl) Tryz.underlying37 (rdL_ints .u64 ρ ([x587.1, x587.2.1, x587.2.2.1, x587.2.2.2] : List Int)) rfl (rdL_ints .u64 ρ ([x609.1, x609.2.1, x609.2.2.1, x609.2.2.2] : List Int)) rfl rfl rfl) rfl rfl <| DL_nil <| x_then ?_
       refine C_cond rfl (fun hb => ?_) (fun hb => ?_)
       ·replace hB584 := itT hb hB584
        refine C_seq <| R_nd <| nq (Q_assign rfl) rfl rfl <| WL_nil <| x_then <| C_ret <| x_block_ret <| x_then_ret <| x_then_ret <| x_block_ret <| x_then_ret <| x_then_ret ?_
        replace H := H.drop 0 rfl
        dsimp only [List.eraseIdx] at H
        replace H := H.drop 0 rfl
        dsimp only [List.eraseIdx] at H
        obtain rfl := Option.some.inj hB584
        obtain rfl := hO585 _ rfl
        obtain rfl := Option.some.inj (show some _ = some _ from hF)
        exact fn_ret (l := [.tmp 2]) (vs := [.bool false]) rfl rfl rfl ⟨false, rfl, rfl, H⟩
       ·replace hB584 := itF hb hB584
        refine C_skip <| x_block <| x_then <| R_nd <| nq (Q_add rfl rfl) rfl rfl <| nq (Q_move rfl) rfl rfl <| WL_nil ?_
        replace H := H.f1
        replace H := H.f1
        obtain rfl := Option.some.inj hB584
        refine x_A fun a hf => ⟨_, rfl, w64 (x537 + 1), rfl, hf.sub ⟨rfl, rfl, rfl, rfl, trivial⟩, H⟩
      ·replace hB584 := itF hb hB584
       refine C_exit <| x_then_exit <| x_then_exit <| x_block_exit ?_
       replace H := H.drop 0 rfl
       dsimp only [List.eraseIdx] at H
       replace H := H.drop 0 rfl
       dsimp only [List.eraseIdx] at H
       obtain rfl := Option.some.inj hB584
       obtain rfl := hO585 _ rfl
       refine x_A fun a hf => ⟨rfl, hf.sub trivial, H⟩
    ·rintro a wd631 ⟨rfl, hf, H⟩
     try dsimp only at hF
     refine XX.at hf <| x_then <| C_seq <| R_nd <| nq (Q_assign rfl) rfl rfl <| WL_nil <| x_then <| C_ret ?_
     obtain rfl := Option.some.inj hF
     exact fn_ret (l := [.tmp 2]) (vs := [.bool true]) rfl rfl rfl ⟨true, rfl, rfl, H⟩
end Go.Proofs.YtealkahefalaeaaGreatDoor
