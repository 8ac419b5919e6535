/-
  The walks of the law NfaRight, printed by my program, part 1: each function of the code computes its pure function.
-/
import Derived.Test.YtchjfkdljnmmgaaGreatDoorNfaRightD1
import Derived.Test.YtchjfkdljnmmgaaGreatDoorProg
import Derived.Test.YtchjfkdljnmmgaaGreatDoorNfaRightP1
namespace Go.Proofs.YtchjfkdljnmmgaaGreatDoor
open Go Go.Eng
set_option maxRecDepth 100000
theorem ty3 : Ty Tryz.prog 3 1 8 (.int .i64 0) false := ⟨by kernel_rfl, by kernel_rfl⟩
theorem ty22 : Ty Tryz.prog 22 1 24 (.slice none 0 0) false := ⟨by kernel_rfl, by kernel_rfl⟩
theorem ty23 : Ty Tryz.prog 23 1 24 (.slice none 0 0) false := ⟨by kernel_rfl, by kernel_rfl⟩
theorem ty25 : Ty Tryz.prog 25 2 48 (.agg ([.slice none 0 0, .slice none 0 0]).toArray) true := ⟨by kernel_rfl, by kernel_rfl⟩
theorem ty27 : Ty Tryz.prog 27 1 24 (.slice none 0 0) false := ⟨by kernel_rfl, by kernel_rfl⟩
theorem ty29 : Ty Tryz.prog 29 2 48 (.agg ([.slice none 0 0, .slice none 0 0]).toArray) true := ⟨by kernel_rfl, by kernel_rfl⟩
theorem ty54 : Ty Tryz.prog 54 1 8 (.int .u64 0) false := ⟨by kernel_rfl, by kernel_rfl⟩
theorem ty55 : Ty Tryz.prog 55 4 32 (.agg ([.int .u64 0, .int .u64 0, .int .u64 0, .int .u64 0]).toArray) true := ⟨by kernel_rfl, by kernel_rfl⟩
theorem ty56 : Ty Tryz.prog 56 4 32 (.agg ([.int .u64 0, .int .u64 0, .int .u64 0, .int .u64 0]).toArray) true := ⟨by kernel_rfl, by kernel_rfl⟩
theorem ty58 : Ty Tryz.prog 58 7 72 (.agg ([.slice none 0 0, .int .u64 0, .int .u64 0, .int .u64 0, .int .u64 0, .int .i64 0, .int .i64 0]).toArray) true := ⟨by kernel_rfl, by kernel_rfl⟩
theorem ty72 : Ty Tryz.prog 72 7 72 (.agg ([.slice none 0 0, .int .u64 0, .int .u64 0, .int .u64 0, .int .u64 0, .int .i64 0, .int .i64 0]).toArray) true := ⟨by kernel_rfl, by kernel_rfl⟩
theorem st29 : ∃ fs, St Tryz.prog 29 fs [(0, 1), (1, 1)] [.slice none 0 0, .slice none 0 0] := ⟨_, Tryz.underlying29, by kernel_rfl, _, _, _, _, ty29, rfl⟩
theorem st72 : ∃ fs, St Tryz.prog 72 fs [(0, 1), (1, 4), (5, 1), (6, 1)] [.slice none 0 0, .int .u64 0, .int .u64 0, .int .u64 0, .int .u64 0, .int .i64 0, .int .i64 0] := ⟨_, Tryz.underlying72, by kernel_rfl, _, _, _, _, ty72, rfl⟩
theorem hm0 : Tryz.prog.follows .mixedOrders = true := by kernel_rfl
theorem fn7 : HasFn Tryz.prog 7 := ⟨_, _, Tryz.func7, by kernel_rfl, rfl⟩
theorem fn15 : HasFn Tryz.prog 15 := ⟨_, _, Tryz.func15, by kernel_rfl, rfl⟩
theorem fn16 : HasFn Tryz.prog 16 := ⟨_, _, Tryz.func16, by kernel_rfl, rfl⟩
theorem fn17 : HasFn Tryz.prog 17 := ⟨_, _, Tryz.func17, by kernel_rfl, rfl⟩
theorem fn18 : HasFn Tryz.prog 18 := ⟨_, _, Tryz.func18, by kernel_rfl, rfl⟩
theorem fn19 : HasFn Tryz.prog 19 := ⟨_, _, Tryz.func19, by kernel_rfl, rfl⟩
theorem fn20 : HasFn Tryz.prog 20 := ⟨_, _, Tryz.func20, by kernel_rfl, rfl⟩
theorem fn29 : HasFn Tryz.prog 29 := ⟨_, _, Tryz.func29, by kernel_rfl, rfl⟩
theorem fn45 : HasFn Tryz.prog 45 := ⟨_, _, Tryz.func45, by kernel_rfl, rfl⟩
theorem fn46 : HasFn Tryz.prog 46 := ⟨_, _, Tryz.func46, by kernel_rfl, rfl⟩
theorem fn47 : HasFn Tryz.prog 47 := ⟨_, _, Tryz.func47, by kernel_rfl, rfl⟩
theorem fn48 : HasFn Tryz.prog 48 := ⟨_, _, Tryz.func48, by kernel_rfl, rfl⟩
theorem fn49 : HasFn Tryz.prog 49 := ⟨_, _, Tryz.func49, by kernel_rfl, rfl⟩
theorem fn50 : HasFn Tryz.prog 50 := ⟨_, _, Tryz.func50, by kernel_rfl, rfl⟩
theorem fn92 : HasFn Tryz.prog 92 := ⟨_, _, Tryz.func92, by kernel_rfl, rfl⟩
theorem c_7 {N : Nat} {C : Cx} {w : World} {ρ : View} {hs : List Hl} {gV : Nat → Value} {v1 : Value} {v4 : Value} {x2 : (List ((List Int) × (Int × Int × Int × Int) × Int × Int))} {x5 : (List Int)} {x7 : Int} (H : Hp C w ρ (hs)) (_gle : GErrs ρ 373 errIds gV) (r3 : RdSl ρ (eP (eL (eI .i64)) (eP (eP (eI .u64) (eP (eI .u64) (eP (eI .u64) (eI .u64)))) (eP (eI .i64) (eI .i64)))) v1 x2) (r6 : RdSl ρ (eI .i64) v4 x5) {r : ((List ((List Int) × (Int × Int × Int × Int) × Int × Int)) × Bool)} (hF : F_dofferlaw15_Of N x2 x5 x7 = some r) :
  Calls Tryz.prog 7 [.agg #[v1, v4], .int .i64 x7].toArray w (Rets (fun v w' => (∃ (v382 : Value) (c383 : (List Value)) (x384 : (List ((List Int) × (Int × Int × Int × Int) × Int × Int))) (x386 : Bool), (x384, x386) = r ∧ .tuple [.agg #[v382, v4], .bool x386].toArray = v ∧ rdL (eP (eL (eI .i64)) (eP (eP (eI .u64) (eP (eI .u64) (eP (eI .u64) (eI .u64)))) (eP (eI .i64) (eI .i64)))) ρ x384 c383 ∧ Hp C w' ρ (Arr v382 7 c383 :: hs)))) := by
 unfold F_dofferlaw15_Of at hF
 have h0 : Tryz.f7.body = some _ := rfl
 refine fn_calls' Tryz.func7 h0 (n := 52) rfl (by simp) <| C_seq <| R_nd <| ne (E_box H (vs := [v1, v4]) rfl rfl) rfl rfl ?_
 rintro _ wd388 ⟨b387, rfl, H⟩
 refine ne (E_alloc H ty29 (zs := [.slice none 0 0, .slice none 0 0]) rfl) rfl rfl ?_
 rintro _ wd390 ⟨b389, rfl, H⟩
 refine nq (Q_assign rfl) rfl rfl <| WL_nil <| x_then <| C_seq <| R_nd <| nq (v := .pointer (some ⟨b387, 1, none⟩)) (Q_fld Tryz.underlying25 rfl ty23 (by decide) rfl rfl) rfl rfl <| nq (v := v4) (Q_ldB (k := 1) (cs := [v4]) H.ok rfl ty23 rfl rfl rfl (fun _ => rfl) rfl) rfl rfl <| nq (v := .agg #[.slice none 0 0, v4]) (Q_buildS st29.choose_spec (ps := [(1, [v4])]) rfl ⟨rfl, (RdSl.cells r6), by simp, trivial⟩ rfl) rfl rfl <| ne (E_alloc H ty29 (zs := [.slice none 0 0, .slice none 0 0]) rfl) rfl rfl ?_
 rintro _ wd392 ⟨b391, rfl, H⟩
 refine ne (E_stB (k := 0) (cs := [.slice none 0 0, v4]) (vs' := [.slice none 0 0, v4]) H rfl ty29 rfl rfl rfl rfl (one_cons rfl (one_cons (RdSl.one r6) one_nil)) (by simp) rfl) rfl rfl ?_
 rintro _ wd393 H
 dsimp only [List.set] at H
 refine WL_nil <| x_then <| C_seq ?_
 obtain ⟨o395, ho395, hF⟩ := bnd hF
 refine C_cut (fun a w' => ∃ (x394 : Bool), x394 = o395 ∧ Fr 52 a [(2, .pointer (some ⟨b387, 0, none⟩)), (4, .pointer (some ⟨b389, 0, none⟩)), (6, .pointer (some ⟨b391, 0, none⟩)), (22, .bool x394)] ∧ Hp C w' ρ (Box b387 [v1, v4] :: Box b389 [.slice none 0 0, .slice none 0 0] :: Box b391 [.slice none 0 0, v4] :: hs)) ?_ ?_
 ·refine R_nd <| nq (v := .pointer (some ⟨b387, 1, none⟩)) (Q_fld Tryz.underlying25 rfl ty23 (by decide) rfl rfl) rfl rfl <| nq (v := v4) (Q_ldB (k := 2) (cs := [v4]) H.ok rfl ty23 rfl rfl rfl (fun _ => rfl) rfl) rfl rfl <| nq (Q_len Tryz.underlying23 rfl r6) rfl rfl <| nq (Q_gtr rfl rfl) rfl rfl <| nq (Q_move rfl) rfl rfl ?_
  rcases Bool.eq_false_or_eq_true (decide ((x5.length : Int) > 20)) with hb | hb
  ·rw [hb]
   replace ho395 := itT hb ho395
   refine gs rfl rfl rfl rfl <| gs rfl rfl rfl rfl <| gs rfl rfl rfl rfl <| gs rfl rfl rfl rfl <| gs rfl rfl rfl rfl <| nq (Q_pickT rfl rfl) rfl rfl <| WL_nil ?_
   replace H := H.f1.f2
   obtain rfl := Option.some.inj ho395
   refine x_A fun a hf => ⟨true, rfl, hf.sub ⟨rfl, rfl, rfl, rfl, trivial⟩, H⟩
  ·rw [hb]
   replace ho395 := itF hb ho395
   refine gq (v := .pointer (some ⟨b387, 0, none⟩)) (Q_fld Tryz.underlying25 rfl ty22 (by decide) rfl rfl) rfl rfl rfl <| gq (v := v1) (Q_ldB (k := 2) (cs := [v1]) H.ok rfl ty22 rfl rfl rfl (fun _ => rfl) rfl) rfl rfl rfl <| gq (Q_len Tryz.underlying22 rfl r3) rfl rfl rfl <| gq (Q_move rfl) rfl rfl rfl <| gq (Q_gtr rfl rfl) rfl rfl rfl <| nq (Q_pickF rfl rfl) rfl rfl <| WL_nil ?_
   replace H := H.f1.f2
   obtain rfl := Option.some.inj ho395
   refine x_A fun a hf => ⟨decide ((x2.length : Int) > x7), rfl, hf.sub ⟨rfl, rfl, rfl, rfl, trivial⟩, H⟩
 ·rintro a wd396 ⟨x394, rfl, hf, H⟩
  try dsimp only at hF
  refine CW.at hf ?_
  refine C_cond rfl (fun hb => ?_) (fun hb => ?_)
  ·replace hF := itT hb hF
   refine C_seq <| R_nd <| nq (v := .agg #[.slice none 0 0, v4]) (Q_ldB (k := 2) (cs := [.slice none 0 0, v4]) H.ok rfl ty29 rfl rfl rfl (fun h => nomatch h) rfl) rfl rfl <| ne (E_stB (k := 1) (cs := [.slice none 0 0, v4]) (vs' := [.slice none 0 0, v4]) H rfl ty29 rfl rfl rfl rfl (one_cons rfl (one_cons (RdSl.one r6) one_nil)) (by simp) rfl) rfl rfl ?_
   rintro _ wd397 H
   dsimp only [List.set] at H
   refine nq (Q_assign rfl) rfl rfl <| WL_nil <| x_then <| C_ret <| x_then_ret ?_
   have H := H.nilArr 7
   have hRV : RV Tryz.prog wd397 [(4, .pointer (some ⟨b389, 0, none⟩)), (5, .bool false)] [.cell 4 29, .tmp 5] [.agg #[(.slice none 0 0), v4], .bool false] := ⟨⟨_, rfl, run_ldv ty29 rfl (fun h => nomatch h) (box_at (H.ok.get (k := 2) rfl) 0 2)⟩, rfl, trivial⟩
   replace H := H.e3.e2.e1
   obtain rfl := Option.some.inj hF
   exact fn_retV (rs := [.cell 4 29, .tmp 5]) (vs := [.agg #[(.slice none 0 0), v4], .bool false]) rfl hRV ⟨(.slice none 0 0), [], [], false, rfl, rfl, rdL.nil, H⟩
  ·replace hF := itF hb hF
   refine C_skip <| x_then <| C_seq <| C_seq <| R_nd <| nq (v := .pointer (some ⟨b387, 0, none⟩)) (Q_fld Tryz.underlying25 rfl ty22 (by decide) rfl rfl) rfl rfl <| nq (v := v1) (Q_ldB (k := 0) (cs := [v1]) H.ok rfl ty22 rfl rfl rfl (fun _ => rfl) rfl) rfl rfl <| nq (Q_len Tryz.underlying22 rfl r3) rfl rfl <| nq (Q_move rfl) rfl rfl <| WL_nil <| x_then ?_
   obtain ⟨o580, ho580, hF⟩ := bnd hF
   refine C_cutQ (fun a w' => ∃ (v576 : Value) (c577 : (List Value)) (x578 : (List ((List Int) × (Int × Int × Int × Int) × Int × Int))), .inl x578 = o580 ∧ rdL (eP (eL (eI .i64)) (eP (eP (eI .u64) (eP (eI .u64) (eP (eI .u64) (eI .u64)))) (eP (eI .i64) (eI .i64)))) ρ x578 c577 ∧ Fr 52 a [(4, .pointer (some ⟨b389, 0, none⟩)), (6, .pointer (some ⟨b391, 0, none⟩))] ∧ Hp C w' ρ (Box b389 [.slice none 0 0, .slice none 0 0] :: Box b391 [v576, v4] :: Arr v576 7 c577 :: hs)) ?_ ?_
   ·refine C_block ?_
    have H := H.nilArr 7
    replace H := H.e1.f2.f2
    refine C_iter (f := fun s => F_dofferlaw15_Of_l0 N x2 s.1 s.2) ho580 (fun s a w' => ∃ (v640 : Value) (c641 : (List Value)) (x639 : Int) (x642 : (List ((List Int) × (Int × Int × Int × Int) × Int × Int))), (x639, x642) = s ∧ rdL (eP (eL (eI .i64)) (eP (eP (eI .u64) (eP (eI .u64) (eP (eI .u64) (eI .u64)))) (eP (eI .i64) (eI .i64)))) ρ x642 c641 ∧ Fr 52 a [(4, .pointer (some ⟨b389, 0, none⟩)), (6, .pointer (some ⟨b391, 0, none⟩)), (25, v1), (26, .int .i64 (x2.length : Int)), (27, .int .i64 x639)] ∧ Hp C w' ρ (Box b389 [.slice none 0 0, .slice none 0 0] :: Box b391 [v640, v4] :: Arr v640 7 c641 :: hs)) ?_ ?_
    ·exact fun a hf => ⟨(.slice none 0 0), [], 0, [], rfl, rdL.nil, hf.sub ⟨rfl, rfl, rfl, rfl, rfl, trivial⟩, H⟩
    ·rintro s o702 a wd705 ⟨v640, c641, x639, x642, rfl, r643, hf, H⟩ hB703 hO704
     replace hB703 : F_dofferlaw15_Of_l0 N x2 x639 x642 = some o702 := hB703
     unfold F_dofferlaw15_Of_l0 at hB703
     refine CW.at hf <| C_seq <| R_nd <| nq (Q_lss rfl rfl) rfl rfl <| WL_nil <| x_then <| C_seq ?_
     refine C_cond rfl (fun hb => ?_) (fun hb => ?_)
     ·replace hB703 := itT hb hB703
      refine C_skip <| x_then <| C_seq <| C_block <| C_seq <| R_nd ?_
      obtain ⟨x706, hx706, hB703⟩ := bnd hB703
      obtain ⟨b707, o708, c709, hc710, ha711, hi712⟩ := idxR r3 hx706
      refine nq (Q_idx hi712 Tryz.underlying22 ty58 rfl rfl) rfl rfl ?_
      obtain ⟨c713, c714, he715, hc716, hc717⟩ := (id hc710)
      obtain ⟨v718, he719, r720⟩ := hc716
      obtain ⟨c721, c722, he723, hc724, hc725⟩ := hc717
      obtain ⟨c726, c727, he728, hc729, hc730⟩ := hc724
      obtain ⟨c731, c732, he733, hc734, hc735⟩ := hc730
      obtain ⟨c736, c737, he738, hc739, hc740⟩ := hc735
      obtain ⟨c741, c742, he743, hc744, hc745⟩ := hc725
      refine nq (v := .agg #[v718, .int .u64 x706.2.1.1, .int .u64 x706.2.1.2.1, .int .u64 x706.2.1.2.2.1, .int .u64 x706.2.1.2.2.2, .int .i64 x706.2.2.1, .int .i64 x706.2.2.2]) (Q_ld (show cellsAt _ _ _ [v718, .int .u64 x706.2.1.1, .int .u64 x706.2.1.2.1, .int .u64 x706.2.1.2.2.1, .int .u64 x706.2.1.2.2.2, .int .i64 x706.2.2.1, .int .i64 x706.2.2.2] from cellsAt.cg (cat2 he715 he719 (cat2 he723 (cat2 he728 (rdI hc729) (cat2 he733 (rdI hc734) (cat2 he738 (rdI hc739) (rdI hc740)))) (cat2 he743 (rdI hc744) (rdI hc745)))) (ha711.up H.ok.view)) ty58 rfl (fun h => nomatch h) rfl rfl) rfl rfl <| ne (E_alloc H ty58 (zs := [.slice none 0 0, .int .u64 0, .int .u64 0, .int .u64 0, .int .u64 0, .int .i64 0, .int .i64 0]) rfl) rfl rfl ?_
      rintro _ wd747 ⟨b746, rfl, H⟩
      refine ne (E_stB (k := 0) (cs := [v718, .int .u64 x706.2.1.1, .int .u64 x706.2.1.2.1, .int .u64 x706.2.1.2.2.1, .int .u64 x706.2.1.2.2.2, .int .i64 x706.2.2.1, .int .i64 x706.2.2.2]) (vs' := [v718, .int .u64 x706.2.1.1, .int .u64 x706.2.1.2.1, .int .u64 x706.2.1.2.2.1, .int .u64 x706.2.1.2.2.2, .int .i64 x706.2.2.1, .int .i64 x706.2.2.2]) H rfl ty58 rfl rfl rfl rfl (one_cons (RdSl.one r720) (one_cons rfl (one_cons rfl (one_cons rfl (one_cons rfl (one_cons rfl (one_cons rfl one_nil))))))) (by simp) rfl) rfl rfl ?_
      rintro _ wd748 H
      dsimp only [List.set] at H
      refine WL_nil <| x_then <| C_seq <| C_seq <| R_nd <| nq (v := .pointer (some ⟨b746, 0, none⟩)) (Q_fld Tryz.underlying58 rfl ty23 (by decide) rfl rfl) rfl rfl <| nq (v := v718) (Q_ldB (k := 0) (cs := [v718]) H.ok rfl ty23 rfl rfl rfl (fun _ => rfl) rfl) rfl rfl <| nq (Q_len Tryz.underlying23 rfl r720) rfl rfl <| nq (Q_gtr rfl rfl) rfl rfl <| WL_nil <| x_then ?_
      refine C_cond rfl (fun hb => ?_) (fun hb => ?_)
      ·replace hB703 := itT hb hB703
       refine C_seq <| R_nd <| nq (v := .agg #[v640, v4]) (Q_ldB (k := 2) (cs := [v640, v4]) H.ok rfl ty29 rfl rfl rfl (fun h => nomatch h) rfl) rfl rfl <| ne (E_stB (k := 1) (cs := [v640, v4]) (vs' := [v640, v4]) H rfl ty29 rfl rfl rfl rfl (one_cons (arr_cells (H.ok.get (k := 3) rfl)).2 (one_cons (RdSl.one r6) one_nil)) (by simp) rfl) rfl rfl ?_
       rintro _ wd749 H
       dsimp only [List.set] at H
       refine nq (Q_assign rfl) rfl rfl <| WL_nil <| x_then <| C_ret <| x_then_ret <| x_block_ret <| x_then_ret <| x_then_ret <| x_block_ret <| x_then_ret <| x_then_ret ?_
       have hRV : RV Tryz.prog wd749 [(4, .pointer (some ⟨b389, 0, none⟩)), (5, .bool false)] [.cell 4 29, .tmp 5] [.agg #[v640, v4], .bool false] := ⟨⟨_, rfl, run_ldv ty29 rfl (fun h => nomatch h) (box_at (H.ok.get (k := 1) rfl) 0 2)⟩, rfl, trivial⟩
       replace H := H.e2.e1.e0
       obtain rfl := Option.some.inj hB703
       obtain rfl := hO704 _ rfl
       obtain rfl := Option.some.inj (show some _ = some _ from hF)
       exact fn_retV (rs := [.cell 4 29, .tmp 5]) (vs := [.agg #[v640, v4], .bool false]) rfl hRV ⟨v640, c641, x642, false, rfl, rfl, r643, H⟩
      ·replace hB703 := itF hb hB703
       refine C_skip <| x_then <| R_nd <| nq (v := .pointer (some ⟨b391, 0, none⟩)) (Q_fld Tryz.underlying29 rfl ty27 (by decide) rfl rfl) rfl rfl <| nq (v := v640) (Q_ldB (k := 2) (cs := [v640]) H.ok rfl ty27 rfl rfl rfl (fun _ => rfl) rfl) rfl rfl <| nq (v := .pointer (some ⟨b746, 0, none⟩)) (Q_fld Tryz.underlying58 rfl ty23 (by decide) rfl rfl) rfl rfl <| nq (v := v718) (Q_ldB (k := 0) (cs := [v718]) H.ok rfl ty23 rfl rfl rfl (fun _ => rfl) rfl) rfl rfl <| nq (v := .pointer (some ⟨b746, 1, none⟩)) (Q_fld Tryz.underlying58 rfl ty56 (by decide) rfl rfl) rfl rfl <| nq (v := .agg #[.int .u64 x706.2.1.1, .int .u64 x706.2.1.2.1, .int .u64 x706.2.1.2.2.1, .int .u64 x706.2.1.2.2.2]) (Q_ldB (k := 0) (cs := [.int .u64 x706.2.1.1, .int .u64 x706.2.1.2.1, .int .u64 x706.2.1.2.2.1, .int .u64 x706.2.1.2.2.2]) H.ok rfl ty56 rfl rfl rfl (fun h => nomatch h) rfl) rfl rfl <| nq (v := .pointer (some ⟨b746, 5, none⟩)) (Q_fld Tryz.underlying58 rfl ty3 (by decide) rfl rfl) rfl rfl <| nq (v := .int .i64 x706.2.2.1) (Q_ldB (k := 0) (cs := [.int .i64 x706.2.2.1]) H.ok rfl ty3 rfl rfl rfl (fun _ => rfl) rfl) rfl rfl <| nq (v := .pointer (some ⟨b746, 6, none⟩)) (Q_fld Tryz.underlying58 rfl ty3 (by decide) rfl rfl) rfl rfl <| nq (v := .int .i64 x706.2.2.2) (Q_ldB (k := 0) (cs := [.int .i64 x706.2.2.2]) H.ok rfl ty3 rfl rfl rfl (fun _ => rfl) rfl) rfl rfl <| nq (v := .agg #[v718, .int .u64 x706.2.1.1, .int .u64 x706.2.1.2.1, .int .u64 x706.2.1.2.2.1, .int .u64 x706.2.1.2.2.2, .int .i64 x706.2.2.1, .int .i64 x706.2.2.2]) (Q_buildS st72.choose_spec (ps := [(0, [v718]), (1, [.int .u64 x706.2.1.1, .int .u64 x706.2.1.2.1, .int .u64 x706.2.1.2.2.1, .int .u64 x706.2.1.2.2.2]), (5, [.int .i64 x706.2.2.1]), (6, [.int .i64 x706.2.2.2])]) rfl ⟨rfl, (RdSl.cells r720), by simp, ⟨rfl, rfl, by simp, ⟨rfl, rfl, by simp, ⟨rfl, rfl, by simp, trivial⟩⟩⟩⟩ rfl) rfl rfl ?_
       refine ne (E_bslice (xs := [.tmp 46]) (vs := [.agg #[v718, .int .u64 x706.2.1.1, .int .u64 x706.2.1.2.1, .int .u64 x706.2.1.2.2.1, .int .u64 x706.2.1.2.2.2, .int .i64 x706.2.2.1, .int .i64 x706.2.2.2]]) H Tryz.underlying27 ty72 (by decide) (cs := [v718, .int .u64 x706.2.1.1, .int .u64 x706.2.1.2.1, .int .u64 x706.2.1.2.2.1, .int .u64 x706.2.1.2.2.2, .int .i64 x706.2.2.1, .int .i64 x706.2.2.2]) rfl (sz_cons rfl sz_nil) rfl (by simp) (by simp) rfl rfl) rfl rfl ?_
       rintro _ wd751 ⟨b750, rfl, H⟩
       obtain ⟨x752, hx752, hB703⟩ := bnd hB703
       obtain ⟨ha753a, ha753b⟩ := app_some hx752
       have r755 : rdL (eP (eL (eI .i64)) (eP (eP (eI .u64) (eP (eI .u64) (eP (eI .u64) (eI .u64)))) (eP (eI .i64) (eI .i64)))) ρ x752 (c641 ++ ([v718, .int .u64 x706.2.1.1, .int .u64 x706.2.1.2.1, .int .u64 x706.2.1.2.2.1, .int .u64 x706.2.1.2.2.2, .int .i64 x706.2.2.1, .int .i64 x706.2.2.2])) := ha753b ▸ rdL.app r643 (show rdL (eP (eL (eI .i64)) (eP (eP (eI .u64) (eP (eI .u64) (eP (eI .u64) (eI .u64)))) (eP (eI .i64) (eI .i64)))) ρ ([(x706.1, (x706.2.1.1, x706.2.1.2.1, x706.2.1.2.2.1, x706.2.1.2.2.2), x706.2.2.1, x706.2.2.2)]) ([v718, .int .u64 x706.2.1.1, .int .u64 x706.2.1.2.1, .int .u64 x706.2.1.2.2.1, .int .u64 x706.2.1.2.2.2, .int .i64 x706.2.2.1, .int .i64 x706.2.2.2]) from ⟨([v718, .int .u64 x706.2.1.1, .int .u64 x706.2.1.2.1, .int .u64 x706.2.1.2.2.1, .int .u64 x706.2.1.2.2.2, .int .i64 x706.2.2.1, .int .i64 x706.2.2.2]), _, rfl, ⟨[v718], _, rfl, ⟨_, rfl, r720⟩, ⟨[.int .u64 x706.2.1.1, .int .u64 x706.2.1.2.1, .int .u64 x706.2.1.2.2.1, .int .u64 x706.2.1.2.2.2], _, rfl, ⟨[.int .u64 x706.2.1.1], _, rfl, rfl, ⟨[.int .u64 x706.2.1.2.1], _, rfl, rfl, ⟨[.int .u64 x706.2.1.2.2.1], _, rfl, rfl, rfl⟩⟩⟩, ⟨[.int .i64 x706.2.2.1], _, rfl, rfl, rfl⟩⟩⟩, rdL.nil⟩)
       refine ne (E_append (k := 4) H rfl Tryz.underlying27 ty72 rfl (by decide) (by decide) rfl rfl (Src.ofArr (k := 0) H.ok rfl) (rdL.one (show rdL (eP (eL (eI .i64)) (eP (eP (eI .u64) (eP (eI .u64) (eP (eI .u64) (eI .u64)))) (eP (eI .i64) (eI .i64)))) ρ ([(x706.1, (x706.2.1.1, x706.2.1.2.1, x706.2.1.2.2.1, x706.2.1.2.2.2), x706.2.2.1, x706.2.2.2)]) ([v718, .int .u64 x706.2.1.1, .int .u64 x706.2.1.2.1, .int .u64 x706.2.1.2.2.1, .int .u64 x706.2.1.2.2.2, .int .i64 x706.2.2.1, .int .i64 x706.2.2.2]) from ⟨([v718, .int .u64 x706.2.1.1, .int .u64 x706.2.1.2.1, .int .u64 x706.2.1.2.2.1, .int .u64 x706.2.1.2.2.2, .int .i64 x706.2.2.1, .int .i64 x706.2.2.2]), _, rfl, ⟨[v718], _, rfl, ⟨_, rfl, r720⟩, ⟨[.int .u64 x706.2.1.1, .int .u64 x706.2.1.2.1, .int .u64 x706.2.1.2.2.1, .int .u64 x706.2.1.2.2.2], _, rfl, ⟨[.int .u64 x706.2.1.1], _, rfl, rfl, ⟨[.int .u64 x706.2.1.2.1], _, rfl, rfl, ⟨[.int .u64 x706.2.1.2.2.1], _, rfl, rfl, rfl⟩⟩⟩, ⟨[.int .i64 x706.2.2.1], _, rfl, rfl, rfl⟩⟩⟩, rdL.nil⟩)) (app_fit r643 (show rdL (eP (eL (eI .i64)) (eP (eP (eI .u64) (eP (eI .u64) (eP (eI .u64) (eI .u64)))) (eP (eI .i64) (eI .i64)))) ρ ([(x706.1, (x706.2.1.1, x706.2.1.2.1, x706.2.1.2.2.1, x706.2.1.2.2.2), x706.2.2.1, x706.2.2.2)]) ([v718, .int .u64 x706.2.1.1, .int .u64 x706.2.1.2.1, .int .u64 x706.2.1.2.2.1, .int .u64 x706.2.1.2.2.2, .int .i64 x706.2.2.1, .int .i64 x706.2.2.2]) from ⟨([v718, .int .u64 x706.2.1.1, .int .u64 x706.2.1.2.1, .int .u64 x706.2.1.2.2.1, .int .u64 x706.2.1.2.2.2, .int .i64 x706.2.2.1, .int .i64 x706.2.2.2]), _, rfl, ⟨[v718], _, rfl, ⟨_, rfl, r720⟩, ⟨[.int .u64 x706.2.1.1, .int .u64 x706.2.1.2.1, .int .u64 x706.2.1.2.2.1, .int .u64 x706.2.1.2.2.2], _, rfl, ⟨[.int .u64 x706.2.1.1], _, rfl, rfl, ⟨[.int .u64 x706.2.1.2.1], _, rfl, rfl, ⟨[.int .u64 x706.2.1.2.2.1], _, rfl, rfl, rfl⟩⟩⟩, ⟨[.int .i64 x706.2.2.1], _, rfl, rfl, rfl⟩⟩⟩, rdL.nil⟩) ha753a)) rfl rfl ?_
       rintro v754 wd757 ⟨H, hc756⟩
       dsimp only [List.set] at H
       refine nq (v := .pointer (some ⟨b391, 0, none⟩)) (Q_fld Tryz.underlying29 rfl ty27 (by decide) rfl rfl) rfl rfl <| ne (E_stB (k := 3) (cs := [v754]) (vs' := [v754, v4]) H rfl ty27 rfl rfl (arr_cells (H.ok.get (k := 4) rfl)).1 rfl (one_cons (arr_cells (H.ok.get (k := 4) rfl)).2 one_nil) (by simp) rfl) rfl rfl ?_
       rintro _ wd758 H
       dsimp only [List.set] at H
       refine WL_nil <| x_block <| x_then <| R_nd <| nq (Q_add rfl rfl) rfl rfl <| nq (Q_move rfl) rfl rfl <| WL_nil ?_
       replace H := H.e1.e0
       obtain rfl := Option.some.inj hB703
       refine x_A fun a hf => ⟨_, rfl, v754, (c641 ++ ([v718, .int .u64 x706.2.1.1, .int .u64 x706.2.1.2.1, .int .u64 x706.2.1.2.2.1, .int .u64 x706.2.1.2.2.2, .int .i64 x706.2.2.1, .int .i64 x706.2.2.2])), w64 (x639 + 1), x752, rfl, r755, hf.sub ⟨rfl, rfl, rfl, rfl, rfl, trivial⟩, H⟩
     ·replace hB703 := itF hb hB703
      refine C_exit <| x_then_exit <| x_then_exit <| x_block_exit ?_
      obtain rfl := Option.some.inj hB703
      obtain rfl := hO704 _ rfl
      refine x_A fun a hf => ⟨v640, c641, x642, rfl, r643, hf.sub ⟨rfl, rfl, trivial⟩, H⟩
   ·rintro a wd759 ⟨v576, c577, x578, rfl, r579, hf, H⟩
    try dsimp only at hF
    refine XX.at hf <| x_then <| C_seq <| R_nd <| nq (v := .agg #[v576, v4]) (Q_ldB (k := 1) (cs := [v576, v4]) H.ok rfl ty29 rfl rfl rfl (fun h => nomatch h) rfl) rfl rfl <| ne (E_stB (k := 0) (cs := [v576, v4]) (vs' := [v576, v4]) H rfl ty29 rfl rfl rfl rfl (one_cons (arr_cells (H.ok.get (k := 2) rfl)).2 (one_cons (RdSl.one r6) one_nil)) (by simp) rfl) rfl rfl ?_
    rintro _ wd760 H
    dsimp only [List.set] at H
    refine nq (Q_assign rfl) rfl rfl <| WL_nil <| x_then <| C_ret ?_
    have hRV : RV Tryz.prog wd760 [(4, .pointer (some ⟨b389, 0, none⟩)), (5, .bool true)] [.cell 4 29, .tmp 5] [.agg #[v576, v4], .bool true] := ⟨⟨_, rfl, run_ldv ty29 rfl (fun h => nomatch h) (box_at (H.ok.get (k := 0) rfl) 0 2)⟩, rfl, trivial⟩
    replace H := H.e1.e0
    obtain rfl := Option.some.inj hF
    exact fn_retV (rs := [.cell 4 29, .tmp 5]) (vs := [.agg #[v576, v4], .bool true]) rfl hRV ⟨v576, c577, x578, true, rfl, rfl, r579, H⟩
theorem c_46 {N : Nat} {C : Cx} {w : World} {ρ : View} {hs : List Hl} {gV : Nat → Value} {x1 : Int} {x2 : Int} {x3 : Int} {x4 : Int} (H : Hp C w ρ (hs)) (_gle : GErrs ρ 373 errIds gV) {r : Unit} (hF : F_sets_Set_Empty N x1 x2 x3 x4 = some r) :
  Calls Tryz.prog 46 [.agg #[.int .u64 x1, .int .u64 x2, .int .u64 x3, .int .u64 x4]].toArray w (Rets (fun v w' => (() = r ∧ .bool (([x1, x2, x3, x4] : List Int) == ([0, 0, 0, 0] : List Int)) = v ∧ Hp C w' ρ (hs)))) := by
 unfold F_sets_Set_Empty at hF
 have h0 : Tryz.f46.body = some _ := rfl
 refine fn_calls' Tryz.func46 h0 (n := 6) rfl (by simp) <| C_seq <| R_nd <| ne (E_box H (vs := [.int .u64 x1, .int .u64 x2, .int .u64 x3, .int .u64 x4]) rfl rfl) rfl rfl ?_
 rintro _ wd8 ⟨b7, rfl, H⟩
 refine nq (Q_assign rfl) rfl rfl <| WL_nil <| x_then <| C_seq <| R_nd <| nq (v := .agg #[.int .u64 x1, .int .u64 x2, .int .u64 x3, .int .u64 x4]) (Q_ldB (k := 0) (cs := [.int .u64 x1, .int .u64 x2, .int .u64 x3, .int .u64 x4]) H.ok rfl ty56 rfl rfl rfl (fun h => nomatch h) rfl) rfl rfl <| nq (v := .agg #[.int .u64 0, .int .u64 0, .int .u64 0, .int .u64 0]) (Q_build0 (zs := [.int .u64 0, .int .u64 0, .int .u64 0, .int .u64 0]) ty56 Tryz.underlying56 ty54 rfl) rfl rfl <| nq (v := .bool (([x1, x2, x3, x4] : List Int) == ([0, 0, 0, 0] : List Int))) (Q_eqlA (xs := ([x1, x2, x3, x4] : List Int)) (ys := ([0, 0, 0, 0] : List Int)) Tryz.underlying56 ty54 (by kernel_rfl) Tryz.underlying54 (rdL_ints .u64 ρ ([x1, x2, x3, x4] : List Int)) rfl (rdL_ints .u64 ρ ([0, 0, 0, 0] : List Int)) rfl rfl rfl) rfl rfl <| nq (Q_assign rfl) rfl rfl <| WL_nil <| x_then <| C_ret ?_
 replace H := H.e0
 obtain rfl := Option.some.inj hF
 exact fn_ret (l := [.tmp 2]) (vs := [.bool (([x1, x2, x3, x4] : List Int) == ([0, 0, 0, 0] : List Int))]) rfl rfl rfl ⟨rfl, rfl, H⟩
theorem c_45 {N : Nat} {C : Cx} {w : World} {ρ : View} {hs : List Hl} {gV : Nat → Value} {b2 : Nat} {x1 : Int} {x3 : Int} (H : Hp C w ρ (Box b2 [.int .i64 x3] :: hs)) (_gle : GErrs ρ 373 errIds gV) {r : Bool} (hF : F_nfa_Right_1 N x1 x3 = some r) :
  Calls Tryz.prog 45 [.int .i64 x1, .pointer (some ⟨b2, 0, none⟩)].toArray w (Rets (fun v w' => (∃ (x7 : Bool), x7 = r ∧ .bool x7 = v ∧ Hp C w' ρ (Box b2 [.int .i64 x3] :: hs)))) := by
 unfold F_nfa_Right_1 at hF
 have h0 : Tryz.f45.body = some _ := rfl
 refine fn_calls' Tryz.func45 h0 (n := 11) rfl (by simp) <| C_seq <| R_nd <| nq (Q_assign rfl) rfl rfl <| WL_nil <| x_then ?_
 obtain ⟨o9, ho9, hF⟩ := bnd hF
 refine C_cut (fun a w' => ∃ (x8 : Bool), x8 = o9 ∧ Fr 11 a [(3, .bool x8)] ∧ Hp C w' ρ (Box b2 [.int .i64 x3] :: hs)) ?_ ?_
 ·refine R_nd <| nq (Q_move rfl) rfl rfl <| nq (Q_lss rfl rfl) rfl rfl <| nq (Q_move rfl) rfl rfl ?_
  rcases Bool.eq_false_or_eq_true (decide (x1 < 0)) with hb | hb
  ·rw [hb]
   replace ho9 := itT hb ho9
   refine gs rfl rfl rfl rfl <| gs rfl rfl rfl rfl <| gs rfl rfl rfl rfl <| nq (Q_pickT rfl rfl) rfl rfl <| nq (Q_assign rfl) rfl rfl <| WL_nil ?_
   obtain rfl := Option.some.inj ho9
   refine x_A fun a hf => ⟨true, rfl, hf.sub ⟨rfl, trivial⟩, H⟩
  ·rw [hb]
   replace ho9 := itF hb ho9
   refine gq (Q_move rfl) rfl rfl rfl <| gq (v := .int .i64 x3) (Q_ldB (k := 0) (cs := [.int .i64 x3]) H.ok rfl ty3 rfl rfl rfl (fun _ => rfl) rfl) rfl rfl rfl <| gq (Q_geq rfl rfl) rfl rfl rfl <| nq (Q_pickF rfl rfl) rfl rfl <| nq (Q_assign rfl) rfl rfl <| WL_nil ?_
   obtain rfl := Option.some.inj ho9
   refine x_A fun a hf => ⟨decide (x1 ≥ x3), rfl, hf.sub ⟨rfl, trivial⟩, H⟩
 ·rintro a wd10 ⟨x8, rfl, hf, H⟩
  try dsimp only at hF
  refine CW.at hf <| C_ret ?_
  obtain rfl := Option.some.inj hF
  exact fn_ret (l := [.tmp 3]) (vs := [.bool x8]) rfl rfl rfl ⟨x8, rfl, rfl, H⟩
theorem c_92 {N : Nat} {C : Cx} {w : World} {ρ : View} {hs : List Hl} {gV : Nat → Value} {v1 : Value} {b4 : Nat} {x2 : (List Int)} {x5 : Int} (H : Hp C w ρ (Box b4 [.int .i64 x5] :: hs)) (gle : GErrs ρ 373 errIds gV) (r3 : RdSl ρ (eI .i64) v1 x2) {r : Int} (hF : F_slices_IndexFunc_int_int_2 N x2 x5 = some r) :
  Calls Tryz.prog 92 [v1, .func (.func 45) #[] [.pointer (some ⟨b4, 0, none⟩)].toArray].toArray w (Rets (fun v w' => (∃ (x88 : Int), x88 = r ∧ .int .i64 x88 = v ∧ Hp C w' ρ (Box b4 [.int .i64 x5] :: hs)))) := by
 unfold F_slices_IndexFunc_int_int_2 at hF
 have h0 : Tryz.f92.body = some _ := rfl
 refine fn_calls' Tryz.func92 h0 (n := 19) rfl (by simp) <| C_seq <| R_nd <| nq (Q_assign rfl) rfl rfl <| WL_nil <| x_then <| C_seq <| C_seq <| R_nd <| nq (Q_move rfl) rfl rfl <| nq (Q_len Tryz.underlying23 rfl r3) rfl rfl <| nq (Q_move rfl) rfl rfl <| WL_nil <| x_then ?_
 obtain ⟨o129, ho129, hF⟩ := bnd hF
 refine C_cutQ (fun a w' => .inl () = o129 ∧ Fr 19 a [] ∧ Hp C w' ρ (Box b4 [.int .i64 x5] :: hs)) ?_ ?_
 ·refine C_block ?_
  refine C_iter (f := fun s => F_slices_IndexFunc_int_int_2_l0 N x2 x5 s) ho129 (fun s a w' => ∃ (x142 : Int), x142 = s ∧ Fr 19 a [(0, v1), (1, .func (.func 45) #[] [.pointer (some ⟨b4, 0, none⟩)].toArray), (7, .int .i64 (x2.length : Int)), (8, .int .i64 x142)] ∧ Hp C w' ρ (Box b4 [.int .i64 x5] :: hs)) ?_ ?_
  ·exact fun a hf => ⟨0, rfl, hf.sub ⟨rfl, rfl, rfl, rfl, trivial⟩, H⟩
  ·rintro s o155 a wd158 ⟨x142, rfl, hf, H⟩ hB156 hO157
   replace hB156 : F_slices_IndexFunc_int_int_2_l0 N x2 x5 x142 = some o155 := hB156
   unfold F_slices_IndexFunc_int_int_2_l0 at hB156
   refine CW.at hf <| C_seq <| R_nd <| nq (Q_lss rfl rfl) rfl rfl <| WL_nil <| x_then <| C_seq ?_
   refine C_cond rfl (fun hb => ?_) (fun hb => ?_)
   ·replace hB156 := itT hb hB156
    refine C_skip <| x_then <| C_seq <| C_block <| C_seq <| R_nd <| nq (Q_move rfl) rfl rfl <| nq (Q_assign rfl) rfl rfl <| WL_nil <| x_then <| C_seq <| R_nd <| nq (Q_move rfl) rfl rfl <| nq (Q_move rfl) rfl rfl ?_
    refine nq (Q_move rfl) rfl rfl ?_
    obtain ⟨x159, hx159, hB156⟩ := bnd hB156
    obtain ⟨b160, o161, c162, hc163, ha164, hi165⟩ := idxR r3 hx159
    refine nq (Q_idx hi165 Tryz.underlying23 ty3 rfl rfl) rfl rfl <| nq (v := .int .i64 x159) (Q_ld (show cellsAt _ _ _ [.int .i64 x159] from (show _ = [_] from hc163) ▸ (ha164.up H.ok.view)) ty3 rfl (fun _ => rfl) rfl rfl) rfl rfl ?_
    obtain ⟨q166, hq166, hB156⟩ := bnd hB156
    refine ne (E_callV fn45 rfl rfl (c_45 H gle   hq166)) rfl rfl ?_
    rintro _ wd169 ⟨x168, rfl, rfl, H⟩
    try dsimp only at hB156
    refine WL_nil <| x_then ?_
    refine C_cond rfl (fun hb => ?_) (fun hb => ?_)
    ·replace hB156 := itT hb hB156
     refine C_seq <| R_nd <| nq (Q_move rfl) rfl rfl <| nq (Q_assign rfl) rfl rfl <| WL_nil <| x_then <| C_ret <| x_block_ret <| x_then_ret <| x_then_ret <| x_block_ret <| x_then_ret <| x_then_ret ?_
     obtain rfl := Option.some.inj hB156
     obtain rfl := hO157 _ rfl
     obtain rfl := Option.some.inj (show some _ = some _ from hF)
     exact fn_ret (l := [.tmp 4]) (vs := [.int .i64 x142]) rfl rfl rfl ⟨x142, rfl, rfl, H⟩
    ·replace hB156 := itF hb hB156
     refine C_skip <| x_block <| x_then <| R_nd <| nq (Q_add rfl rfl) rfl rfl <| nq (Q_move rfl) rfl rfl <| WL_nil ?_
     obtain rfl := Option.some.inj hB156
     refine x_A fun a hf => ⟨_, rfl, w64 (x142 + 1), rfl, hf.sub ⟨rfl, rfl, rfl, rfl, trivial⟩, H⟩
   ·replace hB156 := itF hb hB156
    refine C_exit <| x_then_exit <| x_then_exit <| x_block_exit ?_
    obtain rfl := Option.some.inj hB156
    obtain rfl := hO157 _ rfl
    refine x_A fun a hf => ⟨rfl, hf.sub trivial, H⟩
 ·rintro a wd170 ⟨rfl, hf, H⟩
  try dsimp only at hF
  refine XX.at hf <| x_then <| C_seq <| R_nd <| nq (Q_assign rfl) rfl rfl <| WL_nil <| x_then <| C_ret ?_
  obtain rfl := Option.some.inj hF
  exact fn_ret (l := [.tmp 4]) (vs := [.int .i64 (-1)]) rfl rfl rfl ⟨(-1), rfl, rfl, H⟩
theorem c_47 {N : Nat} {C : Cx} {w : World} {ρ : View} {hs : List Hl} {gV : Nat → Value} {v1 : Value} {b4 : Nat} {x2 : (List Int)} {x5 : Int} (H : Hp C w ρ (Box b4 [.int .i64 x5] :: hs)) (gle : GErrs ρ 373 errIds gV) (r3 : RdSl ρ (eI .i64) v1 x2) {r : Bool} (hF : F_slices_ContainsFunc_int_int_2 N x2 x5 = some r) :
  Calls Tryz.prog 47 [v1, .func (.func 45) #[] [.pointer (some ⟨b4, 0, none⟩)].toArray].toArray w (Rets (fun v w' => (∃ (x10 : Bool), x10 = r ∧ .bool x10 = v ∧ Hp C w' ρ (Box b4 [.int .i64 x5] :: hs)))) := by
 unfold F_slices_ContainsFunc_int_int_2 at hF
 have h0 : Tryz.f47.body = some _ := rfl
 refine fn_calls' Tryz.func47 h0 (n := 9) rfl (by simp) <| C_seq <| R_nd <| nq (Q_assign rfl) rfl rfl <| WL_nil <| x_then <| C_seq <| R_nd <| nq (Q_move rfl) rfl rfl <| nq (Q_move rfl) rfl rfl ?_
 obtain ⟨q11, hq11, hF⟩ := bnd hF
 refine ne (E_call fn92 rfl (c_92 H gle  r3 hq11)) rfl rfl ?_
 rintro _ wd14 ⟨x13, rfl, rfl, H⟩
 try dsimp only at hF
 refine nq (Q_geq rfl rfl) rfl rfl <| nq (Q_assign rfl) rfl rfl <| WL_nil <| x_then <| C_ret ?_
 obtain rfl := Option.some.inj hF
 exact fn_ret (l := [.tmp 4]) (vs := [.bool (decide (x13 ≥ 0))]) rfl rfl rfl ⟨decide (x13 ≥ 0), rfl, rfl, H⟩
theorem c_17 {N : Nat} {C : Cx} {w : World} {ρ : View} {hs : List Hl} {gV : Nat → Value} {v1 : Value} {v4 : Value} {x2 : (List ((List Int) × (Int × Int × Int × Int) × Int × Int))} {x5 : (List Int)} (H : Hp C w ρ (hs)) (gle : GErrs ρ 373 errIds gV) (r3 : RdSl ρ (eP (eL (eI .i64)) (eP (eP (eI .u64) (eP (eI .u64) (eP (eI .u64) (eI .u64)))) (eP (eI .i64) (eI .i64)))) v1 x2) (r6 : RdSl ρ (eI .i64) v4 x5) {r : Bool} (hF : F_nfa_Right N x2 x5 = some r) :
  Calls Tryz.prog 17 [.agg #[v1, v4]].toArray w (Rets (fun v w' => (∃ (x516 : Bool), x516 = r ∧ .bool x516 = v ∧ Hp C w' ρ (hs)))) := by
 unfold F_nfa_Right at hF
 have h0 : Tryz.f17.body = some _ := rfl
 refine fn_calls' Tryz.func17 h0 (n := 80) rfl (by simp) <| C_seq <| R_nd <| ne (E_box H (vs := [v1, v4]) rfl rfl) rfl rfl ?_
 rintro _ wd518 ⟨b517, rfl, H⟩
 refine nq (Q_assign rfl) rfl rfl <| WL_nil <| x_then <| C_seq <| R_nd <| nq (v := .pointer (some ⟨b517, 0, none⟩)) (Q_fld Tryz.underlying25 rfl ty22 (by decide) rfl rfl) rfl rfl <| nq (v := v1) (Q_ldB (k := 0) (cs := [v1]) H.ok rfl ty22 rfl rfl rfl (fun _ => rfl) rfl) rfl rfl <| nq (Q_len Tryz.underlying22 rfl r3) rfl rfl <| ne (E_alloc H ty3 (zs := [.int .i64 0]) rfl) rfl rfl ?_
 rintro _ wd520 ⟨b519, rfl, H⟩
 refine ne (E_stB (k := 0) (cs := [.int .i64 (x2.length : Int)]) (vs' := [.int .i64 (x2.length : Int)]) H rfl ty3 rfl rfl rfl rfl (one_cons rfl one_nil) (by simp) rfl) rfl rfl ?_
 rintro _ wd521 H
 dsimp only [List.set] at H
 refine WL_nil <| x_then <| C_seq <| R_nd <| nq (v := .func (.func 45) #[] [.pointer (some ⟨b519, 0, none⟩)].toArray) (Q_func rfl) rfl rfl <| nq (Q_assign rfl) rfl rfl <| WL_nil <| x_then <| C_seq <| C_seq <| R_nd <| nq (v := .pointer (some ⟨b517, 0, none⟩)) (Q_fld Tryz.underlying25 rfl ty22 (by decide) rfl rfl) rfl rfl <| nq (v := v1) (Q_ldB (k := 1) (cs := [v1]) H.ok rfl ty22 rfl rfl rfl (fun _ => rfl) rfl) rfl rfl <| nq (Q_len Tryz.underlying22 rfl r3) rfl rfl ?_
 refine nq (Q_move rfl) rfl rfl <| WL_nil <| x_then ?_
 obtain ⟨o766, ho766, hF⟩ := bnd hF
 refine C_cutQ (fun a w' => .inl () = o766 ∧ Fr 80 a [(1, .pointer (some ⟨b517, 0, none⟩)), (3, .pointer (some ⟨b519, 0, none⟩)), (4, .func (.func 45) #[] [.pointer (some ⟨b519, 0, none⟩)].toArray)] ∧ Hp C w' ρ (Box b517 [v1, v4] :: Box b519 [.int .i64 (x2.length : Int)] :: hs)) ?_ ?_
 ·refine C_block ?_
  replace H := H.f1
  refine C_iter (f := fun s => F_nfa_Right_l0 N x2 s) ho766 (fun s a w' => ∃ (x847 : Int), x847 = s ∧ Fr 80 a [(1, .pointer (some ⟨b517, 0, none⟩)), (3, .pointer (some ⟨b519, 0, none⟩)), (4, .func (.func 45) #[] [.pointer (some ⟨b519, 0, none⟩)].toArray), (14, v1), (15, .int .i64 (x2.length : Int)), (16, .int .i64 x847)] ∧ Hp C w' ρ (Box b517 [v1, v4] :: Box b519 [.int .i64 (x2.length : Int)] :: hs)) ?_ ?_
  ·exact fun a hf => ⟨0, rfl, hf.sub ⟨rfl, rfl, rfl, rfl, rfl, rfl, trivial⟩, H⟩
  ·rintro s o928 a wd931 ⟨x847, rfl, hf, H⟩ hB929 hO930
   replace hB929 : F_nfa_Right_l0 N x2 x847 = some o928 := hB929
   unfold F_nfa_Right_l0 at hB929
   refine CW.at hf <| C_seq <| R_nd <| nq (Q_lss rfl rfl) rfl rfl <| WL_nil <| x_then <| C_seq ?_
   refine C_cond rfl (fun hb => ?_) (fun hb => ?_)
   ·replace hB929 := itT hb hB929
    refine C_skip <| x_then <| C_seq <| C_block <| C_seq <| R_nd ?_
    obtain ⟨x932, hx932, hB929⟩ := bnd hB929
    obtain ⟨b933, o934, c935, hc936, ha937, hi938⟩ := idxR r3 hx932
    refine nq (Q_idx hi938 Tryz.underlying22 ty58 rfl rfl) rfl rfl ?_
    obtain ⟨c939, c940, he941, hc942, hc943⟩ := (id hc936)
    obtain ⟨v944, he945, r946⟩ := hc942
    obtain ⟨c947, c948, he949, hc950, hc951⟩ := hc943
    obtain ⟨c952, c953, he954, hc955, hc956⟩ := hc950
    obtain ⟨c957, c958, he959, hc960, hc961⟩ := hc956
    obtain ⟨c962, c963, he964, hc965, hc966⟩ := hc961
    obtain ⟨c967, c968, he969, hc970, hc971⟩ := hc951
    refine nq (v := .agg #[v944, .int .u64 x932.2.1.1, .int .u64 x932.2.1.2.1, .int .u64 x932.2.1.2.2.1, .int .u64 x932.2.1.2.2.2, .int .i64 x932.2.2.1, .int .i64 x932.2.2.2]) (Q_ld (show cellsAt _ _ _ [v944, .int .u64 x932.2.1.1, .int .u64 x932.2.1.2.1, .int .u64 x932.2.1.2.2.1, .int .u64 x932.2.1.2.2.2, .int .i64 x932.2.2.1, .int .i64 x932.2.2.2] from cellsAt.cg (cat2 he941 he945 (cat2 he949 (cat2 he954 (rdI hc955) (cat2 he959 (rdI hc960) (cat2 he964 (rdI hc965) (rdI hc966)))) (cat2 he969 (rdI hc970) (rdI hc971)))) (ha937.up H.ok.view)) ty58 rfl (fun h => nomatch h) rfl rfl) rfl rfl <| ne (E_alloc H ty58 (zs := [.slice none 0 0, .int .u64 0, .int .u64 0, .int .u64 0, .int .u64 0, .int .i64 0, .int .i64 0]) rfl) rfl rfl ?_
    rintro _ wd973 ⟨b972, rfl, H⟩
    refine ne (E_stB (k := 0) (cs := [v944, .int .u64 x932.2.1.1, .int .u64 x932.2.1.2.1, .int .u64 x932.2.1.2.2.1, .int .u64 x932.2.1.2.2.2, .int .i64 x932.2.2.1, .int .i64 x932.2.2.2]) (vs' := [v944, .int .u64 x932.2.1.1, .int .u64 x932.2.1.2.1, .int .u64 x932.2.1.2.2.1, .int .u64 x932.2.1.2.2.2, .int .i64 x932.2.2.1, .int .i64 x932.2.2.2]) H rfl ty58 rfl rfl rfl rfl (one_cons (RdSl.one r946) (one_cons rfl (one_cons rfl (one_cons rfl (one_cons rfl (one_cons rfl (one_cons rfl one_nil))))))) (by simp) rfl) rfl rfl ?_
    rintro _ wd974 H
    dsimp only [List.set] at H
    refine WL_nil <| x_then ?_
    obtain ⟨o987, ho987, hB929⟩ := bnd hB929
    refine C_cut (fun a w' => ∃ (x986 : Bool), x986 = o987 ∧ Fr 80 a [(1, .pointer (some ⟨b517, 0, none⟩)), (3, .pointer (some ⟨b519, 0, none⟩)), (4, .func (.func 45) #[] [.pointer (some ⟨b519, 0, none⟩)].toArray), (6, .pointer (some ⟨b972, 0, none⟩)), (7, .bool x986), (14, v1), (15, .int .i64 (x2.length : Int)), (16, .int .i64 x847)] ∧ Hp C w' ρ (Box b517 [v1, v4] :: Box b519 [.int .i64 (x2.length : Int)] :: Box b972 [v944, .int .u64 x932.2.1.1, .int .u64 x932.2.1.2.1, .int .u64 x932.2.1.2.2.1, .int .u64 x932.2.1.2.2.2, .int .i64 x932.2.2.1, .int .i64 x932.2.2.2] :: hs)) ?_ ?_
    ·refine R_nd <| nq (v := .pointer (some ⟨b972, 5, none⟩)) (Q_fld Tryz.underlying58 rfl ty3 (by decide) rfl rfl) rfl rfl <| nq (v := .int .i64 x932.2.2.1) (Q_ldB (k := 0) (cs := [.int .i64 x932.2.2.1]) H.ok rfl ty3 rfl rfl rfl (fun _ => rfl) rfl) rfl rfl <| nq (Q_eql rfl rfl) rfl rfl <| nq (Q_move rfl) rfl rfl ?_
     rcases Bool.eq_false_or_eq_true (x932.2.2.1 == (-1)) with hb | hb
     ·rw [hb]
      replace ho987 := itT hb ho987
      refine gq (v := .pointer (some ⟨b972, 1, none⟩)) (Q_fld Tryz.underlying58 rfl ty56 (by decide) rfl rfl) rfl rfl rfl <| gq (v := .agg #[.int .u64 x932.2.1.1, .int .u64 x932.2.1.2.1, .int .u64 x932.2.1.2.2.1, .int .u64 x932.2.1.2.2.2]) (Q_ldB (k := 0) (cs := [.int .u64 x932.2.1.1, .int .u64 x932.2.1.2.1, .int .u64 x932.2.1.2.2.1, .int .u64 x932.2.1.2.2.2]) H.ok rfl ty56 rfl rfl rfl (fun h => nomatch h) rfl) rfl rfl rfl ?_
      obtain ⟨q988, hq988, ho987⟩ := bnd ho987
      refine ge (E_call fn46 rfl (c_46 H gle   hq988)) rfl rfl rfl ?_
      rintro _ wd990 ⟨rfl, rfl, H⟩
      try dsimp only at ho987
      refine nq (Q_pickT rfl rfl) rfl rfl <| nq (Q_move rfl) rfl rfl ?_
      rcases Bool.eq_false_or_eq_true (([x932.2.1.1, x932.2.1.2.1, x932.2.1.2.2.1, x932.2.1.2.2.2] : List Int) == ([0, 0, 0, 0] : List Int)) with hb | hb
      ·rw [hb]
       replace ho987 := itT hb ho987
       refine gs rfl rfl rfl rfl <| gs rfl rfl rfl rfl <| gs rfl rfl rfl rfl <| gs rfl rfl rfl rfl <| gs rfl rfl rfl rfl <| nq (Q_pickT rfl rfl) rfl rfl <| nq (Q_assign rfl) rfl rfl <| WL_nil ?_
       replace H := H.f2.f2
       obtain rfl := Option.some.inj ho987
       refine x_A fun a hf => ⟨true, rfl, hf.sub ⟨rfl, rfl, rfl, rfl, rfl, rfl, rfl, rfl, trivial⟩, H⟩
      ·rw [hb]
       replace ho987 := itF hb ho987
       refine gq (Q_move rfl) rfl rfl rfl <| gq (v := .pointer (some ⟨b972, 5, none⟩)) (Q_fld Tryz.underlying58 rfl ty3 (by decide) rfl rfl) rfl rfl rfl <| gq (v := .int .i64 x932.2.2.1) (Q_ldB (k := 0) (cs := [.int .i64 x932.2.2.1]) H.ok rfl ty3 rfl rfl rfl (fun _ => rfl) rfl) rfl rfl rfl ?_
       replace H := H.f2
       obtain ⟨q991, hq991, ho987⟩ := bnd ho987
       refine ge (E_callV fn45 rfl rfl (c_45 H gle   hq991)) rfl rfl rfl ?_
       rintro _ wd994 ⟨x993, rfl, rfl, H⟩
       try dsimp only at ho987
       refine gq (Q_not rfl) rfl rfl rfl <| nq (Q_pickF rfl rfl) rfl rfl <| nq (Q_assign rfl) rfl rfl <| WL_nil ?_
       replace H := H.f2
       obtain rfl := Option.some.inj ho987
       refine x_A fun a hf => ⟨!x993, rfl, hf.sub ⟨rfl, rfl, rfl, rfl, rfl, rfl, rfl, rfl, trivial⟩, H⟩
     ·rw [hb]
      replace ho987 := itF hb ho987
      refine gs rfl rfl rfl rfl <| gs rfl rfl rfl rfl <| gs rfl rfl rfl rfl <| nq (Q_pickF rfl rfl) rfl rfl <| nq (Q_move rfl) rfl rfl <| gq (Q_move rfl) rfl rfl rfl <| gq (v := .pointer (some ⟨b972, 5, none⟩)) (Q_fld Tryz.underlying58 rfl ty3 (by decide) rfl rfl) rfl rfl rfl <| gq (v := .int .i64 x932.2.2.1) (Q_ldB (k := 0) (cs := [.int .i64 x932.2.2.1]) H.ok rfl ty3 rfl rfl rfl (fun _ => rfl) rfl) rfl rfl rfl ?_
      replace H := H.f2
      obtain ⟨q995, hq995, ho987⟩ := bnd ho987
      refine ge (E_callV fn45 rfl rfl (c_45 H gle   hq995)) rfl rfl rfl ?_
      rintro _ wd998 ⟨x997, rfl, rfl, H⟩
      try dsimp only at ho987
      refine gq (Q_not rfl) rfl rfl rfl <| nq (Q_pickF rfl rfl) rfl rfl <| nq (Q_assign rfl) rfl rfl <| WL_nil ?_
      replace H := H.f2
      obtain rfl := Option.some.inj ho987
      refine x_A fun a hf => ⟨!x997, rfl, hf.sub ⟨rfl, rfl, rfl, rfl, rfl, rfl, rfl, rfl, trivial⟩, H⟩
    ·rintro a wd999 ⟨x986, rfl, hf, H⟩
     try dsimp only at hB929
     refine CW.at hf ?_
     obtain ⟨o1005, ho1005, hB929⟩ := bnd hB929
     refine C_cut (fun a w' => ∃ (x1004 : Bool), x1004 = o1005 ∧ Fr 80 a [(1, .pointer (some ⟨b517, 0, none⟩)), (3, .pointer (some ⟨b519, 0, none⟩)), (4, .func (.func 45) #[] [.pointer (some ⟨b519, 0, none⟩)].toArray), (14, v1), (15, .int .i64 (x2.length : Int)), (16, .int .i64 x847), (52, .bool x1004)] ∧ Hp C w' ρ (Box b517 [v1, v4] :: Box b519 [.int .i64 (x2.length : Int)] :: hs)) ?_ ?_
     ·refine R_nd <| nq (Q_move rfl) rfl rfl <| nq (Q_not rfl) rfl rfl <| nq (Q_move rfl) rfl rfl ?_
      rcases Bool.eq_false_or_eq_true (!x986) with hb | hb
      ·rw [hb]
       replace ho1005 := itT hb ho1005
       refine gs rfl rfl rfl rfl <| gs rfl rfl rfl rfl <| gs rfl rfl rfl rfl <| gs rfl rfl rfl rfl <| nq (Q_pickT rfl rfl) rfl rfl <| nq (Q_move rfl) rfl rfl <| gs rfl rfl rfl rfl <| gs rfl rfl rfl rfl <| gs rfl rfl rfl rfl <| nq (Q_pickT rfl rfl) rfl rfl <| nq (Q_move rfl) rfl rfl <| gs rfl rfl rfl rfl <| gs rfl rfl rfl rfl <| gs rfl rfl rfl rfl ?_
       refine nq (Q_pickT rfl rfl) rfl rfl <| WL_nil ?_
       replace H := H.e2
       obtain rfl := Option.some.inj ho1005
       refine x_A fun a hf => ⟨true, rfl, hf.sub ⟨rfl, rfl, rfl, rfl, rfl, rfl, rfl, trivial⟩, H⟩
      ·rw [hb]
       replace ho1005 := itF hb ho1005
       refine gq (v := .pointer (some ⟨b972, 0, none⟩)) (Q_fld Tryz.underlying58 rfl ty23 (by decide) rfl rfl) rfl rfl rfl <| gq (v := v944) (Q_ldB (k := 2) (cs := [v944]) H.ok rfl ty23 rfl rfl rfl (fun _ => rfl) rfl) rfl rfl rfl <| gq (Q_move rfl) rfl rfl rfl ?_
       replace H := H.f1
       obtain ⟨q1006, hq1006, ho1005⟩ := bnd ho1005
       refine ge (E_call fn47 rfl (c_47 H gle  r946 hq1006)) rfl rfl rfl ?_
       rintro _ wd1009 ⟨x1008, rfl, rfl, H⟩
       try dsimp only at ho1005
       refine nq (Q_pickF rfl rfl) rfl rfl <| nq (Q_move rfl) rfl rfl ?_
       rcases Bool.eq_false_or_eq_true x1008 with hb | hb
       ·rw [hb]
        replace ho1005 := itT hb ho1005
        refine gs rfl rfl rfl rfl <| gs rfl rfl rfl rfl <| gs rfl rfl rfl rfl <| nq (Q_pickT rfl rfl) rfl rfl <| nq (Q_move rfl) rfl rfl <| gs rfl rfl rfl rfl <| gs rfl rfl rfl rfl <| gs rfl rfl rfl rfl <| nq (Q_pickT rfl rfl) rfl rfl <| WL_nil ?_
        replace H := H.e2.f1
        obtain rfl := Option.some.inj ho1005
        refine x_A fun a hf => ⟨true, rfl, hf.sub ⟨rfl, rfl, rfl, rfl, rfl, rfl, rfl, trivial⟩, H⟩
       ·rw [hb]
        replace ho1005 := itF hb ho1005
        refine gq (v := .pointer (some ⟨b972, 6, none⟩)) (Q_fld Tryz.underlying58 rfl ty3 (by decide) rfl rfl) rfl rfl rfl <| gq (v := .int .i64 x932.2.2.2) (Q_ldB (k := 2) (cs := [.int .i64 x932.2.2.2]) H.ok rfl ty3 rfl rfl rfl (fun _ => rfl) rfl) rfl rfl rfl <| gq (Q_lss rfl rfl) rfl rfl rfl <| nq (Q_pickF rfl rfl) rfl rfl <| nq (Q_move rfl) rfl rfl ?_
        rcases Bool.eq_false_or_eq_true (decide (x932.2.2.2 < (-1))) with hb | hb
        ·rw [hb]
         replace ho1005 := itT hb ho1005
         refine gs rfl rfl rfl rfl <| gs rfl rfl rfl rfl <| gs rfl rfl rfl rfl <| nq (Q_pickT rfl rfl) rfl rfl <| WL_nil ?_
         replace H := H.e2.f1
         obtain rfl := Option.some.inj ho1005
         refine x_A fun a hf => ⟨true, rfl, hf.sub ⟨rfl, rfl, rfl, rfl, rfl, rfl, rfl, trivial⟩, H⟩
        ·rw [hb]
         replace ho1005 := itF hb ho1005
         refine gq (v := .pointer (some ⟨b972, 6, none⟩)) (Q_fld Tryz.underlying58 rfl ty3 (by decide) rfl rfl) rfl rfl rfl <| gq (v := .int .i64 x932.2.2.2) (Q_ldB (k := 2) (cs := [.int .i64 x932.2.2.2]) H.ok rfl ty3 rfl rfl rfl (fun _ => rfl) rfl) rfl rfl rfl <| gq (Q_geq rfl rfl) rfl rfl rfl <| nq (Q_pickF rfl rfl) rfl rfl <| WL_nil ?_
         replace H := H.e2.f1
         obtain rfl := Option.some.inj ho1005
         refine x_A fun a hf => ⟨decide (x932.2.2.2 ≥ 48), rfl, hf.sub ⟨rfl, rfl, rfl, rfl, rfl, rfl, rfl, trivial⟩, H⟩
     ·rintro a wd1010 ⟨x1004, rfl, hf, H⟩
      try dsimp only at hB929
      refine CW.at hf ?_
      refine C_cond rfl (fun hb => ?_) (fun hb => ?_)
      ·replace hB929 := itT hb hB929
       refine C_seq <| R_nd <| nq (Q_assign rfl) rfl rfl <| WL_nil <| x_then <| C_ret <| x_block_ret <| x_then_ret <| x_then_ret <| x_block_ret <| x_then_ret <| x_then_ret ?_
       replace H := H.e1.e0
       obtain rfl := Option.some.inj hB929
       obtain rfl := hO930 _ rfl
       obtain rfl := Option.some.inj (show some _ = some _ from hF)
       exact fn_ret (l := [.tmp 2]) (vs := [.bool false]) rfl rfl rfl ⟨false, rfl, rfl, H⟩
      ·replace hB929 := itF hb hB929
       refine C_skip <| x_block <| x_then <| R_nd <| nq (Q_add rfl rfl) rfl rfl <| nq (Q_move rfl) rfl rfl <| WL_nil ?_
       obtain rfl := Option.some.inj hB929
       refine x_A fun a hf => ⟨_, rfl, w64 (x847 + 1), rfl, hf.sub ⟨rfl, rfl, rfl, rfl, rfl, rfl, trivial⟩, H⟩
   ·replace hB929 := itF hb hB929
    refine C_exit <| x_then_exit <| x_then_exit <| x_block_exit ?_
    obtain rfl := Option.some.inj hB929
    obtain rfl := hO930 _ rfl
    refine x_A fun a hf => ⟨rfl, hf.sub ⟨rfl, rfl, rfl, trivial⟩, H⟩
 ·rintro a wd1011 ⟨rfl, hf, H⟩
  try dsimp only at hF
  refine XX.at hf <| x_then ?_
  obtain ⟨o1013, ho1013, hF⟩ := bnd hF
  refine C_cut (fun a w' => ∃ (x1012 : Bool), x1012 = o1013 ∧ Fr 80 a [(1, .pointer (some ⟨b517, 0, none⟩)), (3, .pointer (some ⟨b519, 0, none⟩)), (4, .func (.func 45) #[] [.pointer (some ⟨b519, 0, none⟩)].toArray), (8, .bool x1012)] ∧ Hp C w' ρ (Box b517 [v1, v4] :: Box b519 [.int .i64 (x2.length : Int)] :: hs)) ?_ ?_
  ·refine R_nd <| nq (v := .pointer (some ⟨b517, 1, none⟩)) (Q_fld Tryz.underlying25 rfl ty23 (by decide) rfl rfl) rfl rfl <| nq (v := v4) (Q_ldB (k := 0) (cs := [v4]) H.ok rfl ty23 rfl rfl rfl (fun _ => rfl) rfl) rfl rfl <| nq (Q_len Tryz.underlying23 rfl r6) rfl rfl <| nq (Q_geq rfl rfl) rfl rfl <| nq (Q_move rfl) rfl rfl ?_
   rcases Bool.eq_false_or_eq_true (decide ((x5.length : Int) ≥ 1)) with hb | hb
   ·rw [hb]
    replace ho1013 := itT hb ho1013
    refine gq (v := .pointer (some ⟨b517, 1, none⟩)) (Q_fld Tryz.underlying25 rfl ty23 (by decide) rfl rfl) rfl rfl rfl <| gq (v := v4) (Q_ldB (k := 0) (cs := [v4]) H.ok rfl ty23 rfl rfl rfl (fun _ => rfl) rfl) rfl rfl rfl <| gq (Q_len Tryz.underlying23 rfl r6) rfl rfl rfl <| gq (Q_leq rfl rfl) rfl rfl rfl <| nq (Q_pickT rfl rfl) rfl rfl <| nq (Q_assign rfl) rfl rfl <| WL_nil ?_
    obtain rfl := Option.some.inj ho1013
    refine x_A fun a hf => ⟨decide ((x5.length : Int) ≤ 8), rfl, hf.sub ⟨rfl, rfl, rfl, rfl, trivial⟩, H⟩
   ·rw [hb]
    replace ho1013 := itF hb ho1013
    refine gs rfl rfl rfl rfl <| gs rfl rfl rfl rfl <| gs rfl rfl rfl rfl <| gs rfl rfl rfl rfl <| nq (Q_pickF rfl rfl) rfl rfl <| nq (Q_assign rfl) rfl rfl <| WL_nil ?_
    obtain rfl := Option.some.inj ho1013
    refine x_A fun a hf => ⟨false, rfl, hf.sub ⟨rfl, rfl, rfl, rfl, trivial⟩, H⟩
  ·rintro a wd1014 ⟨x1012, rfl, hf, H⟩
   try dsimp only at hF
   refine CW.at hf ?_
   obtain ⟨o1020, ho1020, hF⟩ := bnd hF
   refine C_cut (fun a w' => ∃ (x1019 : Bool), x1019 = o1020 ∧ Fr 80 a [(2, .bool x1019)] ∧ Hp C w' ρ (hs)) ?_ ?_
   ·refine R_nd <| nq (Q_move rfl) rfl rfl <| nq (Q_move rfl) rfl rfl ?_
    rcases Bool.eq_false_or_eq_true x1012 with hb | hb
    ·rw [hb]
     replace ho1020 := itT hb ho1020
     refine gq (v := .int .i64 (x2.length : Int)) (Q_ldB (k := 1) (cs := [.int .i64 (x2.length : Int)]) H.ok rfl ty3 rfl rfl rfl (fun _ => rfl) rfl) rfl rfl rfl <| gq (Q_geq rfl rfl) rfl rfl rfl <| nq (Q_pickT rfl rfl) rfl rfl <| nq (Q_move rfl) rfl rfl ?_
     rcases Bool.eq_false_or_eq_true (decide ((x2.length : Int) ≥ 1)) with hb | hb
     ·rw [hb]
      replace ho1020 := itT hb ho1020
      refine gq (v := .int .i64 (x2.length : Int)) (Q_ldB (k := 1) (cs := [.int .i64 (x2.length : Int)]) H.ok rfl ty3 rfl rfl rfl (fun _ => rfl) rfl) rfl rfl rfl <| gq (Q_leq rfl rfl) rfl rfl rfl <| nq (Q_pickT rfl rfl) rfl rfl <| nq (Q_move rfl) rfl rfl ?_
      rcases Bool.eq_false_or_eq_true (decide ((x2.length : Int) ≤ 4000)) with hb | hb
      ·rw [hb]
       replace ho1020 := itT hb ho1020
       refine gq (v := .pointer (some ⟨b517, 1, none⟩)) (Q_fld Tryz.underlying25 rfl ty23 (by decide) rfl rfl) rfl rfl rfl <| gq (v := v4) (Q_ldB (k := 0) (cs := [v4]) H.ok rfl ty23 rfl rfl rfl (fun _ => rfl) rfl) rfl rfl rfl <| gq (Q_move rfl) rfl rfl rfl ?_
       replace H := H.f1
       obtain ⟨q1021, hq1021, ho1020⟩ := bnd ho1020
       refine ge (E_call fn47 rfl (c_47 H gle  r6 hq1021)) rfl rfl rfl ?_
       rintro _ wd1024 ⟨x1023, rfl, rfl, H⟩
       try dsimp only at ho1020
       refine gq (Q_not rfl) rfl rfl rfl <| nq (Q_pickT rfl rfl) rfl rfl <| nq (Q_assign rfl) rfl rfl <| WL_nil ?_
       replace H := H.e1.e0
       obtain rfl := Option.some.inj ho1020
       refine x_A fun a hf => ⟨!x1023, rfl, hf.sub ⟨rfl, trivial⟩, H⟩
      ·rw [hb]
       replace ho1020 := itF hb ho1020
       refine gs rfl rfl rfl rfl <| gs rfl rfl rfl rfl <| gs rfl rfl rfl rfl <| gs rfl rfl rfl rfl <| gs rfl rfl rfl rfl <| nq (Q_pickF rfl rfl) rfl rfl <| nq (Q_assign rfl) rfl rfl <| WL_nil ?_
       replace H := H.e1.e0
       obtain rfl := Option.some.inj ho1020
       refine x_A fun a hf => ⟨false, rfl, hf.sub ⟨rfl, trivial⟩, H⟩
     ·rw [hb]
      replace ho1020 := itF hb ho1020
      refine gs rfl rfl rfl rfl <| gs rfl rfl rfl rfl <| nq (Q_pickF rfl rfl) rfl rfl <| nq (Q_move rfl) rfl rfl <| gs rfl rfl rfl rfl <| gs rfl rfl rfl rfl <| gs rfl rfl rfl rfl <| gs rfl rfl rfl rfl <| gs rfl rfl rfl rfl <| nq (Q_pickF rfl rfl) rfl rfl <| nq (Q_assign rfl) rfl rfl <| WL_nil ?_
      replace H := H.e1.e0
      obtain rfl := Option.some.inj ho1020
      refine x_A fun a hf => ⟨false, rfl, hf.sub ⟨rfl, trivial⟩, H⟩
    ·rw [hb]
     replace ho1020 := itF hb ho1020
     refine gs rfl rfl rfl rfl <| gs rfl rfl rfl rfl <| nq (Q_pickF rfl rfl) rfl rfl <| nq (Q_move rfl) rfl rfl <| gs rfl rfl rfl rfl <| gs rfl rfl rfl rfl <| nq (Q_pickF rfl rfl) rfl rfl <| nq (Q_move rfl) rfl rfl <| gs rfl rfl rfl rfl <| gs rfl rfl rfl rfl <| gs rfl rfl rfl rfl <| gs rfl rfl rfl rfl <| gs rfl rfl rfl rfl <| nq (Q_pickF rfl rfl) rfl rfl ?_
     refine nq (Q_assign rfl) rfl rfl <| WL_nil ?_
     replace H := H.e1.e0
     obtain rfl := Option.some.inj ho1020
     refine x_A fun a hf => ⟨false, rfl, hf.sub ⟨rfl, trivial⟩, H⟩
   ·rintro a wd1025 ⟨x1019, rfl, hf, H⟩
    try dsimp only at hF
    refine CW.at hf <| C_ret ?_
    obtain rfl := Option.some.inj hF
    exact fn_ret (l := [.tmp 2]) (vs := [.bool x1019]) rfl rfl rfl ⟨x1019, rfl, rfl, H⟩
theorem c_18 {N : Nat} {C : Cx} {w : World} {ρ : View} {hs : List Hl} {gV : Nat → Value} {v1 : Value} {v4 : Value} {x2 : (List ((List Int) × (Int × Int × Int × Int) × Int × Int))} {x5 : (List Int)} (H : Hp C w ρ (hs)) (_gle : GErrs ρ 373 errIds gV) (r3 : RdSl ρ (eP (eL (eI .i64)) (eP (eP (eI .u64) (eP (eI .u64) (eP (eI .u64) (eI .u64)))) (eP (eI .i64) (eI .i64)))) v1 x2) (r6 : RdSl ρ (eI .i64) v4 x5) {r : Bool} (hF : F_dofferref15_Right N x2 x5 = some r) :
  Calls Tryz.prog 18 [.agg #[v1, v4]].toArray w (Rets (fun v w' => (∃ (x836 : Bool), x836 = r ∧ .bool x836 = v ∧ Hp C w' ρ (hs)))) := by
 unfold F_dofferref15_Right at hF
 have h0 : Tryz.f18.body = some _ := rfl
 refine fn_calls' Tryz.func18 h0 (n := 99) rfl (by simp) <| C_seq <| R_nd <| ne (E_box H (vs := [v1, v4]) rfl rfl) rfl rfl ?_
 rintro _ wd838 ⟨b837, rfl, H⟩
 refine nq (Q_assign rfl) rfl rfl <| WL_nil <| x_then <| C_seq <| R_nd <| nq (v := .pointer (some ⟨b837, 0, none⟩)) (Q_fld Tryz.underlying29 rfl ty27 (by decide) rfl rfl) rfl rfl <| nq (v := v1) (Q_ldB (k := 0) (cs := [v1]) H.ok rfl ty27 rfl rfl rfl (fun _ => rfl) rfl) rfl rfl <| nq (Q_len Tryz.underlying27 rfl r3) rfl rfl <| nq (Q_assign rfl) rfl rfl <| WL_nil <| x_then <| C_seq ?_
 obtain ⟨o840, ho840, hF⟩ := bnd hF
 refine C_cut (fun a w' => ∃ (x839 : Bool), x839 = o840 ∧ Fr 99 a [(1, .pointer (some ⟨b837, 0, none⟩)), (3, .int .i64 (x2.length : Int)), (30, .bool x839)] ∧ Hp C w' ρ (Box b837 [v1, v4] :: hs)) ?_ ?_
 ·refine R_nd <| nq (Q_move rfl) rfl rfl <| nq (Q_lss rfl rfl) rfl rfl <| nq (Q_move rfl) rfl rfl ?_
  rcases Bool.eq_false_or_eq_true (decide ((x2.length : Int) < 1)) with hb | hb
  ·rw [hb]
   replace ho840 := itT hb ho840
   refine gs rfl rfl rfl rfl <| gs rfl rfl rfl rfl <| nq (Q_pickT rfl rfl) rfl rfl <| nq (Q_move rfl) rfl rfl <| gs rfl rfl rfl rfl <| gs rfl rfl rfl rfl <| gs rfl rfl rfl rfl <| gs rfl rfl rfl rfl <| nq (Q_pickT rfl rfl) rfl rfl <| nq (Q_move rfl) rfl rfl <| gs rfl rfl rfl rfl <| gs rfl rfl rfl rfl <| gs rfl rfl rfl rfl <| gs rfl rfl rfl rfl ?_
   refine nq (Q_pickT rfl rfl) rfl rfl <| WL_nil ?_
   obtain rfl := Option.some.inj ho840
   refine x_A fun a hf => ⟨true, rfl, hf.sub ⟨rfl, rfl, rfl, trivial⟩, H⟩
  ·rw [hb]
   replace ho840 := itF hb ho840
   refine gq (Q_move rfl) rfl rfl rfl <| gq (Q_gtr rfl rfl) rfl rfl rfl <| nq (Q_pickF rfl rfl) rfl rfl <| nq (Q_move rfl) rfl rfl ?_
   rcases Bool.eq_false_or_eq_true (decide ((x2.length : Int) > 4000)) with hb | hb
   ·rw [hb]
    replace ho840 := itT hb ho840
    refine gs rfl rfl rfl rfl <| gs rfl rfl rfl rfl <| gs rfl rfl rfl rfl <| gs rfl rfl rfl rfl <| nq (Q_pickT rfl rfl) rfl rfl <| nq (Q_move rfl) rfl rfl <| gs rfl rfl rfl rfl <| gs rfl rfl rfl rfl <| gs rfl rfl rfl rfl <| gs rfl rfl rfl rfl <| nq (Q_pickT rfl rfl) rfl rfl <| WL_nil ?_
    obtain rfl := Option.some.inj ho840
    refine x_A fun a hf => ⟨true, rfl, hf.sub ⟨rfl, rfl, rfl, trivial⟩, H⟩
   ·rw [hb]
    replace ho840 := itF hb ho840
    refine gq (v := .pointer (some ⟨b837, 1, none⟩)) (Q_fld Tryz.underlying29 rfl ty23 (by decide) rfl rfl) rfl rfl rfl <| gq (v := v4) (Q_ldB (k := 0) (cs := [v4]) H.ok rfl ty23 rfl rfl rfl (fun _ => rfl) rfl) rfl rfl rfl <| gq (Q_len Tryz.underlying23 rfl r6) rfl rfl rfl <| gq (Q_lss rfl rfl) rfl rfl rfl <| nq (Q_pickF rfl rfl) rfl rfl <| nq (Q_move rfl) rfl rfl ?_
    rcases Bool.eq_false_or_eq_true (decide ((x5.length : Int) < 1)) with hb | hb
    ·rw [hb]
     replace ho840 := itT hb ho840
     refine gs rfl rfl rfl rfl <| gs rfl rfl rfl rfl <| gs rfl rfl rfl rfl <| gs rfl rfl rfl rfl <| nq (Q_pickT rfl rfl) rfl rfl <| WL_nil ?_
     obtain rfl := Option.some.inj ho840
     refine x_A fun a hf => ⟨true, rfl, hf.sub ⟨rfl, rfl, rfl, trivial⟩, H⟩
    ·rw [hb]
     replace ho840 := itF hb ho840
     refine gq (v := .pointer (some ⟨b837, 1, none⟩)) (Q_fld Tryz.underlying29 rfl ty23 (by decide) rfl rfl) rfl rfl rfl <| gq (v := v4) (Q_ldB (k := 0) (cs := [v4]) H.ok rfl ty23 rfl rfl rfl (fun _ => rfl) rfl) rfl rfl rfl <| gq (Q_len Tryz.underlying23 rfl r6) rfl rfl rfl <| gq (Q_gtr rfl rfl) rfl rfl rfl <| nq (Q_pickF rfl rfl) rfl rfl <| WL_nil ?_
     obtain rfl := Option.some.inj ho840
     refine x_A fun a hf => ⟨decide ((x5.length : Int) > 8), rfl, hf.sub ⟨rfl, rfl, rfl, trivial⟩, H⟩
 ·rintro a wd841 ⟨x839, rfl, hf, H⟩
  try dsimp only at hF
  refine CW.at hf ?_
  refine C_cond rfl (fun hb => ?_) (fun hb => ?_)
  ·replace hF := itT hb hF
   refine C_seq <| R_nd <| nq (Q_assign rfl) rfl rfl <| WL_nil <| x_then <| C_ret <| x_then_ret ?_
   replace H := H.e0
   obtain rfl := Option.some.inj hF
   exact fn_ret (l := [.tmp 2]) (vs := [.bool false]) rfl rfl rfl ⟨false, rfl, rfl, H⟩
  ·replace hF := itF hb hF
   refine C_skip <| x_then <| C_seq <| C_seq <| R_nd <| nq (v := .pointer (some ⟨b837, 1, none⟩)) (Q_fld Tryz.underlying29 rfl ty23 (by decide) rfl rfl) rfl rfl <| nq (v := v4) (Q_ldB (k := 0) (cs := [v4]) H.ok rfl ty23 rfl rfl rfl (fun _ => rfl) rfl) rfl rfl <| nq (Q_len Tryz.underlying23 rfl r6) rfl rfl <| nq (Q_move rfl) rfl rfl <| WL_nil <| x_then ?_
   obtain ⟨o879, ho879, hF⟩ := bnd hF
   refine C_cutQ (fun a w' => .inl () = o879 ∧ Fr 99 a [(1, .pointer (some ⟨b837, 0, none⟩)), (3, .int .i64 (x2.length : Int))] ∧ Hp C w' ρ (Box b837 [v1, v4] :: hs)) ?_ ?_
   ·refine C_block ?_
    refine C_iter (f := fun s => F_dofferref15_Right_l0 N x2 x5 s) ho879 (fun s a w' => ∃ (x891 : Int), x891 = s ∧ Fr 99 a [(1, .pointer (some ⟨b837, 0, none⟩)), (3, .int .i64 (x2.length : Int)), (32, v4), (33, .int .i64 (x5.length : Int)), (34, .int .i64 x891)] ∧ Hp C w' ρ (Box b837 [v1, v4] :: hs)) ?_ ?_
    ·exact fun a hf => ⟨0, rfl, hf.sub ⟨rfl, rfl, rfl, rfl, rfl, trivial⟩, H⟩
    ·rintro s o903 a wd906 ⟨x891, rfl, hf, H⟩ hB904 hO905
     replace hB904 : F_dofferref15_Right_l0 N x2 x5 x891 = some o903 := hB904
     unfold F_dofferref15_Right_l0 at hB904
     refine CW.at hf <| C_seq <| R_nd <| nq (Q_lss rfl rfl) rfl rfl <| WL_nil <| x_then <| C_seq ?_
     refine C_cond rfl (fun hb => ?_) (fun hb => ?_)
     ·replace hB904 := itT hb hB904
      refine C_skip <| x_then <| C_seq <| C_block <| C_seq <| R_nd ?_
      obtain ⟨x907, hx907, hB904⟩ := bnd hB904
      obtain ⟨b908, o909, c910, hc911, ha912, hi913⟩ := idxR r6 hx907
      refine nq (Q_idx hi913 Tryz.underlying23 ty3 rfl rfl) rfl rfl <| nq (v := .int .i64 x907) (Q_ld (show cellsAt _ _ _ [.int .i64 x907] from (show _ = [_] from hc911) ▸ (ha912.up H.ok.view)) ty3 rfl (fun _ => rfl) rfl rfl) rfl rfl <| nq (Q_assign rfl) rfl rfl <| WL_nil <| x_then ?_
      obtain ⟨o915, ho915, hB904⟩ := bnd hB904
      refine C_cut (fun a w' => ∃ (x914 : Bool), x914 = o915 ∧ Fr 99 a [(1, .pointer (some ⟨b837, 0, none⟩)), (3, .int .i64 (x2.length : Int)), (32, v4), (33, .int .i64 (x5.length : Int)), (34, .int .i64 x891), (44, .bool x914)] ∧ Hp C w' ρ (Box b837 [v1, v4] :: hs)) ?_ ?_
      ·refine R_nd <| nq (Q_move rfl) rfl rfl <| nq (Q_lss rfl rfl) rfl rfl <| nq (Q_move rfl) rfl rfl ?_
       rcases Bool.eq_false_or_eq_true (decide (x907 < 0)) with hb | hb
       ·rw [hb]
        replace ho915 := itT hb ho915
        refine gs rfl rfl rfl rfl <| gs rfl rfl rfl rfl <| gs rfl rfl rfl rfl <| nq (Q_pickT rfl rfl) rfl rfl <| WL_nil ?_
        obtain rfl := Option.some.inj ho915
        refine x_A fun a hf => ⟨true, rfl, hf.sub ⟨rfl, rfl, rfl, rfl, rfl, rfl, trivial⟩, H⟩
       ·rw [hb]
        replace ho915 := itF hb ho915
        refine gq (Q_move rfl) rfl rfl rfl <| gq (Q_move rfl) rfl rfl rfl <| gq (Q_geq rfl rfl) rfl rfl rfl <| nq (Q_pickF rfl rfl) rfl rfl <| WL_nil ?_
        obtain rfl := Option.some.inj ho915
        refine x_A fun a hf => ⟨decide (x907 ≥ (x2.length : Int)), rfl, hf.sub ⟨rfl, rfl, rfl, rfl, rfl, rfl, trivial⟩, H⟩
      ·rintro a wd916 ⟨x914, rfl, hf, H⟩
       try dsimp only at hB904
       refine CW.at hf ?_
       refine C_cond rfl (fun hb => ?_) (fun hb => ?_)
       ·replace hB904 := itT hb hB904
        refine C_seq <| R_nd <| nq (Q_assign rfl) rfl rfl <| WL_nil <| x_then <| C_ret <| x_block_ret <| x_then_ret <| x_then_ret <| x_block_ret <| x_then_ret <| x_then_ret ?_
        replace H := H.e0
        obtain rfl := Option.some.inj hB904
        obtain rfl := hO905 _ rfl
        obtain rfl := Option.some.inj (show some _ = some _ from hF)
        exact fn_ret (l := [.tmp 2]) (vs := [.bool false]) rfl rfl rfl ⟨false, rfl, rfl, H⟩
       ·replace hB904 := itF hb hB904
        refine C_skip <| x_block <| x_then <| R_nd <| nq (Q_add rfl rfl) rfl rfl <| nq (Q_move rfl) rfl rfl <| WL_nil ?_
        obtain rfl := Option.some.inj hB904
        refine x_A fun a hf => ⟨_, rfl, w64 (x891 + 1), rfl, hf.sub ⟨rfl, rfl, rfl, rfl, rfl, trivial⟩, H⟩
     ·replace hB904 := itF hb hB904
      refine C_exit <| x_then_exit <| x_then_exit <| x_block_exit ?_
      obtain rfl := Option.some.inj hB904
      obtain rfl := hO905 _ rfl
      refine x_A fun a hf => ⟨rfl, hf.sub ⟨rfl, rfl, trivial⟩, H⟩
   ·rintro a wd917 ⟨rfl, hf, H⟩
    try dsimp only at hF
    refine XX.at hf <| x_then <| C_seq <| C_seq <| R_nd <| nq (v := .pointer (some ⟨b837, 0, none⟩)) (Q_fld Tryz.underlying29 rfl ty27 (by decide) rfl rfl) rfl rfl <| nq (v := v1) (Q_ldB (k := 0) (cs := [v1]) H.ok rfl ty27 rfl rfl rfl (fun _ => rfl) rfl) rfl rfl <| nq (Q_len Tryz.underlying27 rfl r3) rfl rfl <| nq (Q_move rfl) rfl rfl <| WL_nil <| x_then ?_
    obtain ⟨o1291, ho1291, hF⟩ := bnd hF
    refine C_cutQ (fun a w' => .inl () = o1291 ∧ Fr 99 a [] ∧ Hp C w' ρ (hs)) ?_ ?_
    ·refine C_block ?_
     replace H := H.e0
     refine C_iter (f := fun s => F_dofferref15_Right_l1 N x2 s) ho1291 (fun s a w' => ∃ (x1415 : Int), x1415 = s ∧ Fr 99 a [(3, .int .i64 (x2.length : Int)), (47, v1), (48, .int .i64 (x2.length : Int)), (49, .int .i64 x1415)] ∧ Hp C w' ρ (hs)) ?_ ?_
     ·exact fun a hf => ⟨0, rfl, hf.sub ⟨rfl, rfl, rfl, rfl, trivial⟩, H⟩
     ·rintro s o1539 a wd1542 ⟨x1415, rfl, hf, H⟩ hB1540 hO1541
      replace hB1540 : F_dofferref15_Right_l1 N x2 x1415 = some o1539 := hB1540
      unfold F_dofferref15_Right_l1 at hB1540
      refine CW.at hf <| C_seq <| R_nd <| nq (Q_lss rfl rfl) rfl rfl <| WL_nil <| x_then <| C_seq ?_
      refine C_cond rfl (fun hb => ?_) (fun hb => ?_)
      ·replace hB1540 := itT hb hB1540
       refine C_skip <| x_then <| C_seq <| C_block <| C_seq <| R_nd ?_
       obtain ⟨x1543, hx1543, hB1540⟩ := bnd hB1540
       obtain ⟨b1544, o1545, c1546, hc1547, ha1548, hi1549⟩ := idxR r3 hx1543
       refine nq (Q_idx hi1549 Tryz.underlying27 ty72 rfl rfl) rfl rfl ?_
       obtain ⟨c1550, c1551, he1552, hc1553, hc1554⟩ := (id hc1547)
       obtain ⟨v1555, he1556, r1557⟩ := hc1553
       obtain ⟨c1558, c1559, he1560, hc1561, hc1562⟩ := hc1554
       obtain ⟨c1563, c1564, he1565, hc1566, hc1567⟩ := hc1561
       obtain ⟨c1568, c1569, he1570, hc1571, hc1572⟩ := hc1567
       obtain ⟨c1573, c1574, he1575, hc1576, hc1577⟩ := hc1572
       obtain ⟨c1578, c1579, he1580, hc1581, hc1582⟩ := hc1562
       refine nq (v := .agg #[v1555, .int .u64 x1543.2.1.1, .int .u64 x1543.2.1.2.1, .int .u64 x1543.2.1.2.2.1, .int .u64 x1543.2.1.2.2.2, .int .i64 x1543.2.2.1, .int .i64 x1543.2.2.2]) (Q_ld (show cellsAt _ _ _ [v1555, .int .u64 x1543.2.1.1, .int .u64 x1543.2.1.2.1, .int .u64 x1543.2.1.2.2.1, .int .u64 x1543.2.1.2.2.2, .int .i64 x1543.2.2.1, .int .i64 x1543.2.2.2] from cellsAt.cg (cat2 he1552 he1556 (cat2 he1560 (cat2 he1565 (rdI hc1566) (cat2 he1570 (rdI hc1571) (cat2 he1575 (rdI hc1576) (rdI hc1577)))) (cat2 he1580 (rdI hc1581) (rdI hc1582)))) (ha1548.up H.ok.view)) ty72 rfl (fun h => nomatch h) rfl rfl) rfl rfl <| ne (E_alloc H ty72 (zs := [.slice none 0 0, .int .u64 0, .int .u64 0, .int .u64 0, .int .u64 0, .int .i64 0, .int .i64 0]) rfl) rfl rfl ?_
       rintro _ wd1584 ⟨b1583, rfl, H⟩
       refine ne (E_stB (k := 0) (cs := [v1555, .int .u64 x1543.2.1.1, .int .u64 x1543.2.1.2.1, .int .u64 x1543.2.1.2.2.1, .int .u64 x1543.2.1.2.2.2, .int .i64 x1543.2.2.1, .int .i64 x1543.2.2.2]) (vs' := [v1555, .int .u64 x1543.2.1.1, .int .u64 x1543.2.1.2.1, .int .u64 x1543.2.1.2.2.1, .int .u64 x1543.2.1.2.2.2, .int .i64 x1543.2.2.1, .int .i64 x1543.2.2.2]) H rfl ty72 rfl rfl rfl rfl (one_cons (RdSl.one r1557) (one_cons rfl (one_cons rfl (one_cons rfl (one_cons rfl (one_cons rfl (one_cons rfl one_nil))))))) (by simp) rfl) rfl rfl ?_
       rintro _ wd1585 H
       dsimp only [List.set] at H
       refine WL_nil <| x_then <| C_seq ?_
       obtain ⟨o1587, ho1587, hB1540⟩ := bnd hB1540
       refine C_cut (fun a w' => ∃ (x1586 : Bool), x1586 = o1587 ∧ Fr 99 a [(3, .int .i64 (x2.length : Int)), (7, .pointer (some ⟨b1583, 0, none⟩)), (47, v1), (48, .int .i64 (x2.length : Int)), (49, .int .i64 x1415), (82, .bool x1586)] ∧ Hp C w' ρ (Box b1583 [v1555, .int .u64 x1543.2.1.1, .int .u64 x1543.2.1.2.1, .int .u64 x1543.2.1.2.2.1, .int .u64 x1543.2.1.2.2.2, .int .i64 x1543.2.2.1, .int .i64 x1543.2.2.2] :: hs)) ?_ ?_
       ·refine R_nd <| nq (v := .pointer (some ⟨b1583, 5, none⟩)) (Q_fld Tryz.underlying72 rfl ty3 (by decide) rfl rfl) rfl rfl <| nq (v := .int .i64 x1543.2.2.1) (Q_ldB (k := 0) (cs := [.int .i64 x1543.2.2.1]) H.ok rfl ty3 rfl rfl rfl (fun _ => rfl) rfl) rfl rfl <| nq (Q_lss rfl rfl) rfl rfl <| nq (Q_move rfl) rfl rfl ?_
        rcases Bool.eq_false_or_eq_true (decide (x1543.2.2.1 < (-1))) with hb | hb
        ·rw [hb]
         replace ho1587 := itT hb ho1587
         refine gs rfl rfl rfl rfl <| gs rfl rfl rfl rfl <| gs rfl rfl rfl rfl <| gs rfl rfl rfl rfl <| nq (Q_pickT rfl rfl) rfl rfl <| nq (Q_move rfl) rfl rfl <| gs rfl rfl rfl rfl <| gs rfl rfl rfl rfl <| gs rfl rfl rfl rfl <| nq (Q_pickT rfl rfl) rfl rfl <| nq (Q_move rfl) rfl rfl <| gs rfl rfl rfl rfl <| gs rfl rfl rfl rfl <| gs rfl rfl rfl rfl ?_
         refine nq (Q_pickT rfl rfl) rfl rfl <| nq (Q_move rfl) rfl rfl <| gs rfl rfl rfl rfl <| gs rfl rfl rfl rfl <| gs rfl rfl rfl rfl <| gs rfl rfl rfl rfl <| gsu rfl ⟨_, _, rfl, rfl, rfl⟩ rfl <| gsu rfl ⟨_, _, rfl, rfl, rfl⟩ rfl <| gsu rfl ⟨_, _, rfl, rfl, rfl⟩ rfl <| gsu rfl ⟨_, _, rfl, rfl, rfl⟩ rfl <| gs rfl rfl rfl rfl <| nq (Q_pickT rfl rfl) rfl rfl <| WL_nil ?_
         obtain rfl := Option.some.inj ho1587
         refine x_A fun a hf => ⟨true, rfl, hf.sub ⟨rfl, rfl, rfl, rfl, rfl, rfl, trivial⟩, H⟩
        ·rw [hb]
         replace ho1587 := itF hb ho1587
         refine gq (v := .pointer (some ⟨b1583, 5, none⟩)) (Q_fld Tryz.underlying72 rfl ty3 (by decide) rfl rfl) rfl rfl rfl <| gq (v := .int .i64 x1543.2.2.1) (Q_ldB (k := 0) (cs := [.int .i64 x1543.2.2.1]) H.ok rfl ty3 rfl rfl rfl (fun _ => rfl) rfl) rfl rfl rfl <| gq (Q_move rfl) rfl rfl rfl <| gq (Q_geq rfl rfl) rfl rfl rfl <| nq (Q_pickF rfl rfl) rfl rfl <| nq (Q_move rfl) rfl rfl ?_
         rcases Bool.eq_false_or_eq_true (decide (x1543.2.2.1 ≥ (x2.length : Int))) with hb | hb
         ·rw [hb]
          replace ho1587 := itT hb ho1587
          refine gs rfl rfl rfl rfl <| gs rfl rfl rfl rfl <| gs rfl rfl rfl rfl <| nq (Q_pickT rfl rfl) rfl rfl <| nq (Q_move rfl) rfl rfl <| gs rfl rfl rfl rfl <| gs rfl rfl rfl rfl <| gs rfl rfl rfl rfl <| nq (Q_pickT rfl rfl) rfl rfl <| nq (Q_move rfl) rfl rfl <| gs rfl rfl rfl rfl <| gs rfl rfl rfl rfl <| gs rfl rfl rfl rfl <| gs rfl rfl rfl rfl ?_
          refine gsu rfl ⟨_, _, rfl, rfl, rfl⟩ rfl <| gsu rfl ⟨_, _, rfl, rfl, rfl⟩ rfl <| gsu rfl ⟨_, _, rfl, rfl, rfl⟩ rfl <| gsu rfl ⟨_, _, rfl, rfl, rfl⟩ rfl <| gs rfl rfl rfl rfl <| nq (Q_pickT rfl rfl) rfl rfl <| WL_nil ?_
          obtain rfl := Option.some.inj ho1587
          refine x_A fun a hf => ⟨true, rfl, hf.sub ⟨rfl, rfl, rfl, rfl, rfl, rfl, trivial⟩, H⟩
         ·rw [hb]
          replace ho1587 := itF hb ho1587
          refine gq (v := .pointer (some ⟨b1583, 6, none⟩)) (Q_fld Tryz.underlying72 rfl ty3 (by decide) rfl rfl) rfl rfl rfl <| gq (v := .int .i64 x1543.2.2.2) (Q_ldB (k := 0) (cs := [.int .i64 x1543.2.2.2]) H.ok rfl ty3 rfl rfl rfl (fun _ => rfl) rfl) rfl rfl rfl <| gq (Q_lss rfl rfl) rfl rfl rfl <| nq (Q_pickF rfl rfl) rfl rfl <| nq (Q_move rfl) rfl rfl ?_
          rcases Bool.eq_false_or_eq_true (decide (x1543.2.2.2 < (-1))) with hb | hb
          ·rw [hb]
           replace ho1587 := itT hb ho1587
           refine gs rfl rfl rfl rfl <| gs rfl rfl rfl rfl <| gs rfl rfl rfl rfl <| nq (Q_pickT rfl rfl) rfl rfl <| nq (Q_move rfl) rfl rfl <| gs rfl rfl rfl rfl <| gs rfl rfl rfl rfl <| gs rfl rfl rfl rfl <| gs rfl rfl rfl rfl <| gsu rfl ⟨_, _, rfl, rfl, rfl⟩ rfl <| gsu rfl ⟨_, _, rfl, rfl, rfl⟩ rfl <| gsu rfl ⟨_, _, rfl, rfl, rfl⟩ rfl <| gsu rfl ⟨_, _, rfl, rfl, rfl⟩ rfl <| gs rfl rfl rfl rfl ?_
           refine nq (Q_pickT rfl rfl) rfl rfl <| WL_nil ?_
           obtain rfl := Option.some.inj ho1587
           refine x_A fun a hf => ⟨true, rfl, hf.sub ⟨rfl, rfl, rfl, rfl, rfl, rfl, trivial⟩, H⟩
          ·rw [hb]
           replace ho1587 := itF hb ho1587
           refine gq (v := .pointer (some ⟨b1583, 6, none⟩)) (Q_fld Tryz.underlying72 rfl ty3 (by decide) rfl rfl) rfl rfl rfl <| gq (v := .int .i64 x1543.2.2.2) (Q_ldB (k := 0) (cs := [.int .i64 x1543.2.2.2]) H.ok rfl ty3 rfl rfl rfl (fun _ => rfl) rfl) rfl rfl rfl <| gq (Q_gtr rfl rfl) rfl rfl rfl <| nq (Q_pickF rfl rfl) rfl rfl <| nq (Q_move rfl) rfl rfl ?_
           rcases Bool.eq_false_or_eq_true (decide (x1543.2.2.2 > 47)) with hb | hb
           ·rw [hb]
            replace ho1587 := itT hb ho1587
            refine gs rfl rfl rfl rfl <| gs rfl rfl rfl rfl <| gs rfl rfl rfl rfl <| gs rfl rfl rfl rfl <| gsu rfl ⟨_, _, rfl, rfl, rfl⟩ rfl <| gsu rfl ⟨_, _, rfl, rfl, rfl⟩ rfl <| gsu rfl ⟨_, _, rfl, rfl, rfl⟩ rfl <| gsu rfl ⟨_, _, rfl, rfl, rfl⟩ rfl <| gs rfl rfl rfl rfl <| nq (Q_pickT rfl rfl) rfl rfl <| WL_nil ?_
            obtain rfl := Option.some.inj ho1587
            refine x_A fun a hf => ⟨true, rfl, hf.sub ⟨rfl, rfl, rfl, rfl, rfl, rfl, trivial⟩, H⟩
           ·rw [hb]
            replace ho1587 := itF hb ho1587
            refine gq (v := .pointer (some ⟨b1583, 5, none⟩)) (Q_fld Tryz.underlying72 rfl ty3 (by decide) rfl rfl) rfl rfl rfl <| gq (v := .int .i64 x1543.2.2.1) (Q_ldB (k := 0) (cs := [.int .i64 x1543.2.2.1]) H.ok rfl ty3 rfl rfl rfl (fun _ => rfl) rfl) rfl rfl rfl <| gq (Q_eql rfl rfl) rfl rfl rfl <| gq (Q_move rfl) rfl rfl rfl ?_
            rcases Bool.eq_false_or_eq_true (x1543.2.2.1 == (-1)) with hb | hb
            ·rw [hb]
             replace ho1587 := itT hb ho1587
             refine gq (v := .pointer (some ⟨b1583, 1, none⟩)) (Q_fld Tryz.underlying72 rfl ty55 (by decide) rfl rfl) rfl rfl rfl <| gq (v := .agg #[.int .u64 x1543.2.1.1, .int .u64 x1543.2.1.2.1, .int .u64 x1543.2.1.2.2.1, .int .u64 x1543.2.1.2.2.2]) (Q_ldB (k := 0) (cs := [.int .u64 x1543.2.1.1, .int .u64 x1543.2.1.2.1, .int .u64 x1543.2.1.2.2.1, .int .u64 x1543.2.1.2.2.2]) H.ok rfl ty55 rfl rfl rfl (fun h => nomatch h) rfl) rfl rfl rfl <| gq (v := .agg #[.int .u64 0, .int .u64 0, .int .u64 0, .int .u64 0]) (Q_build0 (zs := [.int .u64 0, .int .u64 0, .int .u64 0, .int .u64 0]) ty55 Tryz.underlying55 ty54 rfl) rfl rfl rfl <| gq (v := .bool (([x1543.2.1.1, x1543.2.1.2.1, x1543.2.1.2.2.1, x1543.2.1.2.2.2] : List Int) != ([0, 0, 0, 0] : List Int))) (Q_neqA (xs := ([x1543.2.1.1, x1543.2.1.2.1, x1543.2.1.2.2.1, x1543.2.1.2.2.2] : List Int)) (ys := ([0, 0, 0, 0] : List Int)) Tryz.underlying55 ty54 (by kernel_rfl) Tryz.underlying54 (rdL_ints .u64 ρ ([x1543.2.1.1, x1543.2.1.2.1, x1543.2.1.2.2.1, x1543.2.1.2.2.2] : List Int)) rfl (rdL_ints .u64 ρ ([0, 0, 0, 0] : List Int)) rfl rfl rfl) rfl rfl rfl <| gq (Q_pickT rfl rfl) rfl rfl rfl <| nq (Q_pickF rfl rfl) rfl rfl <| WL_nil ?_
             obtain rfl := Option.some.inj ho1587
             refine x_A fun a hf => ⟨([x1543.2.1.1, x1543.2.1.2.1, x1543.2.1.2.2.1, x1543.2.1.2.2.2] : List Int) != ([0, 0, 0, 0] : List Int), rfl, hf.sub ⟨rfl, rfl, rfl, rfl, rfl, rfl, trivial⟩, H⟩
            ·rw [hb]
             replace ho1587 := itF hb ho1587
             refine gs rfl rfl rfl rfl <| gs rfl rfl rfl rfl <| gs rfl rfl rfl rfl <| gs rfl rfl rfl rfl <| gq (Q_pickF rfl rfl) rfl rfl rfl <| nq (Q_pickF rfl rfl) rfl rfl <| WL_nil ?_
             obtain rfl := Option.some.inj ho1587
             refine x_A fun a hf => ⟨false, rfl, hf.sub ⟨rfl, rfl, rfl, rfl, rfl, rfl, trivial⟩, H⟩
       ·rintro a wd1588 ⟨x1586, rfl, hf, H⟩
        try dsimp only at hB1540
        refine CW.at hf ?_
        refine C_cond rfl (fun hb => ?_) (fun hb => ?_)
        ·replace hB1540 := itT hb hB1540
         refine C_seq <| R_nd <| nq (Q_assign rfl) rfl rfl <| WL_nil <| x_then <| C_ret <| x_then_ret <| x_block_ret <| x_then_ret <| x_then_ret <| x_block_ret <| x_then_ret <| x_then_ret ?_
         replace H := H.e0
         obtain rfl := Option.some.inj hB1540
         obtain rfl := hO1541 _ rfl
         obtain rfl := Option.some.inj (show some _ = some _ from hF)
         exact fn_ret (l := [.tmp 2]) (vs := [.bool false]) rfl rfl rfl ⟨false, rfl, rfl, H⟩
        ·replace hB1540 := itF hb hB1540
         refine C_skip <| x_then <| C_seq <| R_nd <| nq (v := .pointer (some ⟨b1583, 0, none⟩)) (Q_fld Tryz.underlying72 rfl ty23 (by decide) rfl rfl) rfl rfl <| nq (v := v1555) (Q_ldB (k := 0) (cs := [v1555]) H.ok rfl ty23 rfl rfl rfl (fun _ => rfl) rfl) rfl rfl <| nq (Q_len Tryz.underlying23 rfl r1557) rfl rfl <| nq (Q_move rfl) rfl rfl <| WL_nil <| x_then ?_
         obtain ⟨o1626, ho1626, hB1540⟩ := bnd hB1540
         refine C_cutQ (fun a w' => .inl () = o1626 ∧ Fr 99 a [(3, .int .i64 (x2.length : Int)), (47, v1), (48, .int .i64 (x2.length : Int)), (49, .int .i64 x1415)] ∧ Hp C w' ρ (hs)) ?_ ?_
         ·refine C_block ?_
          replace H := H.e0
          refine C_iter (f := fun s => F_dofferref15_Right_l2 N x2 x1543 s) ho1626 (fun s a w' => ∃ (x1638 : Int), x1638 = s ∧ Fr 99 a [(3, .int .i64 (x2.length : Int)), (47, v1), (48, .int .i64 (x2.length : Int)), (49, .int .i64 x1415), (84, v1555), (85, .int .i64 (x1543.1.length : Int)), (86, .int .i64 x1638)] ∧ Hp C w' ρ (hs)) ?_ ?_
          ·exact fun a hf => ⟨0, rfl, hf.sub ⟨rfl, rfl, rfl, rfl, rfl, rfl, rfl, trivial⟩, H⟩
          ·rintro s o1650 a wd1653 ⟨x1638, rfl, hf, H⟩ hB1651 hO1652
           replace hB1651 : F_dofferref15_Right_l2 N x2 x1543 x1638 = some o1650 := hB1651
           unfold F_dofferref15_Right_l2 at hB1651
           refine CW.at hf <| C_seq <| R_nd <| nq (Q_lss rfl rfl) rfl rfl <| WL_nil <| x_then <| C_seq ?_
           refine C_cond rfl (fun hb => ?_) (fun hb => ?_)
           ·replace hB1651 := itT hb hB1651
            refine C_skip <| x_then <| C_seq <| C_block <| C_seq <| R_nd ?_
            obtain ⟨x1654, hx1654, hB1651⟩ := bnd hB1651
            obtain ⟨b1655, o1656, c1657, hc1658, ha1659, hi1660⟩ := idxR r1557 hx1654
            refine nq (Q_idx hi1660 Tryz.underlying23 ty3 rfl rfl) rfl rfl <| nq (v := .int .i64 x1654) (Q_ld (show cellsAt _ _ _ [.int .i64 x1654] from (show _ = [_] from hc1658) ▸ (ha1659.up H.ok.view)) ty3 rfl (fun _ => rfl) rfl rfl) rfl rfl <| nq (Q_assign rfl) rfl rfl <| WL_nil <| x_then ?_
            obtain ⟨o1662, ho1662, hB1651⟩ := bnd hB1651
            refine C_cut (fun a w' => ∃ (x1661 : Bool), x1661 = o1662 ∧ Fr 99 a [(3, .int .i64 (x2.length : Int)), (47, v1), (48, .int .i64 (x2.length : Int)), (49, .int .i64 x1415), (84, v1555), (85, .int .i64 (x1543.1.length : Int)), (86, .int .i64 x1638), (96, .bool x1661)] ∧ Hp C w' ρ (hs)) ?_ ?_
            ·refine R_nd <| nq (Q_move rfl) rfl rfl <| nq (Q_lss rfl rfl) rfl rfl <| nq (Q_move rfl) rfl rfl ?_
             rcases Bool.eq_false_or_eq_true (decide (x1654 < 0)) with hb | hb
             ·rw [hb]
              replace ho1662 := itT hb ho1662
              refine gs rfl rfl rfl rfl <| gs rfl rfl rfl rfl <| gs rfl rfl rfl rfl <| nq (Q_pickT rfl rfl) rfl rfl <| WL_nil ?_
              obtain rfl := Option.some.inj ho1662
              refine x_A fun a hf => ⟨true, rfl, hf.sub ⟨rfl, rfl, rfl, rfl, rfl, rfl, rfl, rfl, trivial⟩, H⟩
             ·rw [hb]
              replace ho1662 := itF hb ho1662
              refine gq (Q_move rfl) rfl rfl rfl <| gq (Q_move rfl) rfl rfl rfl <| gq (Q_geq rfl rfl) rfl rfl rfl <| nq (Q_pickF rfl rfl) rfl rfl <| WL_nil ?_
              obtain rfl := Option.some.inj ho1662
              refine x_A fun a hf => ⟨decide (x1654 ≥ (x2.length : Int)), rfl, hf.sub ⟨rfl, rfl, rfl, rfl, rfl, rfl, rfl, rfl, trivial⟩, H⟩
            ·rintro a wd1663 ⟨x1661, rfl, hf, H⟩
             try dsimp only at hB1651
             refine CW.at hf ?_
             refine C_cond rfl (fun hb => ?_) (fun hb => ?_)
             ·replace hB1651 := itT hb hB1651
              refine C_seq <| R_nd <| nq (Q_assign rfl) rfl rfl <| WL_nil <| x_then <| C_ret <| x_block_ret <| x_then_ret <| x_then_ret <| x_block_ret <| x_then_ret <| x_block_ret <| x_then_ret <| x_then_ret ?_
              refine x_block_ret <| x_then_ret <| x_then_ret ?_
              obtain rfl := Option.some.inj hB1651
              obtain rfl := hO1652 _ rfl
              obtain rfl := Option.some.inj (show some _ = some _ from hB1540)
              obtain rfl := hO1541 _ rfl
              obtain rfl := Option.some.inj (show some _ = some _ from hF)
              exact fn_ret (l := [.tmp 2]) (vs := [.bool false]) rfl rfl rfl ⟨false, rfl, rfl, H⟩
             ·replace hB1651 := itF hb hB1651
              refine C_skip <| x_block <| x_then <| R_nd <| nq (Q_add rfl rfl) rfl rfl <| nq (Q_move rfl) rfl rfl <| WL_nil ?_
              obtain rfl := Option.some.inj hB1651
              refine x_A fun a hf => ⟨_, rfl, w64 (x1638 + 1), rfl, hf.sub ⟨rfl, rfl, rfl, rfl, rfl, rfl, rfl, trivial⟩, H⟩
           ·replace hB1651 := itF hb hB1651
            refine C_exit <| x_then_exit <| x_then_exit <| x_block_exit ?_
            obtain rfl := Option.some.inj hB1651
            obtain rfl := hO1652 _ rfl
            refine x_A fun a hf => ⟨rfl, hf.sub ⟨rfl, rfl, rfl, rfl, trivial⟩, H⟩
         ·rintro a wd1664 ⟨rfl, hf, H⟩
          try dsimp only at hB1540
          refine XX.at hf <| x_block <| x_then <| R_nd <| nq (Q_add rfl rfl) rfl rfl <| nq (Q_move rfl) rfl rfl <| WL_nil ?_
          obtain rfl := Option.some.inj hB1540
          refine x_A fun a hf => ⟨_, rfl, w64 (x1415 + 1), rfl, hf.sub ⟨rfl, rfl, rfl, rfl, trivial⟩, H⟩
      ·replace hB1540 := itF hb hB1540
       refine C_exit <| x_then_exit <| x_then_exit <| x_block_exit ?_
       obtain rfl := Option.some.inj hB1540
       obtain rfl := hO1541 _ rfl
       refine x_A fun a hf => ⟨rfl, hf.sub trivial, H⟩
    ·rintro a wd1665 ⟨rfl, hf, H⟩
     try dsimp only at hF
     refine XX.at hf <| x_then <| C_seq <| R_nd <| nq (Q_assign rfl) rfl rfl <| WL_nil <| x_then <| C_ret ?_
     obtain rfl := Option.some.inj hF
     exact fn_ret (l := [.tmp 2]) (vs := [.bool true]) rfl rfl rfl ⟨true, rfl, rfl, H⟩
theorem c_48 {N : Nat} {C : Cx} {w : World} {ρ : View} {hs : List Hl} {gV : Nat → Value} {v1 : Value} {v4 : Value} {x2 : (List Int)} {x5 : (List Int)} (H : Hp C w ρ (hs)) (_gle : GErrs ρ 373 errIds gV) (r3 : RdSl ρ (eI .i64) v1 x2) (r6 : RdSl ρ (eI .i64) v4 x5) {r : Bool} (hF : F_slices_Equal_int_int N x2 x5 = some r) :
  Calls Tryz.prog 48 [v1, v4].toArray w (Rets (fun v w' => (∃ (x107 : Bool), x107 = r ∧ .bool x107 = v ∧ Hp C w' ρ (hs)))) := by
 unfold F_slices_Equal_int_int at hF
 have h0 : Tryz.f48.body = some _ := rfl
 refine fn_calls' Tryz.func48 h0 (n := 26) rfl (by simp) <| C_seq <| R_nd <| nq (Q_assign rfl) rfl rfl <| WL_nil <| x_then <| C_seq <| C_seq <| R_nd <| nq (Q_move rfl) rfl rfl <| nq (Q_len Tryz.underlying23 rfl r3) rfl rfl <| nq (Q_move rfl) rfl rfl <| nq (Q_len Tryz.underlying23 rfl r6) rfl rfl <| nq (Q_neq rfl rfl) rfl rfl ?_
 refine WL_nil <| x_then ?_
 refine C_cond rfl (fun hb => ?_) (fun hb => ?_)
 ·replace hF := itT hb hF
  refine C_seq <| R_nd <| nq (Q_assign rfl) rfl rfl <| WL_nil <| x_then <| C_ret <| x_then_ret ?_
  obtain rfl := Option.some.inj hF
  exact fn_ret (l := [.tmp 4]) (vs := [.bool false]) rfl rfl rfl ⟨false, rfl, rfl, H⟩
 ·replace hF := itF hb hF
  refine C_skip <| x_then <| C_seq <| C_seq <| R_nd <| nq (Q_move rfl) rfl rfl <| nq (Q_len Tryz.underlying23 rfl r3) rfl rfl <| nq (Q_move rfl) rfl rfl <| WL_nil <| x_then ?_
  obtain ⟨o157, ho157, hF⟩ := bnd hF
  refine C_cutQ (fun a w' => .inl () = o157 ∧ Fr 26 a [] ∧ Hp C w' ρ (hs)) ?_ ?_
  ·refine C_block ?_
   refine C_iter (f := fun s => F_slices_Equal_int_int_l0 N x2 x5 s) ho157 (fun s a w' => ∃ (x173 : Int), x173 = s ∧ Fr 26 a [(0, v1), (1, v4), (12, .int .i64 (x2.length : Int)), (13, .int .i64 x173)] ∧ Hp C w' ρ (hs)) ?_ ?_
   ·exact fun a hf => ⟨0, rfl, hf.sub ⟨rfl, rfl, rfl, rfl, trivial⟩, H⟩
   ·rintro s o189 a wd192 ⟨x173, rfl, hf, H⟩ hB190 hO191
    replace hB190 : F_slices_Equal_int_int_l0 N x2 x5 x173 = some o189 := hB190
    unfold F_slices_Equal_int_int_l0 at hB190
    refine CW.at hf <| C_seq <| R_nd <| nq (Q_lss rfl rfl) rfl rfl <| WL_nil <| x_then <| C_seq ?_
    refine C_cond rfl (fun hb => ?_) (fun hb => ?_)
    ·replace hB190 := itT hb hB190
     refine C_skip <| x_then <| C_seq <| C_block <| C_seq <| R_nd <| nq (Q_move rfl) rfl rfl <| nq (Q_assign rfl) rfl rfl <| WL_nil <| x_then <| C_seq <| H.dr (.take 0 (.take 1 (.take 2 (.take 3 (.take 4 (.take 5 (.take 6 (.take 7 (.take 8 .done))))))))) none hm0 (by kernel_rfl) ?_
     replace H := H.drew
     refine dq rfl (fun _ _ => Q_move rfl) rfl rfl <| dq rfl (fun _ _ => Q_move rfl) rfl rfl ?_
     obtain ⟨x193, hx193, hB190⟩ := bnd hB190
     obtain ⟨b194, o195, c196, hc197, ha198, hi199⟩ := idxR r3 hx193
     refine dq rfl (fun _ _ => Q_idx hi199 Tryz.underlying23 ty3 rfl rfl) rfl rfl <| dq (v := .int .i64 x193) rfl (fun _ hw => Q_ld (show cellsAt _ _ _ [.int .i64 x193] from (show _ = [_] from hc197) ▸ (ha198.up hw.view)) ty3 rfl (fun _ => rfl) rfl rfl) rfl rfl <| dq rfl (fun _ _ => Q_move rfl) rfl rfl <| dq rfl (fun _ _ => Q_move rfl) rfl rfl ?_
     obtain ⟨x200, hx200, hB190⟩ := bnd hB190
     obtain ⟨b201, o202, c203, hc204, ha205, hi206⟩ := idxR r6 hx200
     refine dq rfl (fun _ _ => Q_idx hi206 Tryz.underlying23 ty3 rfl rfl) rfl rfl <| dq (v := .int .i64 x200) rfl (fun _ hw => Q_ld (show cellsAt _ _ _ [.int .i64 x200] from (show _ = [_] from hc204) ▸ (ha205.up hw.view)) ty3 rfl (fun _ => rfl) rfl rfl) rfl rfl <| dq rfl (fun _ _ => Q_neq rfl rfl) rfl rfl <| DL_nil <| x_then ?_
     refine C_cond rfl (fun hb => ?_) (fun hb => ?_)
     ·replace hB190 := itT hb hB190
      refine C_seq <| R_nd <| nq (Q_assign rfl) rfl rfl <| WL_nil <| x_then <| C_ret <| x_block_ret <| x_then_ret <| x_then_ret <| x_block_ret <| x_then_ret <| x_then_ret ?_
      obtain rfl := Option.some.inj hB190
      obtain rfl := hO191 _ rfl
      obtain rfl := Option.some.inj (show some _ = some _ from hF)
      exact fn_ret (l := [.tmp 4]) (vs := [.bool false]) rfl rfl rfl ⟨false, rfl, rfl, H⟩
     ·replace hB190 := itF hb hB190
      refine C_skip <| x_block <| x_then <| R_nd <| nq (Q_add rfl rfl) rfl rfl <| nq (Q_move rfl) rfl rfl <| WL_nil ?_
      obtain rfl := Option.some.inj hB190
      refine x_A fun a hf => ⟨_, rfl, w64 (x173 + 1), rfl, hf.sub ⟨rfl, rfl, rfl, rfl, trivial⟩, H⟩
    ·replace hB190 := itF hb hB190
     refine C_exit <| x_then_exit <| x_then_exit <| x_block_exit ?_
     obtain rfl := Option.some.inj hB190
     obtain rfl := hO191 _ rfl
     refine x_A fun a hf => ⟨rfl, hf.sub trivial, H⟩
  ·rintro a wd207 ⟨rfl, hf, H⟩
   try dsimp only at hF
   refine XX.at hf <| x_then <| C_seq <| R_nd <| nq (Q_assign rfl) rfl rfl <| WL_nil <| x_then <| C_ret ?_
   obtain rfl := Option.some.inj hF
   exact fn_ret (l := [.tmp 4]) (vs := [.bool true]) rfl rfl rfl ⟨true, rfl, rfl, H⟩
theorem c_50 {N : Nat} {C : Cx} {w : World} {ρ : View} {hs : List Hl} {gV : Nat → Value} {v1 : Value} {v10 : Value} {x2 : (List Int)} {x4 : Int} {x5 : Int} {x6 : Int} {x7 : Int} {x8 : Int} {x9 : Int} {x11 : (List Int)} {x13 : Int} {x14 : Int} {x15 : Int} {x16 : Int} {x17 : Int} {x18 : Int} (H : Hp C w ρ (hs)) (gle : GErrs ρ 373 errIds gV) (r3 : RdSl ρ (eI .i64) v1 x2) (r12 : RdSl ρ (eI .i64) v10 x11) {r : Bool} (hF : F_nfa_equal N x2 x4 x5 x6 x7 x8 x9 x11 x13 x14 x15 x16 x17 x18 = some r) :
  Calls Tryz.prog 50 [.agg #[v1, .int .u64 x4, .int .u64 x5, .int .u64 x6, .int .u64 x7, .int .i64 x8, .int .i64 x9], .agg #[v10, .int .u64 x13, .int .u64 x14, .int .u64 x15, .int .u64 x16, .int .i64 x17, .int .i64 x18]].toArray w (Rets (fun v w' => (∃ (x34 : Bool), x34 = r ∧ .bool x34 = v ∧ Hp C w' ρ (hs)))) := by
 unfold F_nfa_equal at hF
 have h0 : Tryz.f50.body = some _ := rfl
 refine fn_calls' Tryz.func50 h0 (n := 31) rfl (by simp) <| C_seq <| R_nd <| ne (E_box H (vs := [v1, .int .u64 x4, .int .u64 x5, .int .u64 x6, .int .u64 x7, .int .i64 x8, .int .i64 x9]) rfl rfl) rfl rfl ?_
 rintro _ wd36 ⟨b35, rfl, H⟩
 refine ne (E_box H (vs := [v10, .int .u64 x13, .int .u64 x14, .int .u64 x15, .int .u64 x16, .int .i64 x17, .int .i64 x18]) rfl rfl) rfl rfl ?_
 rintro _ wd38 ⟨b37, rfl, H⟩
 refine nq (Q_assign rfl) rfl rfl <| WL_nil <| x_then ?_
 obtain ⟨o44, ho44, hF⟩ := bnd hF
 refine C_cut (fun a w' => ∃ (x43 : Bool), x43 = o44 ∧ Fr 31 a [(4, .bool x43)] ∧ Hp C w' ρ (hs)) ?_ ?_
 ·refine R_nd <| nq (v := .pointer (some ⟨b35, 0, none⟩)) (Q_fld Tryz.underlying58 rfl ty23 (by decide) rfl rfl) rfl rfl <| nq (v := v1) (Q_ldB (k := 1) (cs := [v1]) H.ok rfl ty23 rfl rfl rfl (fun _ => rfl) rfl) rfl rfl <| nq (v := .pointer (some ⟨b37, 0, none⟩)) (Q_fld Tryz.underlying58 rfl ty23 (by decide) rfl rfl) rfl rfl <| nq (v := v10) (Q_ldB (k := 0) (cs := [v10]) H.ok rfl ty23 rfl rfl rfl (fun _ => rfl) rfl) rfl rfl ?_
  obtain ⟨q45, hq45, ho44⟩ := bnd ho44
  refine ne (E_call fn48 rfl (c_48 H gle  r3 r12 hq45)) rfl rfl ?_
  rintro _ wd48 ⟨x47, rfl, rfl, H⟩
  try dsimp only at ho44
  refine nq (Q_move rfl) rfl rfl ?_
  rcases Bool.eq_false_or_eq_true x47 with hb | hb
  ·rw [hb]
   replace ho44 := itT hb ho44
   refine gq (v := .pointer (some ⟨b35, 1, none⟩)) (Q_fld Tryz.underlying58 rfl ty56 (by decide) rfl rfl) rfl rfl rfl <| gq (v := .agg #[.int .u64 x4, .int .u64 x5, .int .u64 x6, .int .u64 x7]) (Q_ldB (k := 1) (cs := [.int .u64 x4, .int .u64 x5, .int .u64 x6, .int .u64 x7]) H.ok rfl ty56 rfl rfl rfl (fun h => nomatch h) rfl) rfl rfl rfl <| gq (v := .pointer (some ⟨b37, 1, none⟩)) (Q_fld Tryz.underlying58 rfl ty56 (by decide) rfl rfl) rfl rfl rfl <| gq (v := .agg #[.int .u64 x13, .int .u64 x14, .int .u64 x15, .int .u64 x16]) (Q_ldB (k := 0) (cs := [.int .u64 x13, .int .u64 x14, .int .u64 x15, .int .u64 x16]) H.ok rfl ty56 rfl rfl rfl (fun h => nomatch h) rfl) rfl rfl rfl <| gq (v := .bool (([x4, x5, x6, x7] : List Int) == ([x13, x14, x15, x16] : List Int))) (Q_eqlA (xs := ([x4, x5, x6, x7] : List Int)) (ys := ([x13, x14, x15, x16] : List Int)) Tryz.underlying56 ty54 (by kernel_rfl) Tryz.underlying54 (rdL_ints .u64 ρ ([x4, x5, x6, x7] : List Int)) rfl (rdL_ints .u64 ρ ([x13, x14, x15, x16] : List Int)) rfl rfl rfl) rfl rfl rfl <| nq (Q_pickT rfl rfl) rfl rfl <| nq (Q_move rfl) rfl rfl ?_
   rcases Bool.eq_false_or_eq_true (([x4, x5, x6, x7] : List Int) == ([x13, x14, x15, x16] : List Int)) with hb | hb
   ·rw [hb]
    replace ho44 := itT hb ho44
    refine gq (v := .pointer (some ⟨b35, 5, none⟩)) (Q_fld Tryz.underlying58 rfl ty3 (by decide) rfl rfl) rfl rfl rfl <| gq (v := .int .i64 x8) (Q_ldB (k := 1) (cs := [.int .i64 x8]) H.ok rfl ty3 rfl rfl rfl (fun _ => rfl) rfl) rfl rfl rfl <| gq (v := .pointer (some ⟨b37, 5, none⟩)) (Q_fld Tryz.underlying58 rfl ty3 (by decide) rfl rfl) rfl rfl rfl <| gq (v := .int .i64 x17) (Q_ldB (k := 0) (cs := [.int .i64 x17]) H.ok rfl ty3 rfl rfl rfl (fun _ => rfl) rfl) rfl rfl rfl <| gq (Q_eql rfl rfl) rfl rfl rfl <| nq (Q_pickT rfl rfl) rfl rfl <| nq (Q_move rfl) rfl rfl ?_
    rcases Bool.eq_false_or_eq_true (x8 == x17) with hb | hb
    ·rw [hb]
     replace ho44 := itT hb ho44
     refine gq (v := .pointer (some ⟨b35, 6, none⟩)) (Q_fld Tryz.underlying58 rfl ty3 (by decide) rfl rfl) rfl rfl rfl <| gq (v := .int .i64 x9) (Q_ldB (k := 1) (cs := [.int .i64 x9]) H.ok rfl ty3 rfl rfl rfl (fun _ => rfl) rfl) rfl rfl rfl <| gq (v := .pointer (some ⟨b37, 6, none⟩)) (Q_fld Tryz.underlying58 rfl ty3 (by decide) rfl rfl) rfl rfl rfl <| gq (v := .int .i64 x18) (Q_ldB (k := 0) (cs := [.int .i64 x18]) H.ok rfl ty3 rfl rfl rfl (fun _ => rfl) rfl) rfl rfl rfl <| gq (Q_eql rfl rfl) rfl rfl rfl <| nq (Q_pickT rfl rfl) rfl rfl <| nq (Q_assign rfl) rfl rfl <| WL_nil ?_
     replace H := H.e1.e0
     obtain rfl := Option.some.inj ho44
     refine x_A fun a hf => ⟨x9 == x18, rfl, hf.sub ⟨rfl, trivial⟩, H⟩
    ·rw [hb]
     replace ho44 := itF hb ho44
     refine gs rfl rfl rfl rfl <| gs rfl rfl rfl rfl <| gs rfl rfl rfl rfl <| gs rfl rfl rfl rfl <| gs rfl rfl rfl rfl <| nq (Q_pickF rfl rfl) rfl rfl <| nq (Q_assign rfl) rfl rfl <| WL_nil ?_
     replace H := H.e1.e0
     obtain rfl := Option.some.inj ho44
     refine x_A fun a hf => ⟨false, rfl, hf.sub ⟨rfl, trivial⟩, H⟩
   ·rw [hb]
    replace ho44 := itF hb ho44
    refine gs rfl rfl rfl rfl <| gs rfl rfl rfl rfl <| gs rfl rfl rfl rfl <| gs rfl rfl rfl rfl <| gs rfl rfl rfl rfl <| nq (Q_pickF rfl rfl) rfl rfl <| nq (Q_move rfl) rfl rfl <| gs rfl rfl rfl rfl <| gs rfl rfl rfl rfl <| gs rfl rfl rfl rfl <| gs rfl rfl rfl rfl <| gs rfl rfl rfl rfl <| nq (Q_pickF rfl rfl) rfl rfl <| nq (Q_assign rfl) rfl rfl ?_
    refine WL_nil ?_
    replace H := H.e1.e0
    obtain rfl := Option.some.inj ho44
    refine x_A fun a hf => ⟨false, rfl, hf.sub ⟨rfl, trivial⟩, H⟩
  ·rw [hb]
   replace ho44 := itF hb ho44
   refine gs rfl rfl rfl rfl <| gs rfl rfl rfl rfl <| gs rfl rfl rfl rfl <| gs rfl rfl rfl rfl <| gs rfl rfl rfl rfl <| nq (Q_pickF rfl rfl) rfl rfl <| nq (Q_move rfl) rfl rfl <| gs rfl rfl rfl rfl <| gs rfl rfl rfl rfl <| gs rfl rfl rfl rfl <| gs rfl rfl rfl rfl <| gs rfl rfl rfl rfl <| nq (Q_pickF rfl rfl) rfl rfl <| nq (Q_move rfl) rfl rfl ?_
   refine gs rfl rfl rfl rfl <| gs rfl rfl rfl rfl <| gs rfl rfl rfl rfl <| gs rfl rfl rfl rfl <| gs rfl rfl rfl rfl <| nq (Q_pickF rfl rfl) rfl rfl <| nq (Q_assign rfl) rfl rfl <| WL_nil ?_
   replace H := H.e1.e0
   obtain rfl := Option.some.inj ho44
   refine x_A fun a hf => ⟨false, rfl, hf.sub ⟨rfl, trivial⟩, H⟩
 ·rintro a wd49 ⟨x43, rfl, hf, H⟩
  try dsimp only at hF
  refine CW.at hf <| C_ret ?_
  obtain rfl := Option.some.inj hF
  exact fn_ret (l := [.tmp 4]) (vs := [.bool x43]) rfl rfl rfl ⟨x43, rfl, rfl, H⟩
theorem c_49 {N : Nat} {C : Cx} {w : World} {ρ : View} {hs : List Hl} {gV : Nat → Value} {v1 : Value} {v4 : Value} {x2 : (List ((List Int) × (Int × Int × Int × Int) × Int × Int))} {x5 : (List ((List Int) × (Int × Int × Int × Int) × Int × Int))} (H : Hp C w ρ (hs)) (gle : GErrs ρ 373 errIds gV) (r3 : RdSl ρ (eP (eL (eI .i64)) (eP (eP (eI .u64) (eP (eI .u64) (eP (eI .u64) (eI .u64)))) (eP (eI .i64) (eI .i64)))) v1 x2) (r6 : RdSl ρ (eP (eL (eI .i64)) (eP (eP (eI .u64) (eP (eI .u64) (eP (eI .u64) (eI .u64)))) (eP (eI .i64) (eI .i64)))) v4 x5) {r : Bool} (hF : F_slices_EqualFunc_nfa_State_nfa_State_nfa_State_nfa_State N x2 x5 = some r) :
  Calls Tryz.prog 49 [v1, v4, .func (.func 50) #[] [].toArray].toArray w (Rets (fun v w' => (∃ (x563 : Bool), x563 = r ∧ .bool x563 = v ∧ Hp C w' ρ (hs)))) := by
 unfold F_slices_EqualFunc_nfa_State_nfa_State_nfa_State_nfa_State at hF
 have h0 : Tryz.f49.body = some _ := rfl
 refine fn_calls' Tryz.func49 h0 (n := 32) rfl (by simp) <| C_seq <| R_nd <| nq (Q_assign rfl) rfl rfl <| WL_nil <| x_then <| C_seq <| C_seq <| R_nd <| nq (Q_move rfl) rfl rfl <| nq (Q_len Tryz.underlying22 rfl r3) rfl rfl <| nq (Q_move rfl) rfl rfl <| nq (Q_len Tryz.underlying22 rfl r6) rfl rfl <| nq (Q_neq rfl rfl) rfl rfl ?_
 refine WL_nil <| x_then ?_
 refine C_cond rfl (fun hb => ?_) (fun hb => ?_)
 ·replace hF := itT hb hF
  refine C_seq <| R_nd <| nq (Q_assign rfl) rfl rfl <| WL_nil <| x_then <| C_ret <| x_then_ret ?_
  obtain rfl := Option.some.inj hF
  exact fn_ret (l := [.tmp 6]) (vs := [.bool false]) rfl rfl rfl ⟨false, rfl, rfl, H⟩
 ·replace hF := itF hb hF
  refine C_skip <| x_then <| C_seq <| C_seq <| R_nd <| nq (Q_move rfl) rfl rfl <| nq (Q_len Tryz.underlying22 rfl r3) rfl rfl <| nq (Q_move rfl) rfl rfl <| WL_nil <| x_then ?_
  obtain ⟨o841, ho841, hF⟩ := bnd hF
  refine C_cutQ (fun a w' => .inl () = o841 ∧ Fr 32 a [] ∧ Hp C w' ρ (hs)) ?_ ?_
  ·refine C_block ?_
   refine C_iter (f := fun s => F_slices_EqualFunc_nfa_State_nfa_State_nfa_State_nfa_State_l0 N x2 x5 s) ho841 (fun s a w' => ∃ (x933 : Int), x933 = s ∧ Fr 32 a [(1, v4), (2, .func (.func 50) #[] [].toArray), (15, v1), (16, .int .i64 (x2.length : Int)), (17, .int .i64 x933)] ∧ Hp C w' ρ (hs)) ?_ ?_
   ·exact fun a hf => ⟨0, rfl, hf.sub ⟨rfl, rfl, rfl, rfl, rfl, trivial⟩, H⟩
   ·rintro s o1025 a wd1028 ⟨x933, rfl, hf, H⟩ hB1026 hO1027
    replace hB1026 : F_slices_EqualFunc_nfa_State_nfa_State_nfa_State_nfa_State_l0 N x2 x5 x933 = some o1025 := hB1026
    unfold F_slices_EqualFunc_nfa_State_nfa_State_nfa_State_nfa_State_l0 at hB1026
    refine CW.at hf <| C_seq <| R_nd <| nq (Q_lss rfl rfl) rfl rfl <| WL_nil <| x_then <| C_seq ?_
    refine C_cond rfl (fun hb => ?_) (fun hb => ?_)
    ·replace hB1026 := itT hb hB1026
     refine C_skip <| x_then <| C_seq <| C_block <| C_seq <| R_nd <| nq (Q_move rfl) rfl rfl ?_
     obtain ⟨x1029, hx1029, hB1026⟩ := bnd hB1026
     obtain ⟨b1030, o1031, c1032, hc1033, ha1034, hi1035⟩ := idxR r3 hx1029
     refine nq (Q_idx hi1035 Tryz.underlying22 ty58 rfl rfl) rfl rfl ?_
     obtain ⟨c1036, c1037, he1038, hc1039, hc1040⟩ := (id hc1033)
     obtain ⟨v1041, he1042, r1043⟩ := hc1039
     obtain ⟨c1044, c1045, he1046, hc1047, hc1048⟩ := hc1040
     obtain ⟨c1049, c1050, he1051, hc1052, hc1053⟩ := hc1047
     obtain ⟨c1054, c1055, he1056, hc1057, hc1058⟩ := hc1053
     obtain ⟨c1059, c1060, he1061, hc1062, hc1063⟩ := hc1058
     obtain ⟨c1064, c1065, he1066, hc1067, hc1068⟩ := hc1048
     refine nq (v := .agg #[v1041, .int .u64 x1029.2.1.1, .int .u64 x1029.2.1.2.1, .int .u64 x1029.2.1.2.2.1, .int .u64 x1029.2.1.2.2.2, .int .i64 x1029.2.2.1, .int .i64 x1029.2.2.2]) (Q_ld (show cellsAt _ _ _ [v1041, .int .u64 x1029.2.1.1, .int .u64 x1029.2.1.2.1, .int .u64 x1029.2.1.2.2.1, .int .u64 x1029.2.1.2.2.2, .int .i64 x1029.2.2.1, .int .i64 x1029.2.2.2] from cellsAt.cg (cat2 he1038 he1042 (cat2 he1046 (cat2 he1051 (rdI hc1052) (cat2 he1056 (rdI hc1057) (cat2 he1061 (rdI hc1062) (rdI hc1063)))) (cat2 he1066 (rdI hc1067) (rdI hc1068)))) (ha1034.up H.ok.view)) ty58 rfl (fun h => nomatch h) rfl rfl) rfl rfl <| ne (E_alloc H ty58 (zs := [.slice none 0 0, .int .u64 0, .int .u64 0, .int .u64 0, .int .u64 0, .int .i64 0, .int .i64 0]) rfl) rfl rfl ?_
     rintro _ wd1070 ⟨b1069, rfl, H⟩
     refine nq (Q_assign rfl) rfl rfl <| ne (E_stB (k := 0) (cs := [v1041, .int .u64 x1029.2.1.1, .int .u64 x1029.2.1.2.1, .int .u64 x1029.2.1.2.2.1, .int .u64 x1029.2.1.2.2.2, .int .i64 x1029.2.2.1, .int .i64 x1029.2.2.2]) (vs' := [v1041, .int .u64 x1029.2.1.1, .int .u64 x1029.2.1.2.1, .int .u64 x1029.2.1.2.2.1, .int .u64 x1029.2.1.2.2.2, .int .i64 x1029.2.2.1, .int .i64 x1029.2.2.2]) H rfl ty58 rfl rfl rfl rfl (one_cons (RdSl.one r1043) (one_cons rfl (one_cons rfl (one_cons rfl (one_cons rfl (one_cons rfl (one_cons rfl one_nil))))))) (by simp) rfl) rfl rfl ?_
     rintro _ wd1071 H
     dsimp only [List.set] at H
     refine WL_nil <| x_then <| C_seq <| R_nd <| nq (Q_move rfl) rfl rfl <| nq (Q_move rfl) rfl rfl ?_
     obtain ⟨x1072, hx1072, hB1026⟩ := bnd hB1026
     obtain ⟨b1073, o1074, c1075, hc1076, ha1077, hi1078⟩ := idxR r6 hx1072
     refine nq (Q_idx hi1078 Tryz.underlying22 ty58 rfl rfl) rfl rfl ?_
     obtain ⟨c1079, c1080, he1081, hc1082, hc1083⟩ := (id hc1076)
     obtain ⟨v1084, he1085, r1086⟩ := hc1082
     obtain ⟨c1087, c1088, he1089, hc1090, hc1091⟩ := hc1083
     obtain ⟨c1092, c1093, he1094, hc1095, hc1096⟩ := hc1090
     obtain ⟨c1097, c1098, he1099, hc1100, hc1101⟩ := hc1096
     obtain ⟨c1102, c1103, he1104, hc1105, hc1106⟩ := hc1101
     obtain ⟨c1107, c1108, he1109, hc1110, hc1111⟩ := hc1091
     refine nq (v := .agg #[v1084, .int .u64 x1072.2.1.1, .int .u64 x1072.2.1.2.1, .int .u64 x1072.2.1.2.2.1, .int .u64 x1072.2.1.2.2.2, .int .i64 x1072.2.2.1, .int .i64 x1072.2.2.2]) (Q_ld (show cellsAt _ _ _ [v1084, .int .u64 x1072.2.1.1, .int .u64 x1072.2.1.2.1, .int .u64 x1072.2.1.2.2.1, .int .u64 x1072.2.1.2.2.2, .int .i64 x1072.2.2.1, .int .i64 x1072.2.2.2] from cellsAt.cg (cat2 he1081 he1085 (cat2 he1089 (cat2 he1094 (rdI hc1095) (cat2 he1099 (rdI hc1100) (cat2 he1104 (rdI hc1105) (rdI hc1106)))) (cat2 he1109 (rdI hc1110) (rdI hc1111)))) (ha1077.up H.ok.view)) ty58 rfl (fun h => nomatch h) rfl rfl) rfl rfl <| ne (E_alloc H ty58 (zs := [.slice none 0 0, .int .u64 0, .int .u64 0, .int .u64 0, .int .u64 0, .int .i64 0, .int .i64 0]) rfl) rfl rfl ?_
     rintro _ wd1113 ⟨b1112, rfl, H⟩
     refine ne (E_stB (k := 0) (cs := [v1084, .int .u64 x1072.2.1.1, .int .u64 x1072.2.1.2.1, .int .u64 x1072.2.1.2.2.1, .int .u64 x1072.2.1.2.2.2, .int .i64 x1072.2.2.1, .int .i64 x1072.2.2.2]) (vs' := [v1084, .int .u64 x1072.2.1.1, .int .u64 x1072.2.1.2.1, .int .u64 x1072.2.1.2.2.1, .int .u64 x1072.2.1.2.2.2, .int .i64 x1072.2.2.1, .int .i64 x1072.2.2.2]) H rfl ty58 rfl rfl rfl rfl (one_cons (RdSl.one r1086) (one_cons rfl (one_cons rfl (one_cons rfl (one_cons rfl (one_cons rfl (one_cons rfl one_nil))))))) (by simp) rfl) rfl rfl ?_
     rintro _ wd1114 H
     dsimp only [List.set] at H
     refine WL_nil <| x_then <| C_seq <| R_nd <| nq (Q_move rfl) rfl rfl <| nq (v := .agg #[v1041, .int .u64 x1029.2.1.1, .int .u64 x1029.2.1.2.1, .int .u64 x1029.2.1.2.2.1, .int .u64 x1029.2.1.2.2.2, .int .i64 x1029.2.2.1, .int .i64 x1029.2.2.2]) (Q_ldB (k := 1) (cs := [v1041, .int .u64 x1029.2.1.1, .int .u64 x1029.2.1.2.1, .int .u64 x1029.2.1.2.2.1, .int .u64 x1029.2.1.2.2.2, .int .i64 x1029.2.2.1, .int .i64 x1029.2.2.2]) H.ok rfl ty58 rfl rfl rfl (fun h => nomatch h) rfl) rfl rfl <| nq (v := .agg #[v1084, .int .u64 x1072.2.1.1, .int .u64 x1072.2.1.2.1, .int .u64 x1072.2.1.2.2.1, .int .u64 x1072.2.1.2.2.2, .int .i64 x1072.2.2.1, .int .i64 x1072.2.2.2]) (Q_ldB (k := 0) (cs := [v1084, .int .u64 x1072.2.1.1, .int .u64 x1072.2.1.2.1, .int .u64 x1072.2.1.2.2.1, .int .u64 x1072.2.1.2.2.2, .int .i64 x1072.2.2.1, .int .i64 x1072.2.2.2]) H.ok rfl ty58 rfl rfl rfl (fun h => nomatch h) rfl) rfl rfl ?_
     obtain ⟨q1115, hq1115, hB1026⟩ := bnd hB1026
     refine ne (E_callV fn50 rfl rfl (c_50 H gle  r1043 r1086 hq1115)) rfl rfl ?_
     rintro _ wd1118 ⟨x1117, rfl, rfl, H⟩
     try dsimp only at hB1026
     refine nq (Q_not rfl) rfl rfl <| WL_nil <| x_then ?_
     refine C_cond rfl (fun hb => ?_) (fun hb => ?_)
     ·replace hB1026 := itT hb hB1026
      refine C_seq <| R_nd <| nq (Q_assign rfl) rfl rfl <| WL_nil <| x_then <| C_ret <| x_block_ret <| x_then_ret <| x_then_ret <| x_block_ret <| x_then_ret <| x_then_ret ?_
      replace H := H.e1.e0
      obtain rfl := Option.some.inj hB1026
      obtain rfl := hO1027 _ rfl
      obtain rfl := Option.some.inj (show some _ = some _ from hF)
      exact fn_ret (l := [.tmp 6]) (vs := [.bool false]) rfl rfl rfl ⟨false, rfl, rfl, H⟩
     ·replace hB1026 := itF hb hB1026
      refine C_skip <| x_block <| x_then <| R_nd <| nq (Q_add rfl rfl) rfl rfl <| nq (Q_move rfl) rfl rfl <| WL_nil ?_
      replace H := H.e1.e0
      obtain rfl := Option.some.inj hB1026
      refine x_A fun a hf => ⟨_, rfl, w64 (x933 + 1), rfl, hf.sub ⟨rfl, rfl, rfl, rfl, rfl, trivial⟩, H⟩
    ·replace hB1026 := itF hb hB1026
     refine C_exit <| x_then_exit <| x_then_exit <| x_block_exit ?_
     obtain rfl := Option.some.inj hB1026
     obtain rfl := hO1027 _ rfl
     refine x_A fun a hf => ⟨rfl, hf.sub trivial, H⟩
  ·rintro a wd1119 ⟨rfl, hf, H⟩
   try dsimp only at hF
   refine XX.at hf <| x_then <| C_seq <| R_nd <| nq (Q_assign rfl) rfl rfl <| WL_nil <| x_then <| C_ret ?_
   obtain rfl := Option.some.inj hF
   exact fn_ret (l := [.tmp 6]) (vs := [.bool true]) rfl rfl rfl ⟨true, rfl, rfl, H⟩
theorem c_19 {N : Nat} {C : Cx} {w : World} {ρ : View} {hs : List Hl} {gV : Nat → Value} {v1 : Value} {v4 : Value} {v7 : Value} {v10 : Value} {x2 : (List ((List Int) × (Int × Int × Int × Int) × Int × Int))} {x5 : (List Int)} {x8 : (List ((List Int) × (Int × Int × Int × Int) × Int × Int))} {x11 : (List Int)} (H : Hp C w ρ (hs)) (gle : GErrs ρ 373 errIds gV) (r3 : RdSl ρ (eP (eL (eI .i64)) (eP (eP (eI .u64) (eP (eI .u64) (eP (eI .u64) (eI .u64)))) (eP (eI .i64) (eI .i64)))) v1 x2) (r6 : RdSl ρ (eI .i64) v4 x5) (r9 : RdSl ρ (eP (eL (eI .i64)) (eP (eP (eI .u64) (eP (eI .u64) (eP (eI .u64) (eI .u64)))) (eP (eI .i64) (eI .i64)))) v7 x8) (r12 : RdSl ρ (eI .i64) v10 x11) {r : Bool} (hF : F_nfa_Same N x2 x5 x8 x11 = some r) :
  Calls Tryz.prog 19 [.agg #[v1, v4], .agg #[v7, v10]].toArray w (Rets (fun v w' => (∃ (x36 : Bool), x36 = r ∧ .bool x36 = v ∧ Hp C w' ρ (hs)))) := by
 unfold F_nfa_Same at hF
 have h0 : Tryz.f19.body = some _ := rfl
 refine fn_calls' Tryz.func19 h0 (n := 17) rfl (by simp) <| C_seq <| R_nd <| ne (E_box H (vs := [v1, v4]) rfl rfl) rfl rfl ?_
 rintro _ wd38 ⟨b37, rfl, H⟩
 refine ne (E_box H (vs := [v7, v10]) rfl rfl) rfl rfl ?_
 rintro _ wd40 ⟨b39, rfl, H⟩
 refine nq (Q_assign rfl) rfl rfl <| WL_nil <| x_then ?_
 obtain ⟨o50, ho50, hF⟩ := bnd hF
 refine C_cut (fun a w' => ∃ (x49 : Bool), x49 = o50 ∧ Fr 17 a [(4, .bool x49)] ∧ Hp C w' ρ (hs)) ?_ ?_
 ·refine R_nd <| nq (v := .pointer (some ⟨b37, 1, none⟩)) (Q_fld Tryz.underlying25 rfl ty23 (by decide) rfl rfl) rfl rfl <| nq (v := v4) (Q_ldB (k := 1) (cs := [v4]) H.ok rfl ty23 rfl rfl rfl (fun _ => rfl) rfl) rfl rfl <| nq (v := .pointer (some ⟨b39, 1, none⟩)) (Q_fld Tryz.underlying25 rfl ty23 (by decide) rfl rfl) rfl rfl <| nq (v := v10) (Q_ldB (k := 0) (cs := [v10]) H.ok rfl ty23 rfl rfl rfl (fun _ => rfl) rfl) rfl rfl ?_
  obtain ⟨q51, hq51, ho50⟩ := bnd ho50
  refine ne (E_call fn48 rfl (c_48 H gle  r6 r12 hq51)) rfl rfl ?_
  rintro _ wd54 ⟨x53, rfl, rfl, H⟩
  try dsimp only at ho50
  refine nq (Q_move rfl) rfl rfl ?_
  rcases Bool.eq_false_or_eq_true x53 with hb | hb
  ·rw [hb]
   replace ho50 := itT hb ho50
   refine gq (v := .pointer (some ⟨b37, 0, none⟩)) (Q_fld Tryz.underlying25 rfl ty22 (by decide) rfl rfl) rfl rfl rfl <| gq (v := v1) (Q_ldB (k := 1) (cs := [v1]) H.ok rfl ty22 rfl rfl rfl (fun _ => rfl) rfl) rfl rfl rfl <| gq (v := .pointer (some ⟨b39, 0, none⟩)) (Q_fld Tryz.underlying25 rfl ty22 (by decide) rfl rfl) rfl rfl rfl <| gq (v := v7) (Q_ldB (k := 0) (cs := [v7]) H.ok rfl ty22 rfl rfl rfl (fun _ => rfl) rfl) rfl rfl rfl ?_
   obtain ⟨q55, hq55, ho50⟩ := bnd ho50
   refine ge (E_call fn49 rfl (c_49 H gle  r3 r9 hq55)) rfl rfl rfl ?_
   rintro _ wd58 ⟨x57, rfl, rfl, H⟩
   try dsimp only at ho50
   refine nq (Q_pickT rfl rfl) rfl rfl <| nq (Q_assign rfl) rfl rfl <| WL_nil ?_
   replace H := H.e1.e0
   obtain rfl := Option.some.inj ho50
   refine x_A fun a hf => ⟨x57, rfl, hf.sub ⟨rfl, trivial⟩, H⟩
  ·rw [hb]
   replace ho50 := itF hb ho50
   refine gs rfl rfl rfl rfl <| gs rfl rfl rfl rfl <| gs rfl rfl rfl rfl <| gs rfl rfl rfl rfl <| gs rfl rfl rfl rfl <| nq (Q_pickF rfl rfl) rfl rfl <| nq (Q_assign rfl) rfl rfl <| WL_nil ?_
   replace H := H.e1.e0
   obtain rfl := Option.some.inj ho50
   refine x_A fun a hf => ⟨false, rfl, hf.sub ⟨rfl, trivial⟩, H⟩
 ·rintro a wd59 ⟨x49, rfl, hf, H⟩
  try dsimp only at hF
  refine CW.at hf <| C_ret ?_
  obtain rfl := Option.some.inj hF
  exact fn_ret (l := [.tmp 4]) (vs := [.bool x49]) rfl rfl rfl ⟨x49, rfl, rfl, H⟩
theorem c_29 {N : Nat} {C : Cx} {w : World} {ρ : View} {hs : List Hl} {gV : Nat → Value} {v1 : Value} {v4 : Value} {x2 : (List Int)} {x5 : (List Int)} (H : Hp C w ρ (hs)) (_gle : GErrs ρ 373 errIds gV) (r3 : RdSl ρ (eI .i64) v1 x2) (r6 : RdSl ρ (eI .i64) v4 x5) {r : Bool} (hF : F_doffernum_SameInts N x2 x5 = some r) :
  Calls Tryz.prog 29 [v1, v4].toArray w (Rets (fun v w' => (∃ (x107 : Bool), x107 = r ∧ .bool x107 = v ∧ Hp C w' ρ (hs)))) := by
 unfold F_doffernum_SameInts at hF
 have h0 : Tryz.f29.body = some _ := rfl
 refine fn_calls' Tryz.func29 h0 (n := 26) rfl (by simp) <| C_seq <| R_nd <| nq (Q_assign rfl) rfl rfl <| WL_nil <| x_then <| C_seq <| C_seq <| R_nd <| nq (Q_move rfl) rfl rfl <| nq (Q_len Tryz.underlying23 rfl r3) rfl rfl <| nq (Q_move rfl) rfl rfl <| nq (Q_len Tryz.underlying23 rfl r6) rfl rfl <| nq (Q_neq rfl rfl) rfl rfl ?_
 refine WL_nil <| x_then ?_
 refine C_cond rfl (fun hb => ?_) (fun hb => ?_)
 ·replace hF := itT hb hF
  refine C_seq <| R_nd <| nq (Q_assign rfl) rfl rfl <| WL_nil <| x_then <| C_ret <| x_then_ret ?_
  obtain rfl := Option.some.inj hF
  exact fn_ret (l := [.tmp 4]) (vs := [.bool false]) rfl rfl rfl ⟨false, rfl, rfl, H⟩
 ·replace hF := itF hb hF
  refine C_skip <| x_then <| C_seq <| C_seq <| R_nd <| nq (Q_move rfl) rfl rfl <| nq (Q_len Tryz.underlying23 rfl r3) rfl rfl <| nq (Q_move rfl) rfl rfl <| WL_nil <| x_then ?_
  obtain ⟨o157, ho157, hF⟩ := bnd hF
  refine C_cutQ (fun a w' => .inl () = o157 ∧ Fr 26 a [] ∧ Hp C w' ρ (hs)) ?_ ?_
  ·refine C_block ?_
   refine C_iter (f := fun s => F_doffernum_SameInts_l0 N x2 x5 s) ho157 (fun s a w' => ∃ (x173 : Int), x173 = s ∧ Fr 26 a [(0, v1), (1, v4), (12, .int .i64 (x2.length : Int)), (13, .int .i64 x173)] ∧ Hp C w' ρ (hs)) ?_ ?_
   ·exact fun a hf => ⟨0, rfl, hf.sub ⟨rfl, rfl, rfl, rfl, trivial⟩, H⟩
   ·rintro s o189 a wd192 ⟨x173, rfl, hf, H⟩ hB190 hO191
    replace hB190 : F_doffernum_SameInts_l0 N x2 x5 x173 = some o189 := hB190
    unfold F_doffernum_SameInts_l0 at hB190
    refine CW.at hf <| C_seq <| R_nd <| nq (Q_lss rfl rfl) rfl rfl <| WL_nil <| x_then <| C_seq ?_
    refine C_cond rfl (fun hb => ?_) (fun hb => ?_)
    ·replace hB190 := itT hb hB190
     refine C_skip <| x_then <| C_seq <| C_block <| C_seq <| R_nd <| nq (Q_move rfl) rfl rfl <| nq (Q_assign rfl) rfl rfl <| WL_nil <| x_then <| C_seq <| H.dr (.take 0 (.take 1 (.take 2 (.take 3 (.take 4 (.take 5 (.take 6 (.take 7 (.take 8 .done))))))))) none hm0 (by kernel_rfl) ?_
     replace H := H.drew
     refine dq rfl (fun _ _ => Q_move rfl) rfl rfl <| dq rfl (fun _ _ => Q_move rfl) rfl rfl ?_
     obtain ⟨x193, hx193, hB190⟩ := bnd hB190
     obtain ⟨b194, o195, c196, hc197, ha198, hi199⟩ := idxR r3 hx193
     refine dq rfl (fun _ _ => Q_idx hi199 Tryz.underlying23 ty3 rfl rfl) rfl rfl <| dq (v := .int .i64 x193) rfl (fun _ hw => Q_ld (show cellsAt _ _ _ [.int .i64 x193] from (show _ = [_] from hc197) ▸ (ha198.up hw.view)) ty3 rfl (fun _ => rfl) rfl rfl) rfl rfl <| dq rfl (fun _ _ => Q_move rfl) rfl rfl <| dq rfl (fun _ _ => Q_move rfl) rfl rfl ?_
     obtain ⟨x200, hx200, hB190⟩ := bnd hB190
     obtain ⟨b201, o202, c203, hc204, ha205, hi206⟩ := idxR r6 hx200
     refine dq rfl (fun _ _ => Q_idx hi206 Tryz.underlying23 ty3 rfl rfl) rfl rfl <| dq (v := .int .i64 x200) rfl (fun _ hw => Q_ld (show cellsAt _ _ _ [.int .i64 x200] from (show _ = [_] from hc204) ▸ (ha205.up hw.view)) ty3 rfl (fun _ => rfl) rfl rfl) rfl rfl <| dq rfl (fun _ _ => Q_neq rfl rfl) rfl rfl <| DL_nil <| x_then ?_
     refine C_cond rfl (fun hb => ?_) (fun hb => ?_)
     ·replace hB190 := itT hb hB190
      refine C_seq <| R_nd <| nq (Q_assign rfl) rfl rfl <| WL_nil <| x_then <| C_ret <| x_block_ret <| x_then_ret <| x_then_ret <| x_block_ret <| x_then_ret <| x_then_ret ?_
      obtain rfl := Option.some.inj hB190
      obtain rfl := hO191 _ rfl
      obtain rfl := Option.some.inj (show some _ = some _ from hF)
      exact fn_ret (l := [.tmp 4]) (vs := [.bool false]) rfl rfl rfl ⟨false, rfl, rfl, H⟩
     ·replace hB190 := itF hb hB190
      refine C_skip <| x_block <| x_then <| R_nd <| nq (Q_add rfl rfl) rfl rfl <| nq (Q_move rfl) rfl rfl <| WL_nil ?_
      obtain rfl := Option.some.inj hB190
      refine x_A fun a hf => ⟨_, rfl, w64 (x173 + 1), rfl, hf.sub ⟨rfl, rfl, rfl, rfl, trivial⟩, H⟩
    ·replace hB190 := itF hb hB190
     refine C_exit <| x_then_exit <| x_then_exit <| x_block_exit ?_
     obtain rfl := Option.some.inj hB190
     obtain rfl := hO191 _ rfl
     refine x_A fun a hf => ⟨rfl, hf.sub trivial, H⟩
  ·rintro a wd207 ⟨rfl, hf, H⟩
   try dsimp only at hF
   refine XX.at hf <| x_then <| C_seq <| R_nd <| nq (Q_assign rfl) rfl rfl <| WL_nil <| x_then <| C_ret ?_
   obtain rfl := Option.some.inj hF
   exact fn_ret (l := [.tmp 4]) (vs := [.bool true]) rfl rfl rfl ⟨true, rfl, rfl, H⟩
theorem c_20 {N : Nat} {C : Cx} {w : World} {ρ : View} {hs : List Hl} {gV : Nat → Value} {v1 : Value} {v4 : Value} {v7 : Value} {v10 : Value} {x2 : (List ((List Int) × (Int × Int × Int × Int) × Int × Int))} {x5 : (List Int)} {x8 : (List ((List Int) × (Int × Int × Int × Int) × Int × Int))} {x11 : (List Int)} (H : Hp C w ρ (hs)) (gle : GErrs ρ 373 errIds gV) (r3 : RdSl ρ (eP (eL (eI .i64)) (eP (eP (eI .u64) (eP (eI .u64) (eP (eI .u64) (eI .u64)))) (eP (eI .i64) (eI .i64)))) v1 x2) (r6 : RdSl ρ (eI .i64) v4 x5) (r9 : RdSl ρ (eP (eL (eI .i64)) (eP (eP (eI .u64) (eP (eI .u64) (eP (eI .u64) (eI .u64)))) (eP (eI .i64) (eI .i64)))) v7 x8) (r12 : RdSl ρ (eI .i64) v10 x11) {r : Bool} (hF : F_dofferref15_Same N x2 x5 x8 x11 = some r) :
  Calls Tryz.prog 20 [.agg #[v1, v4], .agg #[v7, v10]].toArray w (Rets (fun v w' => (∃ (x626 : Bool), x626 = r ∧ .bool x626 = v ∧ Hp C w' ρ (hs)))) := by
 unfold F_dofferref15_Same at hF
 have h0 : Tryz.f20.body = some _ := rfl
 refine fn_calls' Tryz.func20 h0 (n := 64) rfl (by simp) <| C_seq <| R_nd <| ne (E_box H (vs := [v1, v4]) rfl rfl) rfl rfl ?_
 rintro _ wd628 ⟨b627, rfl, H⟩
 refine ne (E_box H (vs := [v7, v10]) rfl rfl) rfl rfl ?_
 rintro _ wd630 ⟨b629, rfl, H⟩
 refine nq (Q_assign rfl) rfl rfl <| WL_nil <| x_then <| C_seq ?_
 obtain ⟨o636, ho636, hF⟩ := bnd hF
 refine C_cut (fun a w' => ∃ (x635 : Bool), x635 = o636 ∧ Fr 64 a [(2, .pointer (some ⟨b627, 0, none⟩)), (3, .pointer (some ⟨b629, 0, none⟩)), (22, .bool x635)] ∧ Hp C w' ρ (Box b627 [v1, v4] :: Box b629 [v7, v10] :: hs)) ?_ ?_
 ·refine R_nd <| nq (v := .pointer (some ⟨b627, 1, none⟩)) (Q_fld Tryz.underlying29 rfl ty23 (by decide) rfl rfl) rfl rfl <| nq (v := v4) (Q_ldB (k := 1) (cs := [v4]) H.ok rfl ty23 rfl rfl rfl (fun _ => rfl) rfl) rfl rfl <| nq (v := .pointer (some ⟨b629, 1, none⟩)) (Q_fld Tryz.underlying29 rfl ty23 (by decide) rfl rfl) rfl rfl <| nq (v := v10) (Q_ldB (k := 0) (cs := [v10]) H.ok rfl ty23 rfl rfl rfl (fun _ => rfl) rfl) rfl rfl ?_
  obtain ⟨q637, hq637, ho636⟩ := bnd ho636
  refine ne (E_call fn29 rfl (c_29 H gle  r6 r12 hq637)) rfl rfl ?_
  rintro _ wd640 ⟨x639, rfl, rfl, H⟩
  try dsimp only at ho636
  refine nq (Q_not rfl) rfl rfl <| nq (Q_move rfl) rfl rfl ?_
  rcases Bool.eq_false_or_eq_true (!x639) with hb | hb
  ·rw [hb]
   replace ho636 := itT hb ho636
   refine gs rfl rfl rfl rfl <| gs rfl rfl rfl rfl <| gs rfl rfl rfl rfl <| gs rfl rfl rfl rfl <| gs rfl rfl rfl rfl <| gs rfl rfl rfl rfl <| gs rfl rfl rfl rfl <| nq (Q_pickT rfl rfl) rfl rfl <| WL_nil ?_
   replace H := H.f1
   obtain rfl := Option.some.inj ho636
   refine x_A fun a hf => ⟨true, rfl, hf.sub ⟨rfl, rfl, rfl, trivial⟩, H⟩
  ·rw [hb]
   replace ho636 := itF hb ho636
   refine gq (v := .pointer (some ⟨b627, 0, none⟩)) (Q_fld Tryz.underlying29 rfl ty27 (by decide) rfl rfl) rfl rfl rfl <| gq (v := v1) (Q_ldB (k := 1) (cs := [v1]) H.ok rfl ty27 rfl rfl rfl (fun _ => rfl) rfl) rfl rfl rfl <| gq (Q_len Tryz.underlying27 rfl r3) rfl rfl rfl <| gq (v := .pointer (some ⟨b629, 0, none⟩)) (Q_fld Tryz.underlying29 rfl ty27 (by decide) rfl rfl) rfl rfl rfl <| gq (v := v7) (Q_ldB (k := 0) (cs := [v7]) H.ok rfl ty27 rfl rfl rfl (fun _ => rfl) rfl) rfl rfl rfl <| gq (Q_len Tryz.underlying27 rfl r9) rfl rfl rfl <| gq (Q_neq rfl rfl) rfl rfl rfl <| nq (Q_pickF rfl rfl) rfl rfl <| WL_nil ?_
   replace H := H.f1
   obtain rfl := Option.some.inj ho636
   refine x_A fun a hf => ⟨(x2.length : Int) != (x8.length : Int), rfl, hf.sub ⟨rfl, rfl, rfl, trivial⟩, H⟩
 ·rintro a wd641 ⟨x635, rfl, hf, H⟩
  try dsimp only at hF
  refine CW.at hf ?_
  refine C_cond rfl (fun hb => ?_) (fun hb => ?_)
  ·replace hF := itT hb hF
   refine C_seq <| R_nd <| nq (Q_assign rfl) rfl rfl <| WL_nil <| x_then <| C_ret <| x_then_ret ?_
   replace H := H.e1.e0
   obtain rfl := Option.some.inj hF
   exact fn_ret (l := [.tmp 4]) (vs := [.bool false]) rfl rfl rfl ⟨false, rfl, rfl, H⟩
  ·replace hF := itF hb hF
   refine C_skip <| x_then <| C_seq <| C_seq <| R_nd <| nq (v := .pointer (some ⟨b627, 0, none⟩)) (Q_fld Tryz.underlying29 rfl ty27 (by decide) rfl rfl) rfl rfl <| nq (v := v1) (Q_ldB (k := 0) (cs := [v1]) H.ok rfl ty27 rfl rfl rfl (fun _ => rfl) rfl) rfl rfl <| nq (Q_len Tryz.underlying27 rfl r3) rfl rfl <| nq (Q_move rfl) rfl rfl <| WL_nil <| x_then ?_
   obtain ⟨o940, ho940, hF⟩ := bnd hF
   refine C_cutQ (fun a w' => .inl () = o940 ∧ Fr 64 a [] ∧ Hp C w' ρ (hs)) ?_ ?_
   ·refine C_block ?_
    replace H := H.e0
    refine C_iter (f := fun s => F_dofferref15_Same_l0 N x2 x8 s) ho940 (fun s a w' => ∃ (x1039 : Int), x1039 = s ∧ Fr 64 a [(3, .pointer (some ⟨b629, 0, none⟩)), (24, v1), (25, .int .i64 (x2.length : Int)), (26, .int .i64 x1039)] ∧ Hp C w' ρ (Box b629 [v7, v10] :: hs)) ?_ ?_
    ·exact fun a hf => ⟨0, rfl, hf.sub ⟨rfl, rfl, rfl, rfl, trivial⟩, H⟩
    ·rintro s o1138 a wd1141 ⟨x1039, rfl, hf, H⟩ hB1139 hO1140
     replace hB1139 : F_dofferref15_Same_l0 N x2 x8 x1039 = some o1138 := hB1139
     unfold F_dofferref15_Same_l0 at hB1139
     refine CW.at hf <| C_seq <| R_nd <| nq (Q_lss rfl rfl) rfl rfl <| WL_nil <| x_then <| C_seq ?_
     refine C_cond rfl (fun hb => ?_) (fun hb => ?_)
     ·replace hB1139 := itT hb hB1139
      refine C_skip <| x_then <| C_seq <| C_block <| C_seq <| R_nd <| nq (Q_move rfl) rfl rfl ?_
      obtain ⟨x1142, hx1142, hB1139⟩ := bnd hB1139
      obtain ⟨b1143, o1144, c1145, hc1146, ha1147, hi1148⟩ := idxR r3 hx1142
      refine nq (Q_idx hi1148 Tryz.underlying27 ty72 rfl rfl) rfl rfl ?_
      obtain ⟨c1149, c1150, he1151, hc1152, hc1153⟩ := (id hc1146)
      obtain ⟨v1154, he1155, r1156⟩ := hc1152
      obtain ⟨c1157, c1158, he1159, hc1160, hc1161⟩ := hc1153
      obtain ⟨c1162, c1163, he1164, hc1165, hc1166⟩ := hc1160
      obtain ⟨c1167, c1168, he1169, hc1170, hc1171⟩ := hc1166
      obtain ⟨c1172, c1173, he1174, hc1175, hc1176⟩ := hc1171
      obtain ⟨c1177, c1178, he1179, hc1180, hc1181⟩ := hc1161
      refine nq (v := .agg #[v1154, .int .u64 x1142.2.1.1, .int .u64 x1142.2.1.2.1, .int .u64 x1142.2.1.2.2.1, .int .u64 x1142.2.1.2.2.2, .int .i64 x1142.2.2.1, .int .i64 x1142.2.2.2]) (Q_ld (show cellsAt _ _ _ [v1154, .int .u64 x1142.2.1.1, .int .u64 x1142.2.1.2.1, .int .u64 x1142.2.1.2.2.1, .int .u64 x1142.2.1.2.2.2, .int .i64 x1142.2.2.1, .int .i64 x1142.2.2.2] from cellsAt.cg (cat2 he1151 he1155 (cat2 he1159 (cat2 he1164 (rdI hc1165) (cat2 he1169 (rdI hc1170) (cat2 he1174 (rdI hc1175) (rdI hc1176)))) (cat2 he1179 (rdI hc1180) (rdI hc1181)))) (ha1147.up H.ok.view)) ty72 rfl (fun h => nomatch h) rfl rfl) rfl rfl <| ne (E_alloc H ty72 (zs := [.slice none 0 0, .int .u64 0, .int .u64 0, .int .u64 0, .int .u64 0, .int .i64 0, .int .i64 0]) rfl) rfl rfl ?_
      rintro _ wd1183 ⟨b1182, rfl, H⟩
      refine nq (Q_assign rfl) rfl rfl <| ne (E_stB (k := 0) (cs := [v1154, .int .u64 x1142.2.1.1, .int .u64 x1142.2.1.2.1, .int .u64 x1142.2.1.2.2.1, .int .u64 x1142.2.1.2.2.2, .int .i64 x1142.2.2.1, .int .i64 x1142.2.2.2]) (vs' := [v1154, .int .u64 x1142.2.1.1, .int .u64 x1142.2.1.2.1, .int .u64 x1142.2.1.2.2.1, .int .u64 x1142.2.1.2.2.2, .int .i64 x1142.2.2.1, .int .i64 x1142.2.2.2]) H rfl ty72 rfl rfl rfl rfl (one_cons (RdSl.one r1156) (one_cons rfl (one_cons rfl (one_cons rfl (one_cons rfl (one_cons rfl (one_cons rfl one_nil))))))) (by simp) rfl) rfl rfl ?_
      rintro _ wd1184 H
      dsimp only [List.set] at H
      refine WL_nil <| x_then <| C_seq <| R_nd <| nq (v := .pointer (some ⟨b629, 0, none⟩)) (Q_fld Tryz.underlying29 rfl ty27 (by decide) rfl rfl) rfl rfl <| nq (v := v7) (Q_ldB (k := 1) (cs := [v7]) H.ok rfl ty27 rfl rfl rfl (fun _ => rfl) rfl) rfl rfl <| nq (Q_move rfl) rfl rfl ?_
      obtain ⟨x1185, hx1185, hB1139⟩ := bnd hB1139
      obtain ⟨b1186, o1187, c1188, hc1189, ha1190, hi1191⟩ := idxR r9 hx1185
      refine nq (Q_idx hi1191 Tryz.underlying27 ty72 rfl rfl) rfl rfl ?_
      obtain ⟨c1192, c1193, he1194, hc1195, hc1196⟩ := (id hc1189)
      obtain ⟨v1197, he1198, r1199⟩ := hc1195
      obtain ⟨c1200, c1201, he1202, hc1203, hc1204⟩ := hc1196
      obtain ⟨c1205, c1206, he1207, hc1208, hc1209⟩ := hc1203
      obtain ⟨c1210, c1211, he1212, hc1213, hc1214⟩ := hc1209
      obtain ⟨c1215, c1216, he1217, hc1218, hc1219⟩ := hc1214
      obtain ⟨c1220, c1221, he1222, hc1223, hc1224⟩ := hc1204
      refine nq (v := .agg #[v1197, .int .u64 x1185.2.1.1, .int .u64 x1185.2.1.2.1, .int .u64 x1185.2.1.2.2.1, .int .u64 x1185.2.1.2.2.2, .int .i64 x1185.2.2.1, .int .i64 x1185.2.2.2]) (Q_ld (show cellsAt _ _ _ [v1197, .int .u64 x1185.2.1.1, .int .u64 x1185.2.1.2.1, .int .u64 x1185.2.1.2.2.1, .int .u64 x1185.2.1.2.2.2, .int .i64 x1185.2.2.1, .int .i64 x1185.2.2.2] from cellsAt.cg (cat2 he1194 he1198 (cat2 he1202 (cat2 he1207 (rdI hc1208) (cat2 he1212 (rdI hc1213) (cat2 he1217 (rdI hc1218) (rdI hc1219)))) (cat2 he1222 (rdI hc1223) (rdI hc1224)))) (ha1190.up H.ok.view)) ty72 rfl (fun h => nomatch h) rfl rfl) rfl rfl <| ne (E_alloc H ty72 (zs := [.slice none 0 0, .int .u64 0, .int .u64 0, .int .u64 0, .int .u64 0, .int .i64 0, .int .i64 0]) rfl) rfl rfl ?_
      rintro _ wd1226 ⟨b1225, rfl, H⟩
      refine ne (E_stB (k := 0) (cs := [v1197, .int .u64 x1185.2.1.1, .int .u64 x1185.2.1.2.1, .int .u64 x1185.2.1.2.2.1, .int .u64 x1185.2.1.2.2.2, .int .i64 x1185.2.2.1, .int .i64 x1185.2.2.2]) (vs' := [v1197, .int .u64 x1185.2.1.1, .int .u64 x1185.2.1.2.1, .int .u64 x1185.2.1.2.2.1, .int .u64 x1185.2.1.2.2.2, .int .i64 x1185.2.2.1, .int .i64 x1185.2.2.2]) H rfl ty72 rfl rfl rfl rfl (one_cons (RdSl.one r1199) (one_cons rfl (one_cons rfl (one_cons rfl (one_cons rfl (one_cons rfl (one_cons rfl one_nil))))))) (by simp) rfl) rfl rfl ?_
      rintro _ wd1227 H
      dsimp only [List.set] at H
      refine WL_nil <| x_then ?_
      obtain ⟨o1233, ho1233, hB1139⟩ := bnd hB1139
      refine C_cut (fun a w' => ∃ (x1232 : Bool), x1232 = o1233 ∧ Fr 64 a [(3, .pointer (some ⟨b629, 0, none⟩)), (24, v1), (25, .int .i64 (x2.length : Int)), (26, .int .i64 x1039), (62, .bool x1232)] ∧ Hp C w' ρ (Box b629 [v7, v10] :: hs)) ?_ ?_
      ·refine R_nd <| nq (v := .pointer (some ⟨b1182, 0, none⟩)) (Q_fld Tryz.underlying72 rfl ty23 (by decide) rfl rfl) rfl rfl <| nq (v := v1154) (Q_ldB (k := 1) (cs := [v1154]) H.ok rfl ty23 rfl rfl rfl (fun _ => rfl) rfl) rfl rfl <| nq (v := .pointer (some ⟨b1225, 0, none⟩)) (Q_fld Tryz.underlying72 rfl ty23 (by decide) rfl rfl) rfl rfl <| nq (v := v1197) (Q_ldB (k := 0) (cs := [v1197]) H.ok rfl ty23 rfl rfl rfl (fun _ => rfl) rfl) rfl rfl ?_
       obtain ⟨q1234, hq1234, ho1233⟩ := bnd ho1233
       refine ne (E_call fn29 rfl (c_29 H gle  r1156 r1199 hq1234)) rfl rfl ?_
       rintro _ wd1237 ⟨x1236, rfl, rfl, H⟩
       try dsimp only at ho1233
       refine nq (Q_not rfl) rfl rfl <| nq (Q_move rfl) rfl rfl ?_
       rcases Bool.eq_false_or_eq_true (!x1236) with hb | hb
       ·rw [hb]
        replace ho1233 := itT hb ho1233
        refine gs rfl rfl rfl rfl <| gs rfl rfl rfl rfl <| gs rfl rfl rfl rfl <| gs rfl rfl rfl rfl <| gs rfl rfl rfl rfl <| nq (Q_pickT rfl rfl) rfl rfl <| nq (Q_move rfl) rfl rfl <| gs rfl rfl rfl rfl <| gs rfl rfl rfl rfl <| gs rfl rfl rfl rfl <| gs rfl rfl rfl rfl <| gs rfl rfl rfl rfl <| nq (Q_pickT rfl rfl) rfl rfl <| nq (Q_move rfl) rfl rfl ?_
        refine gs rfl rfl rfl rfl <| gs rfl rfl rfl rfl <| gs rfl rfl rfl rfl <| gs rfl rfl rfl rfl <| gs rfl rfl rfl rfl <| nq (Q_pickT rfl rfl) rfl rfl <| WL_nil ?_
        replace H := H.e1.e0
        obtain rfl := Option.some.inj ho1233
        refine x_A fun a hf => ⟨true, rfl, hf.sub ⟨rfl, rfl, rfl, rfl, rfl, trivial⟩, H⟩
       ·rw [hb]
        replace ho1233 := itF hb ho1233
        refine gq (v := .pointer (some ⟨b1182, 1, none⟩)) (Q_fld Tryz.underlying72 rfl ty55 (by decide) rfl rfl) rfl rfl rfl <| gq (v := .agg #[.int .u64 x1142.2.1.1, .int .u64 x1142.2.1.2.1, .int .u64 x1142.2.1.2.2.1, .int .u64 x1142.2.1.2.2.2]) (Q_ldB (k := 1) (cs := [.int .u64 x1142.2.1.1, .int .u64 x1142.2.1.2.1, .int .u64 x1142.2.1.2.2.1, .int .u64 x1142.2.1.2.2.2]) H.ok rfl ty55 rfl rfl rfl (fun h => nomatch h) rfl) rfl rfl rfl <| gq (v := .pointer (some ⟨b1225, 1, none⟩)) (Q_fld Tryz.underlying72 rfl ty55 (by decide) rfl rfl) rfl rfl rfl <| gq (v := .agg #[.int .u64 x1185.2.1.1, .int .u64 x1185.2.1.2.1, .int .u64 x1185.2.1.2.2.1, .int .u64 x1185.2.1.2.2.2]) (Q_ldB (k := 0) (cs := [.int .u64 x1185.2.1.1, .int .u64 x1185.2.1.2.1, .int .u64 x1185.2.1.2.2.1, .int .u64 x1185.2.1.2.2.2]) H.ok rfl ty55 rfl rfl rfl (fun h => nomatch h) rfl) rfl rfl rfl <| gq (v := .bool (([x1142.2.1.1, x1142.2.1.2.1, x1142.2.1.2.2.1, x1142.2.1.2.2.2] : List Int) != ([x1185.2.1.1, x1185.2.1.2.1, x1185.2.1.2.2.1, x1185.2.1.2.2.2] : List Int))) (Q_neqA (xs := ([x1142.2.1.1, x1142.2.1.2.1, x1142.2.1.2.2.1, x1142.2.1.2.2.2] : List Int)) (ys := ([x1185.2.1.1, x1185.2.1.2.1, x1185.2.1.2.2.1, x1185.2.1.2.2.2] : List Int)) Tryz.underlying55 ty54 (by kernel_rfl) Tryz.underlying54 (rdL_ints .u64 ρ ([x1142.2.1.1, x1142.2.1.2.1, x1142.2.1.2.2.1, x1142.2.1.2.2.2] : List Int)) rfl (rdL_ints .u64 ρ ([x1185.2.1.1, x1185.2.1.2.1, x1185.2.1.2.2.1, x1185.2.1.2.2.2] : List Int)) rfl rfl rfl) rfl rfl rfl <| nq (Q_pickF rfl rfl) rfl rfl <| nq (Q_move rfl) rfl rfl ?_
        rcases Bool.eq_false_or_eq_true (([x1142.2.1.1, x1142.2.1.2.1, x1142.2.1.2.2.1, x1142.2.1.2.2.2] : List Int) != ([x1185.2.1.1, x1185.2.1.2.1, x1185.2.1.2.2.1, x1185.2.1.2.2.2] : List Int)) with hb | hb
        ·rw [hb]
         replace ho1233 := itT hb ho1233
         refine gs rfl rfl rfl rfl <| gs rfl rfl rfl rfl <| gs rfl rfl rfl rfl <| gs rfl rfl rfl rfl <| gs rfl rfl rfl rfl <| nq (Q_pickT rfl rfl) rfl rfl <| nq (Q_move rfl) rfl rfl <| gs rfl rfl rfl rfl <| gs rfl rfl rfl rfl <| gs rfl rfl rfl rfl <| gs rfl rfl rfl rfl <| gs rfl rfl rfl rfl <| nq (Q_pickT rfl rfl) rfl rfl <| WL_nil ?_
         replace H := H.e1.e0
         obtain rfl := Option.some.inj ho1233
         refine x_A fun a hf => ⟨true, rfl, hf.sub ⟨rfl, rfl, rfl, rfl, rfl, trivial⟩, H⟩
        ·rw [hb]
         replace ho1233 := itF hb ho1233
         refine gq (v := .pointer (some ⟨b1182, 5, none⟩)) (Q_fld Tryz.underlying72 rfl ty3 (by decide) rfl rfl) rfl rfl rfl <| gq (v := .int .i64 x1142.2.2.1) (Q_ldB (k := 1) (cs := [.int .i64 x1142.2.2.1]) H.ok rfl ty3 rfl rfl rfl (fun _ => rfl) rfl) rfl rfl rfl <| gq (v := .pointer (some ⟨b1225, 5, none⟩)) (Q_fld Tryz.underlying72 rfl ty3 (by decide) rfl rfl) rfl rfl rfl <| gq (v := .int .i64 x1185.2.2.1) (Q_ldB (k := 0) (cs := [.int .i64 x1185.2.2.1]) H.ok rfl ty3 rfl rfl rfl (fun _ => rfl) rfl) rfl rfl rfl <| gq (Q_neq rfl rfl) rfl rfl rfl <| nq (Q_pickF rfl rfl) rfl rfl <| nq (Q_move rfl) rfl rfl ?_
         rcases Bool.eq_false_or_eq_true (x1142.2.2.1 != x1185.2.2.1) with hb | hb
         ·rw [hb]
          replace ho1233 := itT hb ho1233
          refine gs rfl rfl rfl rfl <| gs rfl rfl rfl rfl <| gs rfl rfl rfl rfl <| gs rfl rfl rfl rfl <| gs rfl rfl rfl rfl <| nq (Q_pickT rfl rfl) rfl rfl <| WL_nil ?_
          replace H := H.e1.e0
          obtain rfl := Option.some.inj ho1233
          refine x_A fun a hf => ⟨true, rfl, hf.sub ⟨rfl, rfl, rfl, rfl, rfl, trivial⟩, H⟩
         ·rw [hb]
          replace ho1233 := itF hb ho1233
          refine gq (v := .pointer (some ⟨b1182, 6, none⟩)) (Q_fld Tryz.underlying72 rfl ty3 (by decide) rfl rfl) rfl rfl rfl <| gq (v := .int .i64 x1142.2.2.2) (Q_ldB (k := 1) (cs := [.int .i64 x1142.2.2.2]) H.ok rfl ty3 rfl rfl rfl (fun _ => rfl) rfl) rfl rfl rfl <| gq (v := .pointer (some ⟨b1225, 6, none⟩)) (Q_fld Tryz.underlying72 rfl ty3 (by decide) rfl rfl) rfl rfl rfl <| gq (v := .int .i64 x1185.2.2.2) (Q_ldB (k := 0) (cs := [.int .i64 x1185.2.2.2]) H.ok rfl ty3 rfl rfl rfl (fun _ => rfl) rfl) rfl rfl rfl <| gq (Q_neq rfl rfl) rfl rfl rfl <| nq (Q_pickF rfl rfl) rfl rfl <| WL_nil ?_
          replace H := H.e1.e0
          obtain rfl := Option.some.inj ho1233
          refine x_A fun a hf => ⟨x1142.2.2.2 != x1185.2.2.2, rfl, hf.sub ⟨rfl, rfl, rfl, rfl, rfl, trivial⟩, H⟩
      ·rintro a wd1238 ⟨x1232, rfl, hf, H⟩
       try dsimp only at hB1139
       refine CW.at hf ?_
       refine C_cond rfl (fun hb => ?_) (fun hb => ?_)
       ·replace hB1139 := itT hb hB1139
        refine C_seq <| R_nd <| nq (Q_assign rfl) rfl rfl <| WL_nil <| x_then <| C_ret <| x_block_ret <| x_then_ret <| x_then_ret <| x_block_ret <| x_then_ret <| x_then_ret ?_
        replace H := H.e0
        obtain rfl := Option.some.inj hB1139
        obtain rfl := hO1140 _ rfl
        obtain rfl := Option.some.inj (show some _ = some _ from hF)
        exact fn_ret (l := [.tmp 4]) (vs := [.bool false]) rfl rfl rfl ⟨false, rfl, rfl, H⟩
       ·replace hB1139 := itF hb hB1139
        refine C_skip <| x_block <| x_then <| R_nd <| nq (Q_add rfl rfl) rfl rfl <| nq (Q_move rfl) rfl rfl <| WL_nil ?_
        obtain rfl := Option.some.inj hB1139
        refine x_A fun a hf => ⟨_, rfl, w64 (x1039 + 1), rfl, hf.sub ⟨rfl, rfl, rfl, rfl, trivial⟩, H⟩
     ·replace hB1139 := itF hb hB1139
      refine C_exit <| x_then_exit <| x_then_exit <| x_block_exit ?_
      replace H := H.e0
      obtain rfl := Option.some.inj hB1139
      obtain rfl := hO1140 _ rfl
      refine x_A fun a hf => ⟨rfl, hf.sub trivial, H⟩
   ·rintro a wd1239 ⟨rfl, hf, H⟩
    try dsimp only at hF
    refine XX.at hf <| x_then <| C_seq <| R_nd <| nq (Q_assign rfl) rfl rfl <| WL_nil <| x_then <| C_ret ?_
    obtain rfl := Option.some.inj hF
    exact fn_ret (l := [.tmp 4]) (vs := [.bool true]) rfl rfl rfl ⟨true, rfl, rfl, H⟩
theorem c_4 {N : Nat} {C : Cx} {w : World} {ρ : View} {hs : List Hl} {gV : Nat → Value} {v1 : Value} {v4 : Value} {v7 : Value} {v10 : Value} {x2 : (List ((List Int) × (Int × Int × Int × Int) × Int × Int))} {x5 : (List Int)} {x8 : (List ((List Int) × (Int × Int × Int × Int) × Int × Int))} {x11 : (List Int)} (H : Hp C w ρ (hs)) (gle : GErrs ρ 373 errIds gV) (r3 : RdSl ρ (eP (eL (eI .i64)) (eP (eP (eI .u64) (eP (eI .u64) (eP (eI .u64) (eI .u64)))) (eP (eI .i64) (eI .i64)))) v1 x2) (r6 : RdSl ρ (eI .i64) v4 x5) (r9 : RdSl ρ (eP (eL (eI .i64)) (eP (eP (eI .u64) (eP (eI .u64) (eP (eI .u64) (eI .u64)))) (eP (eI .i64) (eI .i64)))) v7 x8) (r12 : RdSl ρ (eI .i64) v10 x11) {r : Bool} (hF : F_dofferlaw15_NfaRight N x2 x5 x8 x11 = some r) :
  Calls Tryz.prog 4 [.agg #[v1, v4], .agg #[v7, v10]].toArray w (Rets (fun v w' => (∃ (x810 : Bool), x810 = r ∧ .bool x810 = v ∧ Hp C w' ρ (hs)))) := by
 unfold F_dofferlaw15_NfaRight at hF
 have h0 : Tryz.f4.body = some _ := rfl
 refine fn_calls' Tryz.func4 h0 (n := 101) rfl (by simp) <| C_seq <| R_nd <| ne (E_box H (vs := [v1, v4]) rfl rfl) rfl rfl ?_
 rintro _ wd812 ⟨b811, rfl, H⟩
 refine ne (E_box H (vs := [v7, v10]) rfl rfl) rfl rfl ?_
 rintro _ wd814 ⟨b813, rfl, H⟩
 refine nq (Q_assign rfl) rfl rfl <| WL_nil <| x_then <| C_seq <| C_seq <| R_nd <| ne (E_call fn15 rfl (Cr.c_run runC15 (fun _ => trivial) H)) rfl rfl ?_
 rintro _ wd815 ⟨rfl, H⟩
 refine nq (Q_not rfl) rfl rfl <| WL_nil <| x_then ?_
 refine C_cond rfl (fun h => nomatch h) (fun _ => ?_)
 refine C_skip <| x_then <| C_seq <| R_nd <| nq (v := .agg #[v1, v4]) (Q_ldB (k := 1) (cs := [v1, v4]) H.ok rfl ty25 rfl rfl rfl (fun h => nomatch h) rfl) rfl rfl ?_
 obtain ⟨q816, hq816, hF⟩ := bnd hF
 refine ne (E_call fn7 rfl (c_7 H gle  r3 r6 hq816)) rfl rfl ?_
 rintro _ wd823 ⟨v818, c819, x820, x821, rfl, rfl, r822, H⟩
 try dsimp only at hF
 refine nq (Q_move rfl) rfl rfl <| nq (Q_extract rfl rfl) rfl rfl <| nq (Q_extract rfl rfl) rfl rfl <| ne (E_alloc H ty29 (zs := [.slice none 0 0, .slice none 0 0]) rfl) rfl rfl ?_
 rintro _ wd825 ⟨b824, rfl, H⟩
 refine ne (E_stB (k := 0) (cs := [v818, v4]) (vs' := [v818, v4]) H rfl ty29 rfl rfl rfl rfl (one_cons (arr_cells (H.ok.get (k := 1) rfl)).2 (one_cons (RdSl.one r6) one_nil)) (by simp) rfl) rfl rfl ?_
 rintro _ wd826 H
 dsimp only [List.set] at H
 refine nq (Q_assign rfl) rfl rfl <| WL_nil <| x_then <| C_seq <| R_nd <| nq (v := .agg #[v7, v10]) (Q_ldB (k := 2) (cs := [v7, v10]) H.ok rfl ty25 rfl rfl rfl (fun h => nomatch h) rfl) rfl rfl ?_
 obtain ⟨q827, hq827, hF⟩ := bnd hF
 refine ne (E_call fn7 rfl (c_7 H gle  r9 r12 hq827)) rfl rfl ?_
 rintro _ wd834 ⟨v829, c830, x831, x832, rfl, rfl, r833, H⟩
 try dsimp only at hF
 refine nq (Q_move rfl) rfl rfl <| nq (Q_extract rfl rfl) rfl rfl <| nq (Q_extract rfl rfl) rfl rfl <| ne (E_alloc H ty29 (zs := [.slice none 0 0, .slice none 0 0]) rfl) rfl rfl ?_
 rintro _ wd836 ⟨b835, rfl, H⟩
 refine ne (E_stB (k := 0) (cs := [v829, v10]) (vs' := [v829, v10]) H rfl ty29 rfl rfl rfl rfl (one_cons (arr_cells (H.ok.get (k := 1) rfl)).2 (one_cons (RdSl.one r12) one_nil)) (by simp) rfl) rfl rfl ?_
 rintro _ wd837 H
 dsimp only [List.set] at H
 refine nq (Q_assign rfl) rfl rfl <| WL_nil <| x_then <| C_seq ?_
 obtain ⟨o839, ho839, hF⟩ := bnd hF
 refine C_cut (fun a w' => ∃ (x838 : Bool), x838 = o839 ∧ Fr 101 a [(2, .pointer (some ⟨b811, 0, none⟩)), (3, .pointer (some ⟨b813, 0, none⟩)), (5, .pointer (some ⟨b824, 0, none⟩)), (7, .pointer (some ⟨b835, 0, none⟩)), (30, .bool x838)] ∧ Hp C w' ρ (Box b811 [v1, v4] :: Box b813 [v7, v10] :: Box b824 [v818, v4] :: Arr v818 7 c819 :: Box b835 [v829, v10] :: Arr v829 7 c830 :: hs)) ?_ ?_
 ·refine R_nd <| nq (Q_move rfl) rfl rfl <| nq (Q_not rfl) rfl rfl <| nq (Q_move rfl) rfl rfl ?_
  rcases Bool.eq_false_or_eq_true (!x821) with hb | hb
  ·rw [hb]
   replace ho839 := itT hb ho839
   refine gs rfl rfl rfl rfl <| gs rfl rfl rfl rfl <| nq (Q_pickT rfl rfl) rfl rfl <| WL_nil ?_
   replace H := H.f3.f3.f4.f5
   obtain rfl := Option.some.inj ho839
   refine x_A fun a hf => ⟨true, rfl, hf.sub ⟨rfl, rfl, rfl, rfl, rfl, trivial⟩, H⟩
  ·rw [hb]
   replace ho839 := itF hb ho839
   refine gq (Q_move rfl) rfl rfl rfl <| gq (Q_not rfl) rfl rfl rfl <| nq (Q_pickF rfl rfl) rfl rfl <| WL_nil ?_
   replace H := H.f3.f3.f4.f5
   obtain rfl := Option.some.inj ho839
   refine x_A fun a hf => ⟨!x832, rfl, hf.sub ⟨rfl, rfl, rfl, rfl, rfl, trivial⟩, H⟩
 ·rintro a wd840 ⟨x838, rfl, hf, H⟩
  try dsimp only at hF
  refine CW.at hf ?_
  refine C_cond rfl (fun hb => ?_) (fun hb => ?_)
  ·replace hF := itT hb hF
   refine C_seq <| R_nd <| nq (Q_assign rfl) rfl rfl <| WL_nil <| x_then <| C_ret <| x_then_ret ?_
   replace H := H.e5.e4.e3.e2.e1.e0
   obtain rfl := Option.some.inj hF
   exact fn_ret (l := [.tmp 4]) (vs := [.bool true]) rfl rfl rfl ⟨true, rfl, rfl, H⟩
  ·replace hF := itF hb hF
   refine C_skip <| x_then <| C_seq <| R_nd <| nq (v := .agg #[v1, v4]) (Q_ldB (k := 0) (cs := [v1, v4]) H.ok rfl ty25 rfl rfl rfl (fun h => nomatch h) rfl) rfl rfl ?_
   obtain ⟨_, hcp, hF⟩ := bnd hF
   refine ne (E_call fn16 rfl (Co.c_copy H r3 r6 hcp)) rfl rfl ?_
   rintro _ wd846 ⟨v841, us842, v843, c844, rfl, r845, H⟩
   refine ne (E_alloc H ty25 (zs := [.slice none 0 0, .slice none 0 0]) rfl) rfl rfl ?_
   rintro _ wd848 ⟨b847, rfl, H⟩
   refine ne (E_stB (k := 0) (cs := [v841, v843]) (vs' := [v841, v843]) H rfl ty25 rfl rfl rfl rfl (one_cons (ns_cells (H.okS (l := [NS (eI .i64) (eP (eP (eI .u64) (eP (eI .u64) (eP (eI .u64) (eI .u64)))) (eP (eI .i64) (eI .i64))) v841 us842 x2]) (by simp))).2 (one_cons (arr_cells (H.ok.get (k := 2) rfl)).2 one_nil)) (by simp) rfl) rfl rfl ?_
   rintro _ wd849 H
   dsimp only [List.set] at H
   refine WL_nil <| x_then <| C_seq ?_
   obtain ⟨o871, ho871, hF⟩ := bnd hF
   refine C_cut (fun a w' => ∃ (x870 : Bool), x870 = o871 ∧ Fr 101 a [(2, .pointer (some ⟨b811, 0, none⟩)), (5, .pointer (some ⟨b824, 0, none⟩)), (9, .pointer (some ⟨b847, 0, none⟩)), (52, .bool x870)] ∧ Hp C w' ρ (Box b811 [v1, v4] :: Box b824 [v818, v4] :: Arr v818 7 c819 :: Box b847 [v841, v843] :: NS (eI .i64) (eP (eP (eI .u64) (eP (eI .u64) (eP (eI .u64) (eI .u64)))) (eP (eI .i64) (eI .i64))) v841 us842 x2 :: Arr v843 1 c844 :: hs)) ?_ ?_
   ·refine R_dr (.take 0 (.take 2 (.one 1 (.bar 3 (some 11) (.take 4 (.take 5 (.take 6 (.take 7 (.take 9 (.take 10 (.one 8 (.bar 11 (some 17) (.take 12 (.take 13 (.take 14 (.take 15 (.take 16 (.bar 17 none (.take 18 (.take 19 .done)))))))))))))))))))) (some 3) (S := fun w' => Ok w' ρ [Box b847 [v841, v843], NS (eI .i64) (eP (eP (eI .u64) (eP (eI .u64) (eP (eI .u64) (eI .u64)))) (eP (eI .i64) (eI .i64))) v841 us842 x2, Arr v843 1 c844, Box b811 [v1, v4], Box b813 [v7, v10], Box b824 [v818, v4], Arr v818 7 c819, Box b835 [v829, v10], Arr v829 7 c830]) hm0 (by kernel_rfl) (H.drew.okS (by simp)) ?_
    replace H := H.drew
    refine dq (v := .agg #[v1, v4]) rfl (fun _ hw => Q_ldB (k := 3) (cs := [v1, v4]) hw rfl ty25 rfl rfl rfl (fun h => nomatch h) rfl) rfl rfl <| dq (v := .agg #[v818, v4]) rfl (fun _ hw => Q_ldB (k := 5) (cs := [v818, v4]) hw rfl ty29 rfl rfl rfl (fun h => nomatch h) rfl) rfl rfl ?_
    obtain ⟨q872, hq872, ho871⟩ := bnd ho871
    refine d1 (de rfl (E_call fn17 rfl (c_17 H gle  r3 r6 hq872)) rfl rfl ?_)
    rintro _ wd875 ⟨x874, rfl, rfl, H⟩
    try dsimp only at ho871
    refine ⟨H.okS (by simp), ?_⟩
    replace H := H.f6
    obtain ⟨q876, hq876, ho871⟩ := bnd ho871
    obtain ⟨C', ρ', hl877, HA, hL, hback⟩ := Hp.lend (A := []) (L := [Arr v818 7 c819]) (F := Box b847 [v841, v843] :: NS (eI .i64) (eP (eP (eI .u64) (eP (eI .u64) (eP (eI .u64) (eI .u64)))) (eP (eI .i64) (eI .i64))) v841 us842 x2 :: Arr v843 1 c844 :: Box b811 [v1, v4] :: Box b813 [v7, v10] :: Box b824 [v818, v4] :: Box b835 [v829, v10] :: Arr v829 7 c830 :: hs) H
    refine db rfl (E_call fn18 rfl (c_18 HA (gle.up hl877)  (arr_rd (by decide) hl877 (hL (Arr v818 7 c819) (by simp)) r822) (r6.up hl877) hq876)) rfl rfl ?_
    rintro _ wd879 ⟨x878, rfl, rfl, H⟩
    try dsimp only at ho871
    replace H := hback H
    dsimp only [List.cons_append, List.nil_append] at H
    refine ⟨fun w' => Ok w' ρ [Arr v818 7 c819, Box b847 [v841, v843], NS (eI .i64) (eP (eP (eI .u64) (eP (eI .u64) (eP (eI .u64) (eI .u64)))) (eP (eI .i64) (eI .i64))) v841 us842 x2, Arr v843 1 c844, Box b811 [v1, v4], Box b813 [v7, v10], Box b824 [v818, v4], Box b835 [v829, v10], Arr v829 7 c830], H.okS (by simp), ?_⟩
    refine dq (v := .bool (x874 != x878)) rfl (fun _ _ => Q_neqB Tryz.underlying4 rfl rfl) rfl rfl <| dq rfl (fun _ _ => Q_move rfl) rfl rfl ?_
    rcases Bool.eq_false_or_eq_true (x874 != x878) with hb | hb
    ·rw [hb]
     replace ho871 := itT hb ho871
     refine dgs rfl rfl rfl rfl rfl <| dgs rfl rfl rfl rfl rfl <| dgs rfl rfl rfl rfl rfl <| dgs rfl rfl rfl rfl rfl ?_
     refine d1 (dges rfl rfl rfl rfl rfl ?_)
     refine dgbs rfl rfl rfl rfl rfl <| H.okF <| dgs rfl rfl rfl rfl rfl <| dq rfl (fun _ _ => Q_pickT rfl rfl) rfl rfl <| dq rfl (fun _ _ => Q_move rfl) rfl rfl <| dgs rfl rfl rfl rfl rfl <| dgs rfl rfl rfl rfl rfl <| dgbs rfl rfl rfl rfl rfl <| H.okF <| dgs rfl rfl rfl rfl rfl <| dq rfl (fun _ _ => Q_pickT rfl rfl) rfl rfl <| DL_nil ?_
     replace H := H.e8.e7.e5.f5.f5
     obtain rfl := Option.some.inj ho871
     refine x_A fun a hf => ⟨true, rfl, hf.sub ⟨rfl, rfl, rfl, rfl, trivial⟩, H⟩
    ·rw [hb]
     replace ho871 := itF hb ho871
     refine dgq (v := .agg #[v1, v4]) rfl (fun _ hw => Q_ldB (k := 4) (cs := [v1, v4]) hw rfl ty25 rfl rfl rfl (fun h => nomatch h) rfl) rfl rfl rfl <| dgq (v := .agg #[v7, v10]) rfl (fun _ hw => Q_ldB (k := 5) (cs := [v7, v10]) hw rfl ty25 rfl rfl rfl (fun h => nomatch h) rfl) rfl rfl rfl <| dgq (v := .agg #[v818, v4]) rfl (fun _ hw => Q_ldB (k := 6) (cs := [v818, v4]) hw rfl ty29 rfl rfl rfl (fun h => nomatch h) rfl) rfl rfl rfl <| dgq (v := .agg #[v829, v10]) rfl (fun _ hw => Q_ldB (k := 7) (cs := [v829, v10]) hw rfl ty29 rfl rfl rfl (fun h => nomatch h) rfl) rfl rfl rfl ?_
     obtain ⟨q880, hq880, ho871⟩ := bnd ho871
     refine d1 (dge rfl (E_call fn19 rfl (c_19 H gle  r3 r6 r9 r12 hq880)) rfl rfl rfl ?_)
     rintro _ wd883 ⟨x882, rfl, rfl, H⟩
     try dsimp only at ho871
     refine ⟨H.okS (by simp), ?_⟩
     replace H := H.f8.f1
     obtain ⟨q884, hq884, ho871⟩ := bnd ho871
     obtain ⟨C', ρ', hl885, HA, hL, hback⟩ := Hp.lend (A := []) (L := [Arr v818 7 c819, Arr v829 7 c830]) (F := Box b847 [v841, v843] :: NS (eI .i64) (eP (eP (eI .u64) (eP (eI .u64) (eP (eI .u64) (eI .u64)))) (eP (eI .i64) (eI .i64))) v841 us842 x2 :: Arr v843 1 c844 :: Box b811 [v1, v4] :: Box b813 [v7, v10] :: Box b824 [v818, v4] :: Box b835 [v829, v10] :: hs) H
     refine dgb rfl (E_call fn20 rfl (c_20 HA (gle.up hl885)  (arr_rd (by decide) hl885 (hL (Arr v818 7 c819) (by simp)) r822) (r6.up hl885) (arr_rd (by decide) hl885 (hL (Arr v829 7 c830) (by simp)) r833) (r12.up hl885) hq884)) rfl rfl rfl ?_
     rintro _ wd887 ⟨x886, rfl, rfl, H⟩
     try dsimp only at ho871
     replace H := hback H
     dsimp only [List.cons_append, List.nil_append] at H
     refine H.okF <| dgq (v := .bool (x882 != x886)) rfl (fun _ _ => Q_neqB Tryz.underlying4 rfl rfl) rfl rfl rfl <| dq rfl (fun _ _ => Q_pickF rfl rfl) rfl rfl <| dq rfl (fun _ _ => Q_move rfl) rfl rfl ?_
     rcases Bool.eq_false_or_eq_true (x882 != x886) with hb | hb
     ·rw [hb]
      replace ho871 := itT hb ho871
      refine dgs rfl rfl rfl rfl rfl <| dgs rfl rfl rfl rfl rfl <| dgbs rfl rfl rfl rfl rfl <| H.okF <| dgs rfl rfl rfl rfl rfl <| dq rfl (fun _ _ => Q_pickT rfl rfl) rfl rfl <| DL_nil ?_
      replace H := H.e8.e6.e1.f5.f5
      obtain rfl := Option.some.inj ho871
      refine x_A fun a hf => ⟨true, rfl, hf.sub ⟨rfl, rfl, rfl, rfl, trivial⟩, H⟩
     ·rw [hb]
      replace ho871 := itF hb ho871
      refine dgq (v := .agg #[v841, v843]) rfl (fun _ hw => Q_ldB (k := 2) (cs := [v841, v843]) hw rfl ty25 rfl rfl rfl (fun h => nomatch h) rfl) rfl rfl rfl <| dgq (v := .agg #[v1, v4]) rfl (fun _ hw => Q_ldB (k := 5) (cs := [v1, v4]) hw rfl ty25 rfl rfl rfl (fun h => nomatch h) rfl) rfl rfl rfl ?_
      replace H := H.f4.f4
      obtain ⟨q888, hq888, ho871⟩ := bnd ho871
      obtain ⟨C', ρ', hl889, HA, hL, hback⟩ := Hp.lend (A := []) (L := [NS (eI .i64) (eP (eP (eI .u64) (eP (eI .u64) (eP (eI .u64) (eI .u64)))) (eP (eI .i64) (eI .i64))) v841 us842 x2, Arr v843 1 c844]) (F := Arr v818 7 c819 :: Arr v829 7 c830 :: Box b847 [v841, v843] :: Box b811 [v1, v4] :: Box b813 [v7, v10] :: Box b824 [v818, v4] :: Box b835 [v829, v10] :: hs) H
      refine dgb rfl (E_call fn19 rfl (c_19 HA (gle.up hl889)  (ns_rd (by decide) hl889 (hL (NS (eI .i64) (eP (eP (eI .u64) (eP (eI .u64) (eP (eI .u64) (eI .u64)))) (eP (eI .i64) (eI .i64))) v841 us842 x2) (by simp))) (arr_rd (by decide) hl889 (hL (Arr v843 1 c844) (by simp)) r845) (r3.up hl889) (r6.up hl889) hq888)) rfl rfl rfl ?_
      rintro _ wd891 ⟨x890, rfl, rfl, H⟩
      try dsimp only at ho871
      replace H := hback H
      dsimp only [List.cons_append, List.nil_append] at H
      refine H.okF <| dgq rfl (fun _ _ => Q_not rfl) rfl rfl rfl <| dq rfl (fun _ _ => Q_pickF rfl rfl) rfl rfl <| DL_nil ?_
      replace H := H.e8.e6.e3.f3.f3.f5.f5
      obtain rfl := Option.some.inj ho871
      refine x_A fun a hf => ⟨!x890, rfl, hf.sub ⟨rfl, rfl, rfl, rfl, trivial⟩, H⟩
   ·rintro a wd892 ⟨x870, rfl, hf, H⟩
    try dsimp only at hF
    refine CW.at hf ?_
    refine C_cond rfl (fun hb => ?_) (fun hb => ?_)
    ·replace hF := itT hb hF
     refine C_seq <| R_nd <| nq (Q_assign rfl) rfl rfl <| WL_nil <| x_then <| C_ret <| x_then_ret ?_
     replace H := H.e5.e4.e3.e2.e1.e0
     obtain rfl := Option.some.inj hF
     exact fn_ret (l := [.tmp 4]) (vs := [.bool false]) rfl rfl rfl ⟨false, rfl, rfl, H⟩
    ·replace hF := itF hb hF
     refine C_skip <| x_then <| C_seq <| C_seq <| R_nd <| nq (v := .pointer (some ⟨b847, 0, none⟩)) (Q_fld Tryz.underlying25 rfl ty22 (by decide) rfl rfl) rfl rfl <| nq (v := v841) (Q_ldB (k := 3) (cs := [v841]) H.ok rfl ty22 rfl rfl rfl (fun _ => rfl) rfl) rfl rfl <| nq (v := .int .i64 (x2.length : Int)) (ns_len (k := 4) H.ok rfl Tryz.underlying22 rfl) rfl rfl <| nq (Q_move rfl) rfl rfl <| WL_nil <| x_then ?_
     obtain ⟨o1231, ho1231, hF⟩ := bnd hF
     refine C_cutQ (fun a w' => ∃ (x1230 : (List ((List Int) × (Int × Int × Int × Int) × Int × Int))), x1230 = o1231 ∧ Fr 101 a [(2, .pointer (some ⟨b811, 0, none⟩)), (5, .pointer (some ⟨b824, 0, none⟩)), (9, .pointer (some ⟨b847, 0, none⟩))] ∧ Hp C w' ρ (Box b811 [v1, v4] :: Box b824 [v818, v4] :: Arr v818 7 c819 :: Box b847 [v841, v843] :: NS (eI .i64) (eP (eP (eI .u64) (eP (eI .u64) (eP (eI .u64) (eI .u64)))) (eP (eI .i64) (eI .i64))) v841 us842 x1230 :: Arr v843 1 c844 :: hs)) ?_ ?_
     ·refine C_block ?_
      refine C_iter (f := fun s => F_dofferlaw15_NfaRight_l0 N x2 s.1 s.2) ho1231 (fun s a w' => ∃ (x1343 : Int) (x1344 : (List ((List Int) × (Int × Int × Int × Int) × Int × Int))), (x1343, x1344) = s ∧ Fr 101 a [(2, .pointer (some ⟨b811, 0, none⟩)), (5, .pointer (some ⟨b824, 0, none⟩)), (9, .pointer (some ⟨b847, 0, none⟩)), (55, .int .i64 (x2.length : Int)), (56, .int .i64 x1343)] ∧ Hp C w' ρ (Box b811 [v1, v4] :: Box b824 [v818, v4] :: Arr v818 7 c819 :: Box b847 [v841, v843] :: NS (eI .i64) (eP (eP (eI .u64) (eP (eI .u64) (eP (eI .u64) (eI .u64)))) (eP (eI .i64) (eI .i64))) v841 us842 x1344 :: Arr v843 1 c844 :: hs)) ?_ ?_
      ·exact fun a hf => ⟨0, x2, rfl, hf.sub ⟨rfl, rfl, rfl, rfl, rfl, trivial⟩, H⟩
      ·rintro s o1456 a wd1459 ⟨x1343, x1344, rfl, hf, H⟩ hB1457 hO1458
       replace hB1457 : F_dofferlaw15_NfaRight_l0 N x2 x1343 x1344 = some o1456 := hB1457
       unfold F_dofferlaw15_NfaRight_l0 at hB1457
       refine CW.at hf <| C_seq <| R_nd <| nq (Q_lss rfl rfl) rfl rfl <| WL_nil <| x_then <| C_seq ?_
       refine C_cond rfl (fun hb => ?_) (fun hb => ?_)
       ·replace hB1457 := itT hb hB1457
        refine C_skip <| x_then ?_
        obtain ⟨o1514, ho1514, hB1457⟩ := bnd hB1457
        refine C_cut (fun a w' => ∃ (x1513 : (List ((List Int) × (Int × Int × Int × Int) × Int × Int))), x1513 = o1514 ∧ Fr 101 a [(2, .pointer (some ⟨b811, 0, none⟩)), (5, .pointer (some ⟨b824, 0, none⟩)), (9, .pointer (some ⟨b847, 0, none⟩)), (55, .int .i64 (x2.length : Int)), (56, .int .i64 x1343)] ∧ Hp C w' ρ (Box b811 [v1, v4] :: Box b824 [v818, v4] :: Arr v818 7 c819 :: Box b847 [v841, v843] :: NS (eI .i64) (eP (eP (eI .u64) (eP (eI .u64) (eP (eI .u64) (eI .u64)))) (eP (eI .i64) (eI .i64))) v841 us842 x1513 :: Arr v843 1 c844 :: hs)) ?_ ?_
        ·refine C_block <| C_seq <| R_nd <| nq (Q_move rfl) rfl rfl <| nq (Q_assign rfl) rfl rfl <| WL_nil <| x_then <| C_seq <| R_nd <| nq (v := .pointer (some ⟨b847, 0, none⟩)) (Q_fld Tryz.underlying25 rfl ty22 (by decide) rfl rfl) rfl rfl <| nq (v := v841) (Q_ldB (k := 3) (cs := [v841]) H.ok rfl ty22 rfl rfl rfl (fun _ => rfl) rfl) rfl rfl <| nq (Q_move rfl) rfl rfl ?_
         obtain ⟨x1515, hx1515, ho1514⟩ := bnd ho1514
         obtain ⟨b1516, o1517, u1518, hi1519, hu1520, ha1521, hl1522⟩ := ns_at (by decide) (H.okS (l := [NS (eI .i64) (eP (eP (eI .u64) (eP (eI .u64) (eP (eI .u64) (eI .u64)))) (eP (eI .i64) (eI .i64))) v841 us842 x1344]) (by simp)) (flat_P (flat_P (flat_I _) (flat_P (flat_I _) (flat_P (flat_I _) (flat_I _)))) (flat_P (flat_I _) (flat_I _))) hx1515
         refine nq (Q_idx hi1519 Tryz.underlying22 ty58 rfl rfl) rfl rfl <| nq (v := .pointer (some ⟨b1516, o1517 + 6, none⟩)) (Q_fld Tryz.underlying58 rfl ty3 (by decide) rfl (Addr.add_none _ _ _)) rfl rfl ?_
         replace H := H.f4
         obtain ⟨x1523, hx1523, ho1514⟩ := bnd ho1514
         refine ne (E_stSr1 (j := 5) (c := [.int .i64 99]) (flat_P (flat_P (flat_I _) (flat_P (flat_I _) (flat_P (flat_I _) (flat_I _)))) (flat_P (flat_I _) (flat_I _))) H hx1515 ty3 hi1519 rfl rfl rfl rfl (one_cons rfl one_nil) (by decide) (fun rc h => by obtain ⟨_, _, rfl, ⟨_, _, rfl, rfl, ⟨_, _, rfl, rfl, ⟨_, _, rfl, rfl, rfl⟩⟩⟩, ⟨_, _, rfl, rfl, rfl⟩⟩ := h; exact ⟨[.int .u64 x1515.2.1.1, .int .u64 x1515.2.1.2.1, .int .u64 x1515.2.1.2.2.1, .int .u64 x1515.2.1.2.2.2], _, rfl, ⟨[.int .u64 x1515.2.1.1], _, rfl, rfl, ⟨[.int .u64 x1515.2.1.2.1], _, rfl, rfl, ⟨[.int .u64 x1515.2.1.2.2.1], _, rfl, rfl, rfl⟩⟩⟩, ⟨[.int .i64 x1515.2.2.1], _, rfl, rfl, rfl⟩⟩) hx1523) rfl rfl ?_
         rintro _ wd1524 H
         refine WL_nil <| x_then <| C_seq <| R_nd <| nq (v := .pointer (some ⟨b847, 0, none⟩)) (Q_fld Tryz.underlying25 rfl ty22 (by decide) rfl rfl) rfl rfl <| nq (v := v841) (Q_ldB (k := 4) (cs := [v841]) H.ok rfl ty22 rfl rfl rfl (fun _ => rfl) rfl) rfl rfl <| nq (Q_move rfl) rfl rfl ?_
         obtain ⟨x1525, hx1525, ho1514⟩ := bnd ho1514
         obtain ⟨b1526, o1527, u1528, hi1529, hu1530, ha1531, hl1532⟩ := ns_at (by decide) (H.okS (l := [NS (eI .i64) (eP (eP (eI .u64) (eP (eI .u64) (eP (eI .u64) (eI .u64)))) (eP (eI .i64) (eI .i64))) v841 us842 x1523]) (by simp)) (flat_P (flat_P (flat_I _) (flat_P (flat_I _) (flat_P (flat_I _) (flat_I _)))) (flat_P (flat_I _) (flat_I _))) hx1525
         refine nq (Q_idx hi1529 Tryz.underlying22 ty58 rfl rfl) rfl rfl <| nq (v := .pointer (some ⟨b1526, o1527 + 0, none⟩)) (Q_fld Tryz.underlying58 rfl ty23 (by decide) rfl (Addr.add_none _ _ _)) rfl rfl <| nq (v := u1528) (Q_ld (show cellsAt _ _ _ [u1528] from match ha1531 _ (Ok.subS (by simp) H.ok) with | ⟨_, _, h⟩ => cellsAt.left (c1 := [u1528]) h) ty23 rfl (fun _ => rfl) rfl rfl) rfl rfl <| nq (v := .int .i64 (x1525.1.length : Int)) (Q_lenI hl1532 Tryz.underlying23 rfl) rfl rfl <| nq (Q_gtr rfl rfl) rfl rfl <| WL_nil <| x_then ?_
         obtain ⟨o1550, ho1550, ho1514⟩ := bnd ho1514
         refine C_cutQ (fun a w' => ∃ (x1549 : (List ((List Int) × (Int × Int × Int × Int) × Int × Int))), x1549 = o1550 ∧ Fr 101 a [(2, .pointer (some ⟨b811, 0, none⟩)), (5, .pointer (some ⟨b824, 0, none⟩)), (9, .pointer (some ⟨b847, 0, none⟩)), (55, .int .i64 (x2.length : Int)), (56, .int .i64 x1343)] ∧ Hp C w' ρ (Box b811 [v1, v4] :: Box b824 [v818, v4] :: Arr v818 7 c819 :: Box b847 [v841, v843] :: NS (eI .i64) (eP (eP (eI .u64) (eP (eI .u64) (eP (eI .u64) (eI .u64)))) (eP (eI .i64) (eI .i64))) v841 us842 x1549 :: Arr v843 1 c844 :: hs)) ?_ ?_
         ·refine C_cond rfl (fun hb => ?_) (fun hb => ?_)
          ·replace ho1550 := itT hb ho1550
           refine R_nd <| nq (v := .pointer (some ⟨b847, 0, none⟩)) (Q_fld Tryz.underlying25 rfl ty22 (by decide) rfl rfl) rfl rfl <| nq (v := v841) (Q_ldB (k := 4) (cs := [v841]) H.ok rfl ty22 rfl rfl rfl (fun _ => rfl) rfl) rfl rfl <| nq (Q_move rfl) rfl rfl ?_
           obtain ⟨x1551, hx1551, ho1550⟩ := bnd ho1550
           obtain ⟨b1552, o1553, u1554, hi1555, hu1556, ha1557, hl1558⟩ := ns_at (by decide) (H.okS (l := [NS (eI .i64) (eP (eP (eI .u64) (eP (eI .u64) (eP (eI .u64) (eI .u64)))) (eP (eI .i64) (eI .i64))) v841 us842 x1523]) (by simp)) (flat_P (flat_P (flat_I _) (flat_P (flat_I _) (flat_P (flat_I _) (flat_I _)))) (flat_P (flat_I _) (flat_I _))) hx1551
           refine nq (Q_idx hi1555 Tryz.underlying22 ty58 rfl rfl) rfl rfl <| nq (v := .pointer (some ⟨b1552, o1553 + 0, none⟩)) (Q_fld Tryz.underlying58 rfl ty23 (by decide) rfl (Addr.add_none _ _ _)) rfl rfl <| nq (v := u1554) (Q_ld (show cellsAt _ _ _ [u1554] from match ha1557 _ (Ok.subS (by simp) H.ok) with | ⟨_, _, h⟩ => cellsAt.left (c1 := [u1554]) h) ty23 rfl (fun _ => rfl) rfl rfl) rfl rfl ?_
           obtain ⟨x1559, hx1559, ho1550⟩ := bnd ho1550
           obtain ⟨b1560, o1561, hi1562, ha1563⟩ := ns_in (by decide) (H.okS (l := [NS (eI .i64) (eP (eP (eI .u64) (eP (eI .u64) (eP (eI .u64) (eI .u64)))) (eP (eI .i64) (eI .i64))) v841 us842 x1523]) (by simp)) hu1556 (idx_some hx1551).2.2 hx1559
           refine nq (Q_idx hi1562 Tryz.underlying23 ty3 rfl rfl) rfl rfl ?_
           obtain ⟨x1564, hx1564, ho1550⟩ := bnd ho1550
           obtain ⟨x1565, hx1565, ho1550⟩ := bnd ho1550
           refine ne (E_stSi1 (flat_I _) H hu1556 hx1551 ty3 rfl hi1562 rfl rfl rfl (show ((eI .i64)).rd _ _ _ from rfl) hx1564 hx1565) rfl rfl ?_
           rintro _ wd1566 H
           refine WL_nil ?_
           replace H := H.f4.f4.f4.f4
           obtain rfl := Option.some.inj ho1550
           refine x_A fun a hf => ⟨x1565, rfl, hf.sub ⟨rfl, rfl, rfl, rfl, rfl, trivial⟩, H⟩
          ·replace ho1550 := itF hb ho1550
           refine C_skip ?_
           replace H := H.f4.f4.f4.f4
           obtain rfl := Option.some.inj ho1550
           refine x_A fun a hf => ⟨x1523, rfl, hf.sub ⟨rfl, rfl, rfl, rfl, rfl, trivial⟩, H⟩
         ·rintro a wd1567 ⟨x1549, rfl, hf, H⟩
          try dsimp only at ho1514
          refine XX.at hf <| x_block ?_
          obtain rfl := Option.some.inj ho1514
          refine x_A fun a hf => ⟨x1549, rfl, hf.sub ⟨rfl, rfl, rfl, rfl, rfl, trivial⟩, H⟩
        ·rintro a wd1568 ⟨x1513, rfl, hf, H⟩
         try dsimp only at hB1457
         refine CW.at hf <| R_nd <| nq (Q_add rfl rfl) rfl rfl <| nq (Q_move rfl) rfl rfl <| WL_nil ?_
         obtain rfl := Option.some.inj hB1457
         refine x_A fun a hf => ⟨_, rfl, w64 (x1343 + 1), x1513, rfl, hf.sub ⟨rfl, rfl, rfl, rfl, rfl, trivial⟩, H⟩
       ·replace hB1457 := itF hb hB1457
        refine C_exit <| x_then_exit <| x_then_exit <| x_block_exit ?_
        obtain rfl := Option.some.inj hB1457
        obtain rfl := hO1458 _ rfl
        refine x_A fun a hf => ⟨x1344, rfl, hf.sub ⟨rfl, rfl, rfl, trivial⟩, H⟩
     ·rintro a wd1569 ⟨x1230, rfl, hf, H⟩
      try dsimp only at hF
      refine XX.at hf <| x_then <| C_seq <| R_nd <| nq (v := .agg #[v1, v4]) (Q_ldB (k := 0) (cs := [v1, v4]) H.ok rfl ty25 rfl rfl rfl (fun h => nomatch h) rfl) rfl rfl ?_
      obtain ⟨q1570, hq1570, hF⟩ := bnd hF
      refine ne (E_call fn7 rfl (c_7 H gle  r3 r6 hq1570)) rfl rfl ?_
      rintro _ wd1577 ⟨v1572, c1573, x1574, x1575, rfl, rfl, r1576, H⟩
      try dsimp only at hF
      refine nq (Q_move rfl) rfl rfl <| nq (Q_extract rfl rfl) rfl rfl <| nq (Q_extract rfl rfl) rfl rfl <| ne (E_alloc H ty29 (zs := [.slice none 0 0, .slice none 0 0]) rfl) rfl rfl ?_
      rintro _ wd1579 ⟨b1578, rfl, H⟩
      refine ne (E_stB (k := 0) (cs := [v1572, v4]) (vs' := [v1572, v4]) H rfl ty29 rfl rfl rfl rfl (one_cons (arr_cells (H.ok.get (k := 1) rfl)).2 (one_cons (RdSl.one r6) one_nil)) (by simp) rfl) rfl rfl ?_
      rintro _ wd1580 H
      dsimp only [List.set] at H
      refine nq (Q_assign rfl) rfl rfl <| WL_nil <| x_then ?_
      obtain ⟨o1594, ho1594, hF⟩ := bnd hF
      refine C_cut (fun a w' => ∃ (x1593 : Bool), x1593 = o1594 ∧ Fr 101 a [(4, .bool x1593)] ∧ Hp C w' ρ (hs)) ?_ ?_
      ·refine R_dr (.take 0 (.take 2 (.one 1 (.bar 3 (some 12) (.take 4 (.take 5 (.take 6 (.take 7 (.take 8 (.take 9 (.take 10 (.take 11 (.bar 12 none (.take 13 (.take 14 (.take 15 (.take 16 .done))))))))))))))))) (some 3) (S := fun w' => Ok w' ρ [Box b1578 [v1572, v4], Arr v1572 7 c1573, Box b811 [v1, v4], Box b824 [v818, v4], Arr v818 7 c819, Box b847 [v841, v843], NS (eI .i64) (eP (eP (eI .u64) (eP (eI .u64) (eP (eI .u64) (eI .u64)))) (eP (eI .i64) (eI .i64))) v841 us842 x1230, Arr v843 1 c844]) hm0 (by kernel_rfl) (H.drew.okS (by simp)) ?_
       replace H := H.drew
       refine dq (v := .agg #[v1572, v4]) rfl (fun _ hw => Q_ldB (k := 0) (cs := [v1572, v4]) hw rfl ty29 rfl rfl rfl (fun h => nomatch h) rfl) rfl rfl <| dq (v := .agg #[v818, v4]) rfl (fun _ hw => Q_ldB (k := 3) (cs := [v818, v4]) hw rfl ty29 rfl rfl rfl (fun h => nomatch h) rfl) rfl rfl ?_
       replace H := H.f1
       obtain ⟨q1595, hq1595, ho1594⟩ := bnd ho1594
       obtain ⟨C', ρ', hl1596, HA, hL, hback⟩ := Hp.lend (A := []) (L := [Arr v1572 7 c1573]) (F := Box b1578 [v1572, v4] :: Box b811 [v1, v4] :: Box b824 [v818, v4] :: Arr v818 7 c819 :: Box b847 [v841, v843] :: NS (eI .i64) (eP (eP (eI .u64) (eP (eI .u64) (eP (eI .u64) (eI .u64)))) (eP (eI .i64) (eI .i64))) v841 us842 x1230 :: Arr v843 1 c844 :: hs) H
       refine d1 (de rfl (E_call fn18 rfl (c_18 HA (gle.up hl1596)  (arr_rd (by decide) hl1596 (hL (Arr v1572 7 c1573) (by simp)) r1576) (r6.up hl1596) hq1595)) rfl rfl ?_)
       rintro _ wd1598 ⟨x1597, rfl, rfl, H⟩
       try dsimp only at ho1594
       replace H := hback H
       dsimp only [List.cons_append, List.nil_append] at H
       refine ⟨H.okS (by simp), ?_⟩
       replace H := H.f4
       obtain ⟨q1599, hq1599, ho1594⟩ := bnd ho1594
       obtain ⟨C', ρ', hl1600, HA, hL, hback⟩ := Hp.lend (A := []) (L := [Arr v818 7 c819]) (F := Arr v1572 7 c1573 :: Box b1578 [v1572, v4] :: Box b811 [v1, v4] :: Box b824 [v818, v4] :: Box b847 [v841, v843] :: NS (eI .i64) (eP (eP (eI .u64) (eP (eI .u64) (eP (eI .u64) (eI .u64)))) (eP (eI .i64) (eI .i64))) v841 us842 x1230 :: Arr v843 1 c844 :: hs) H
       refine db rfl (E_call fn18 rfl (c_18 HA (gle.up hl1600)  (arr_rd (by decide) hl1600 (hL (Arr v818 7 c819) (by simp)) r822) (r6.up hl1600) hq1599)) rfl rfl ?_
       rintro _ wd1602 ⟨x1601, rfl, rfl, H⟩
       try dsimp only at ho1594
       replace H := hback H
       dsimp only [List.cons_append, List.nil_append] at H
       refine H.okF <| dq (v := .bool (x1597 == x1601)) rfl (fun _ _ => Q_eqlB Tryz.underlying4 rfl rfl) rfl rfl <| dq rfl (fun _ _ => Q_move rfl) rfl rfl ?_
       rcases Bool.eq_false_or_eq_true (x1597 == x1601) with hb | hb
       ·rw [hb]
        replace ho1594 := itT hb ho1594
        refine dgq (v := .pointer (some ⟨b811, 0, none⟩)) rfl (fun _ _ => Q_fld Tryz.underlying25 rfl ty22 (by decide) rfl rfl) rfl rfl rfl <| dgq (v := v1) rfl (fun _ hw => Q_ldB (k := 3) (cs := [v1]) hw rfl ty22 rfl rfl rfl (fun _ => rfl) rfl) rfl rfl rfl <| dgq rfl (fun _ _ => Q_len Tryz.underlying22 rfl r3) rfl rfl rfl <| dgq rfl (fun _ _ => Q_eql rfl rfl) rfl rfl rfl <| dgq rfl (fun _ _ => Q_move rfl) rfl rfl rfl ?_
        rcases Bool.eq_false_or_eq_true ((x2.length : Int) == 0) with hb | hb
        ·rw [hb]
         replace ho1594 := itT hb ho1594
         refine dgs rfl rfl rfl rfl rfl <| dgbs rfl rfl rfl rfl rfl <| H.okF <| dgs rfl rfl rfl rfl rfl <| dgq rfl (fun _ _ => Q_pickT rfl rfl) rfl rfl rfl <| dq rfl (fun _ _ => Q_pickT rfl rfl) rfl rfl <| dq rfl (fun _ _ => Q_assign rfl) rfl rfl <| DL_nil ?_
         replace H := H.e7.e6.e5.e4.e3.e2.e1.e0
         obtain rfl := Option.some.inj ho1594
         refine x_A fun a hf => ⟨true, rfl, hf.sub ⟨rfl, trivial⟩, H⟩
        ·rw [hb]
         replace ho1594 := itF hb ho1594
         refine dgq (v := .agg #[v841, v843]) rfl (fun _ hw => Q_ldB (k := 5) (cs := [v841, v843]) hw rfl ty25 rfl rfl rfl (fun h => nomatch h) rfl) rfl rfl rfl ?_
         replace H := H.f7.f7
         obtain ⟨q1603, hq1603, ho1594⟩ := bnd ho1594
         obtain ⟨C', ρ', hl1604, HA, hL, hback⟩ := Hp.lend (A := []) (L := [NS (eI .i64) (eP (eP (eI .u64) (eP (eI .u64) (eP (eI .u64) (eI .u64)))) (eP (eI .i64) (eI .i64))) v841 us842 x1230, Arr v843 1 c844]) (F := Arr v818 7 c819 :: Arr v1572 7 c1573 :: Box b1578 [v1572, v4] :: Box b811 [v1, v4] :: Box b824 [v818, v4] :: Box b847 [v841, v843] :: hs) H
         refine dgb rfl (E_call fn17 rfl (c_17 HA (gle.up hl1604)  (ns_rd (by decide) hl1604 (hL (NS (eI .i64) (eP (eP (eI .u64) (eP (eI .u64) (eP (eI .u64) (eI .u64)))) (eP (eI .i64) (eI .i64))) v841 us842 x1230) (by simp))) (arr_rd (by decide) hl1604 (hL (Arr v843 1 c844) (by simp)) r845) hq1603)) rfl rfl rfl ?_
         rintro _ wd1606 ⟨x1605, rfl, rfl, H⟩
         try dsimp only at ho1594
         replace H := hback H
         dsimp only [List.cons_append, List.nil_append] at H
         refine H.okF <| dgq rfl (fun _ _ => Q_not rfl) rfl rfl rfl <| dgq rfl (fun _ _ => Q_pickF rfl rfl) rfl rfl rfl <| dq rfl (fun _ _ => Q_pickT rfl rfl) rfl rfl <| dq rfl (fun _ _ => Q_assign rfl) rfl rfl <| DL_nil ?_
         replace H := H.e7.e6.e5.e4.e3.e2.e1.e0
         obtain rfl := Option.some.inj ho1594
         refine x_A fun a hf => ⟨!x1605, rfl, hf.sub ⟨rfl, trivial⟩, H⟩
       ·rw [hb]
        replace ho1594 := itF hb ho1594
        refine dgs rfl rfl rfl rfl rfl <| dgs rfl rfl rfl rfl rfl <| dgs rfl rfl rfl rfl rfl <| dgs rfl rfl rfl rfl rfl <| dgs rfl rfl rfl rfl rfl <| dgsu rfl rfl ⟨_, _, rfl, rfl, rfl⟩ rfl <| dgbsu rfl rfl ⟨_, _, rfl, rfl, rfl⟩ rfl <| H.okF <| dgsu rfl rfl ⟨_, _, rfl, rfl, rfl⟩ rfl <| dgs rfl rfl rfl rfl rfl <| dq rfl (fun _ _ => Q_pickF rfl rfl) rfl rfl <| dq rfl (fun _ _ => Q_assign rfl) rfl rfl <| DL_nil ?_
        replace H := H.e7.e6.e5.e4.e3.e2.e1.e0
        obtain rfl := Option.some.inj ho1594
        refine x_A fun a hf => ⟨false, rfl, hf.sub ⟨rfl, trivial⟩, H⟩
      ·rintro a wd1607 ⟨x1593, rfl, hf, H⟩
       try dsimp only at hF
       refine CW.at hf <| C_ret ?_
       obtain rfl := Option.some.inj hF
       exact fn_ret (l := [.tmp 4]) (vs := [.bool x1593]) rfl rfl rfl ⟨x1593, rfl, rfl, H⟩
end Go.Proofs.YtchjfkdljnmmgaaGreatDoor
