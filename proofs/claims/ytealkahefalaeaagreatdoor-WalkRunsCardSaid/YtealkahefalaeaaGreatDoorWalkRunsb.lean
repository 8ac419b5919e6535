/-
  The walks of the law WalkRuns, printed by my program, part 2: each function of the code computes its pure function.
-/
import Derived.Test.YtealkahefalaeaaGreatDoorWalkRunsa
import Derived.Test.YtealkahefalaeaaGreatDoorWalkRunsP1
namespace Go.Proofs.YtealkahefalaeaaGreatDoor
open Go Go.Eng
set_option maxRecDepth 100000
theorem c_4 {N : Nat} {C : Cx} {w : World} {ρ : View} {hs : List Hl} {gV : Nat → Value} {v1 : Value} {v4 : Value} {v7 : Value} {x2 : (List ((List Int) × (Int × Int × Int × Int) × Int × Int))} {x5 : (List Int)} {x8 : (List Int)} {x10 : Int} {x11 : Int} {x12 : Int} (H : Hp C w ρ (hs)) (gle : GErrs ρ 394 errIds gV) (gl18 : GTab ρ 18 .u8 tab_math_bits_deBruijn64tab) (r3 : RdSl ρ (eP (eL (eI .i64)) (eP (eP (eI .u64) (eP (eI .u64) (eP (eI .u64) (eI .u64)))) (eP (eI .i64) (eI .i64)))) v1 x2) (r6 : RdSl ρ (eI .i64) v4 x5) (r9 : RdSl ρ (eI .u8) v7 x8) {r : Bool} (hF : F_dofferlaw16_WalkRuns N x2 x5 x8 x10 x11 x12 = some r) :
  Calls Tryz.prog 4 [.agg #[v1, v4], v7, .agg #[.int .i64 x10, .int .i64 x11, .int .i64 x12]].toArray w (Rets (fun v w' => (∃ (ρ' : View) (x696 : Bool), x696 = r ∧ .bool x696 = v ∧ View.le ρ ρ' ∧ Hp C w' ρ' (hs)))) := by
 unfold F_dofferlaw16_WalkRuns at hF
 have h0 : Tryz.f4.body = some _ := rfl
 refine fn_calls' Tryz.func4 h0 (n := 123) rfl (by simp) <| C_seq <| R_nd <| ne (E_box H (vs := [v1, v4]) rfl rfl) rfl rfl ?_
 rintro _ wd698 ⟨b697, rfl, H⟩
 refine ne (E_box H (vs := [.int .i64 x10, .int .i64 x11, .int .i64 x12]) rfl rfl) rfl rfl ?_
 rintro _ wd700 ⟨b699, rfl, H⟩
 refine nq (Q_assign rfl) rfl rfl <| WL_nil <| x_then <| C_seq <| C_seq <| R_nd <| ne (E_call fn22 rfl (Cr.c_run runC22 (fun hl => GTab.up hl gl18) H)) rfl rfl ?_
 rintro _ wd701 ⟨rfl, H⟩
 refine nq (Q_not rfl) rfl rfl <| WL_nil <| x_then ?_
 refine C_cond rfl (fun h => nomatch h) (fun _ => ?_)
 refine C_skip <| x_then <| C_seq <| R_nd <| nq (v := .agg #[v1, v4]) (Q_ldB (k := 1) (cs := [v1, v4]) H.ok rfl ty25 rfl rfl rfl (fun h => nomatch h) rfl) rfl rfl ?_
 obtain ⟨q702, hq702, hF⟩ := bnd hF
 refine ne (E_call fn16 rfl (c_16 H gle  r3 r6 hq702)) rfl rfl ?_
 rintro _ wd709 ⟨v704, c705, x706, x707, rfl, rfl, r708, H⟩
 try dsimp only at hF
 refine nq (Q_move rfl) rfl rfl <| nq (Q_extract rfl rfl) rfl rfl <| nq (Q_extract rfl rfl) rfl rfl <| ne (E_alloc H ty29 (zs := [.slice none 0 0, .slice none 0 0]) rfl) rfl rfl ?_
 rintro _ wd711 ⟨b710, rfl, H⟩
 refine ne (E_stB (k := 0) (cs := [v704, v4]) (vs' := [v704, v4]) H rfl ty29 rfl rfl rfl rfl (one_cons (arr_cells (H.ok.get (k := 1) rfl)).2 (one_cons (RdSl.one r6) one_nil)) (by simp) rfl) rfl rfl ?_
 rintro _ wd712 H
 dsimp only [List.set] at H
 refine nq (Q_assign rfl) rfl rfl <| WL_nil <| x_then <| C_seq ?_
 obtain ⟨o714, ho714, hF⟩ := bnd hF
 refine C_cut (fun a w' => ∃ (x713 : Bool), x713 = o714 ∧ Fr 123 a [(1, v7), (3, .pointer (some ⟨b697, 0, none⟩)), (5, .pointer (some ⟨b699, 0, none⟩)), (7, .pointer (some ⟨b710, 0, none⟩)), (32, .bool x713)] ∧ Hp C w' ρ (Box b697 [v1, v4] :: Box b699 [.int .i64 x10, .int .i64 x11, .int .i64 x12] :: Box b710 [v704, v4] :: Arr v704 7 c705 :: hs)) ?_ ?_
 ·refine R_nd <| nq (Q_move rfl) rfl rfl <| nq (Q_not rfl) rfl rfl <| nq (Q_move rfl) rfl rfl ?_
  rcases Bool.eq_false_or_eq_true (!x707) with hb | hb
  ·rw [hb]
   replace ho714 := itT hb ho714
   refine gs rfl rfl rfl rfl <| gs rfl rfl rfl rfl <| gs rfl rfl rfl rfl <| nq (Q_pickT rfl rfl) rfl rfl <| WL_nil ?_
   replace H := H.f1
   replace H := H.f1
   replace H := H.f2
   replace H := H.f3
   obtain rfl := Option.some.inj ho714
   refine x_A fun a hf => ⟨true, rfl, hf.sub ⟨rfl, rfl, rfl, rfl, rfl, trivial⟩, H⟩
  ·rw [hb]
   replace ho714 := itF hb ho714
   refine gq (Q_move rfl) rfl rfl rfl <| gq (Q_len Tryz.underlying42 rfl r9) rfl rfl rfl <| gq (Q_gtr rfl rfl) rfl rfl rfl <| nq (Q_pickF rfl rfl) rfl rfl <| WL_nil ?_
   replace H := H.f1
   replace H := H.f1
   replace H := H.f2
   replace H := H.f3
   obtain rfl := Option.some.inj ho714
   refine x_A fun a hf => ⟨decide ((x8.length : Int) > 30), rfl, hf.sub ⟨rfl, rfl, rfl, rfl, rfl, trivial⟩, H⟩
 ·rintro a wd715 ⟨x713, rfl, hf, H⟩
  try dsimp only at hF
  refine CW.at hf ?_
  refine C_cond rfl (fun hb => ?_) (fun hb => ?_)
  ·replace hF := itT hb hF
   refine C_seq <| R_nd <| nq (Q_assign rfl) rfl rfl <| WL_nil <| x_then <| C_ret <| x_then_ret ?_
   replace H := H.drop 0 rfl
   dsimp only [List.eraseIdx] at H
   replace H := H.drop 0 rfl
   dsimp only [List.eraseIdx] at H
   replace H := H.drop 0 rfl
   dsimp only [List.eraseIdx] at H
   replace H := H.drop 0 rfl
   dsimp only [List.eraseIdx] at H
   obtain rfl := Option.some.inj hF
   exact fn_ret (l := [.tmp 6]) (vs := [.bool true]) rfl rfl rfl ⟨ρ, true, rfl, rfl, (View.le_refl _), H⟩
  ·replace hF := itF hb hF
   refine C_skip <| x_then <| C_seq <| R_dr (.take 0 (.take 1 (.take 2 (.take 3 (.take 4 (.take 5 (.take 6 (.take 7 (.take 8 .done))))))))) (fun w' => Ok w' ρ [Box b697 [v1, v4], Box b699 [.int .i64 x10, .int .i64 x11, .int .i64 x12], Box b710 [v704, v4], Arr v704 7 c705]) (by kernel_rfl) (by kernel_rfl) (by kernel_rfl) (H.drew.okS (by simp)) ?_
   replace H := H.drew
   refine dq (v := .pointer (some ⟨b699, 0, none⟩)) rfl (fun _ _ => Q_idxA (m := 0) (N := 3) (by decide) (by decide) Tryz.underlying43 ty3 rfl rfl) rfl rfl <| dq (v := .int .i64 x10) rfl (fun _ hw => Q_ldB (k := 1) (cs := [.int .i64 x10]) hw rfl ty3 rfl rfl rfl (fun _ => rfl) rfl) rfl rfl <| dq (v := .pointer (some ⟨b699, 1, none⟩)) rfl (fun _ _ => Q_idxA (m := 1) (N := 3) (by decide) (by decide) Tryz.underlying43 ty3 rfl rfl) rfl rfl <| dq (v := .int .i64 x11) rfl (fun _ hw => Q_ldB (k := 1) (cs := [.int .i64 x11]) hw rfl ty3 rfl rfl rfl (fun _ => rfl) rfl) rfl rfl <| dq (v := .pointer (some ⟨b699, 2, none⟩)) rfl (fun _ _ => Q_idxA (m := 2) (N := 3) (by decide) (by decide) Tryz.underlying43 ty3 rfl rfl) rfl rfl <| dq (v := .int .i64 x12) rfl (fun _ hw => Q_ldB (k := 1) (cs := [.int .i64 x12]) hw rfl ty3 rfl rfl rfl (fun _ => rfl) rfl) rfl rfl <| dq rfl (fun _ _ => Q_assign rfl) rfl rfl <| dq rfl (fun _ _ => Q_assign rfl) rfl rfl <| dq rfl (fun _ _ => Q_assign rfl) rfl rfl <| DL_nil <| x_then <| C_seq <| R_nd <| nq (v := .agg #[v1, v4]) (Q_ldB (k := 0) (cs := [v1, v4]) H.ok rfl ty25 rfl rfl rfl (fun h => nomatch h) rfl) rfl rfl ?_
   refine nq (Q_move rfl) rfl rfl <| nq (Q_move rfl) rfl rfl <| nq (Q_move rfl) rfl rfl <| nq (Q_move rfl) rfl rfl ?_
   obtain ⟨q716, hq716, hF⟩ := bnd hF
   refine ne (E_call fn23 rfl (c_23 H gle gl18 r3 r6 r9 hq716)) rfl rfl ?_
   rintro _ wd721 ⟨ρ, x718, x719, rfl, rfl, lw720, H⟩
   try dsimp only at hF
   replace r9 := RdSl.up lw720 r9
   replace r3 := RdSl.up lw720 r3
   replace r6 := RdSl.up lw720 r6
   replace r708 := rdL.up lw720 r708
   replace gle := GErrs.up lw720 gle
   replace gl18 := GTab.up lw720 gl18
   refine nq (Q_move rfl) rfl rfl <| nq (Q_extract rfl rfl) rfl rfl <| nq (Q_extract rfl rfl) rfl rfl <| nq (Q_assign rfl) rfl rfl <| nq (Q_assign rfl) rfl rfl <| WL_nil <| x_then <| C_seq <| C_seq <| R_nd <| nq (v := .agg #[v704, v4]) (Q_ldB (k := 2) (cs := [v704, v4]) H.ok rfl ty29 rfl rfl rfl (fun h => nomatch h) rfl) rfl rfl ?_
   replace H := H.f3
   obtain ⟨q722, hq722, hF⟩ := bnd hF
   obtain ⟨C', ρ', hl723, HA, hL, hback⟩ := Hp.lend (A := []) (L := [Arr v704 7 c705]) (F := Box b697 [v1, v4] :: Box b699 [.int .i64 x10, .int .i64 x11, .int .i64 x12] :: Box b710 [v704, v4] :: hs) H
   refine ne (E_call fn19 rfl (c_19 HA (gle.up hl723)  (arr_rd (by decide) hl723 (hL (Arr v704 7 c705) (by simp)) r708) (r6.up hl723) hq722)) rfl rfl ?_
   rintro _ wd725 ⟨x724, rfl, rfl, H⟩
   try dsimp only at hF
   replace H := hback H
   dsimp only [List.cons_append, List.nil_append] at H
   refine nq (Q_not rfl) rfl rfl <| WL_nil <| x_then ?_
   refine C_cond rfl (fun hb => ?_) (fun hb => ?_)
   ·replace hF := itT hb hF
    obtain ⟨o727, ho727, hF⟩ := bnd hF
    refine C_cut (fun a w' => ∃ (x726 : Bool), x726 = o727 ∧ Fr 123 a [(6, .bool x726)] ∧ Hp C w' ρ (hs)) ?_ ?_
    ·refine R_nd <| nq (Q_move rfl) rfl rfl <| nq (Q_eql rfl rfl) rfl rfl <| nq (Q_move rfl) rfl rfl ?_
     rcases Bool.eq_false_or_eq_true (x718 == 0) with hb | hb
     ·rw [hb]
      replace ho727 := itT hb ho727
      refine gq (Q_move rfl) rfl rfl rfl <| gq (Q_eql rfl rfl) rfl rfl rfl <| nq (Q_pickT rfl rfl) rfl rfl <| nq (Q_assign rfl) rfl rfl <| WL_nil ?_
      replace H := H.drop 0 rfl
      dsimp only [List.eraseIdx] at H
      replace H := H.drop 0 rfl
      dsimp only [List.eraseIdx] at H
      replace H := H.drop 0 rfl
      dsimp only [List.eraseIdx] at H
      replace H := H.drop 0 rfl
      dsimp only [List.eraseIdx] at H
      obtain rfl := Option.some.inj ho727
      refine x_A fun a hf => ⟨x719 == (-1), rfl, hf.sub ⟨rfl, trivial⟩, H⟩
     ·rw [hb]
      replace ho727 := itF hb ho727
      refine gs rfl rfl rfl rfl <| gs rfl rfl rfl rfl <| nq (Q_pickF rfl rfl) rfl rfl <| nq (Q_assign rfl) rfl rfl <| WL_nil ?_
      replace H := H.drop 0 rfl
      dsimp only [List.eraseIdx] at H
      replace H := H.drop 0 rfl
      dsimp only [List.eraseIdx] at H
      replace H := H.drop 0 rfl
      dsimp only [List.eraseIdx] at H
      replace H := H.drop 0 rfl
      dsimp only [List.eraseIdx] at H
      obtain rfl := Option.some.inj ho727
      refine x_A fun a hf => ⟨false, rfl, hf.sub ⟨rfl, trivial⟩, H⟩
    ·rintro a wd728 ⟨x726, rfl, hf, H⟩
     try dsimp only at hF
     refine CW.at hf <| C_ret <| x_then_ret ?_
     obtain rfl := Option.some.inj hF
     exact fn_ret (l := [.tmp 6]) (vs := [.bool x726]) rfl rfl rfl ⟨ρ, x726, rfl, rfl, lw720, H⟩
   ·replace hF := itF hb hF
    refine C_skip <| x_then <| C_seq <| R_nd <| nq (v := .agg #[v704, v4]) (Q_ldB (k := 3) (cs := [v704, v4]) H.ok rfl ty29 rfl rfl rfl (fun h => nomatch h) rfl) rfl rfl <| nq (Q_move rfl) rfl rfl <| nq (Q_move rfl) rfl rfl ?_
    obtain ⟨q729, hq729, hF⟩ := bnd hF
    obtain ⟨C', ρ', hl730, HA, hL, hback⟩ := Hp.lend (A := []) (L := [Arr v704 7 c705]) (F := Box b697 [v1, v4] :: Box b699 [.int .i64 x10, .int .i64 x11, .int .i64 x12] :: Box b710 [v704, v4] :: hs) H
    refine ne (E_call fn24 rfl (c_24 HA (gle.up hl730)  (arr_rd (by decide) hl730 (hL (Arr v704 7 c705) (by simp)) r708) (r6.up hl730) (r9.up hl730) hq729)) rfl rfl ?_
    rintro _ wd735 ⟨v731, c732, x733, rfl, rfl, r734, H⟩
    try dsimp only at hF
    replace H := hback H
    replace r734 := rdL.flat (ρ := ρ') (ρ' := ρ) (flat_I _) r734
    dsimp only [List.cons_append, List.nil_append] at H
    refine nq (Q_assign rfl) rfl rfl <| WL_nil <| x_then <| C_seq ?_
    obtain ⟨o766, ho766, hF⟩ := bnd hF
    refine C_cut (fun a w' => ∃ (ρ' : View) (x765 : Bool), View.le ρ ρ' ∧ x765 = o766 ∧ Fr 123 a [(1, v7), (7, .pointer (some ⟨b710, 0, none⟩)), (9, .int .i64 x10), (10, .int .i64 x11), (11, .int .i64 x12), (12, .int .i64 x718), (13, .int .i64 x719), (80, .bool x765)] ∧ Hp C w' ρ' (Box b710 [v704, v4] :: Arr v704 7 c705 :: hs)) ?_ ?_
    ·refine R_dr (.take 0 (.take 1 (.take 2 (.take 4 (.one 3 (.one 5 (.take 6 (.take 7 (.take 8 (.take 9 (.take 10 (.take 12 (.take 13 (.take 14 (.take 15 (.take 16 (.take 17 (.one 11 (.take 18 (.take 19 .done)))))))))))))))))))) (fun w' => Ok w' ρ [Arr v731 1 c732, Arr v704 7 c705, Box b697 [v1, v4], Box b699 [.int .i64 x10, .int .i64 x11, .int .i64 x12], Box b710 [v704, v4]]) (by kernel_rfl) (by kernel_rfl) (by kernel_rfl) (H.drew.okS (by simp)) ?_
     replace H := H.drew
     have ro767 := r9
     have ro768 := r734
     have rk769 := H.okS (l := [Arr v731 1 c732]) (by simp)
     have ro770 := r708
     have rk771 := H.okS (l := [Arr v704 7 c705]) (by simp)
     refine dq (v := .agg #[v1, v4]) rfl (fun _ hw => Q_ldB (k := 2) (cs := [v1, v4]) hw rfl ty25 rfl rfl rfl (fun h => nomatch h) rfl) rfl rfl <| dq rfl (fun _ _ => Q_move rfl) rfl rfl <| dq rfl (fun _ _ => Q_move rfl) rfl rfl <| dq rfl (fun _ _ => Q_move rfl) rfl rfl ?_
     obtain ⟨q772, hq772, ho766⟩ := bnd ho766
     refine d1 (de rfl (E_call fn26 rfl (c_26 H gle gl18 r3 r6 r9 hq772)) rfl rfl ?_)
     rintro _ wd779 ⟨ρ, v774, c775, x776, rfl, rfl, lw777, r778, H⟩
     try dsimp only at ho766
     replace r9 := RdSl.up lw777 r9
     replace r3 := RdSl.up lw777 r3
     replace r6 := RdSl.up lw777 r6
     replace r708 := rdL.up lw777 r708
     replace r734 := rdL.up lw777 r734
     replace gle := GErrs.up lw777 gle
     replace gl18 := GTab.up lw777 gl18
     refine ⟨(H.okS (by simp)).low lw777, ?_⟩
     replace H := H.f1
     replace H := H.f1
     obtain ⟨q780, hq780, ho766⟩ := bnd ho766
     obtain ⟨C', ρ', hl781, HA, hL, hback⟩ := Hp.lend (A := []) (L := [Arr v774 1 c775, Arr v731 1 c732]) (F := Arr v704 7 c705 :: Box b697 [v1, v4] :: Box b699 [.int .i64 x10, .int .i64 x11, .int .i64 x12] :: Box b710 [v704, v4] :: hs) H
     refine d1 (de rfl (E_call fn25 rfl (c_25 HA (gle.up hl781)  (arr_rd (by decide) hl781 (hL (Arr v774 1 c775) (by simp)) r778) (arr_rd (by decide) hl781 (hL (Arr v731 1 c732) (by simp)) r734) hq780)) rfl rfl ?_)
     rintro _ wd783 ⟨x782, rfl, rfl, H⟩
     try dsimp only at ho766
     replace H := hback H
     dsimp only [List.cons_append, List.nil_append] at H
     refine ⟨(H.okS (by simp)).low lw777, ?_⟩
     refine dq rfl (fun _ _ => Q_not rfl) rfl rfl <| dq rfl (fun _ _ => Q_move rfl) rfl rfl ?_
     rcases Bool.eq_false_or_eq_true (!x782) with hb | hb
     ·rw [hb]
      replace ho766 := itT hb ho766
      refine dgs rfl rfl rfl rfl rfl <| dgs rfl rfl rfl rfl rfl <| dgs rfl rfl rfl rfl rfl <| dgs rfl rfl rfl rfl rfl <| dgs rfl rfl rfl rfl rfl <| dgs rfl rfl rfl rfl rfl <| dgs rfl rfl rfl rfl rfl <| dgs rfl rfl rfl rfl rfl <| dgs rfl rfl rfl rfl rfl ?_
      refine d1 (dges rfl rfl rfl rfl rfl ?_)
      refine dgs rfl rfl rfl rfl rfl <| dq rfl (fun _ _ => Q_pickT rfl rfl) rfl rfl <| DL_nil ?_
      replace H := H.f2
      replace H := H.f5
      replace H := H.drop 2 rfl
      dsimp only [List.eraseIdx] at H
      replace H := H.drop 2 rfl
      dsimp only [List.eraseIdx] at H
      replace H := H.drop 2 rfl
      dsimp only [List.eraseIdx] at H
      replace H := H.drop 2 rfl
      dsimp only [List.eraseIdx] at H
      obtain rfl := Option.some.inj ho766
      refine x_A fun a hf => ⟨ρ, true, lw777, rfl, hf.sub ⟨rfl, rfl, rfl, rfl, rfl, rfl, rfl, rfl, trivial⟩, H⟩
     ·rw [hb]
      replace ho766 := itF hb ho766
      refine dgq (v := .agg #[v1, v4]) rfl (fun _ hw => Q_ldB (k := 2) (cs := [v1, v4]) hw rfl ty25 rfl rfl rfl (fun h => nomatch h) rfl) rfl rfl rfl <| dgq rfl (fun _ _ => Q_move rfl) rfl rfl rfl <| dgq rfl (fun _ _ => Q_move rfl) rfl rfl rfl <| dgq rfl (fun _ _ => Q_move rfl) rfl rfl rfl <| dgq rfl (fun _ _ => Q_move rfl) rfl rfl rfl <| dgq rfl (fun _ hw => Q_lenA (en := (eI .i64)) (k := 0) hw rfl ro768 (by decide) Tryz.underlying23 rfl) rfl rfl rfl <| dgq rfl (fun _ _ => Q_sub rfl rfl) rfl rfl rfl ?_
      obtain ⟨x784, hx784, ho766⟩ := bnd ho766
      obtain ⟨b785, o786, hi790, hc788, ha789⟩ := arr_at (en := (eI .i64)) (hs := [Arr v731 1 c732]) (k := 0) (by decide) rk769 rfl ro768 hx784
      refine dgq rfl (fun _ _ => Q_idx hi790 Tryz.underlying23 ty3 rfl rfl) rfl rfl rfl <| dgq (v := .int .i64 x784) rfl (fun _ hw => Q_ld (show cellsAt _ _ _ [.int .i64 x784] from (show _ = [_] from hc788) ▸ (ha789 _ (Ok.subS (by simp) hw))) ty3 rfl (fun _ => rfl) rfl rfl) rfl rfl rfl ?_
      obtain ⟨q791, hq791, ho766⟩ := bnd ho766
      refine d1 (dge rfl (E_call fn27 rfl (c_27 H gle gl18 r3 r6 r9 hq791)) rfl rfl rfl ?_)
      rintro _ wd795 ⟨ρ, x793, rfl, rfl, lw794, H⟩
      try dsimp only at ho766
      replace r9 := RdSl.up lw794 r9
      replace r3 := RdSl.up lw794 r3
      replace r6 := RdSl.up lw794 r6
      replace r708 := rdL.up lw794 r708
      replace r734 := rdL.up lw794 r734
      replace r778 := rdL.up lw794 r778
      replace gle := GErrs.up lw794 gle
      replace gl18 := GTab.up lw794 gl18
      refine ⟨(H.okS (by simp)).low (View.le_trans lw777 lw794), ?_⟩
      refine dgq rfl (fun _ _ => Q_neq rfl rfl) rfl rfl rfl <| dq rfl (fun _ _ => Q_pickF rfl rfl) rfl rfl <| DL_nil ?_
      replace H := H.f2
      replace H := H.f5
      replace H := H.drop 2 rfl
      dsimp only [List.eraseIdx] at H
      replace H := H.drop 2 rfl
      dsimp only [List.eraseIdx] at H
      replace H := H.drop 2 rfl
      dsimp only [List.eraseIdx] at H
      replace H := H.drop 2 rfl
      dsimp only [List.eraseIdx] at H
      obtain rfl := Option.some.inj ho766
      refine x_A fun a hf => ⟨ρ, x793 != x784, (View.le_trans lw777 lw794), rfl, hf.sub ⟨rfl, rfl, rfl, rfl, rfl, rfl, rfl, rfl, trivial⟩, H⟩
    ·rintro a wd796 ⟨ρ, x765, lw797, rfl, hf, H⟩
     try dsimp only at hF
     replace r9 := RdSl.up lw797 r9
     replace r708 := rdL.up lw797 r708
     replace r6 := RdSl.up lw797 r6
     replace gle := GErrs.up lw797 gle
     replace gl18 := GTab.up lw797 gl18
     refine CW.at hf ?_
     refine C_cond rfl (fun hb => ?_) (fun hb => ?_)
     ·replace hF := itT hb hF
      refine C_seq <| R_nd <| nq (Q_assign rfl) rfl rfl <| WL_nil <| x_then <| C_ret <| x_then_ret ?_
      replace H := H.drop 0 rfl
      dsimp only [List.eraseIdx] at H
      replace H := H.drop 0 rfl
      dsimp only [List.eraseIdx] at H
      obtain rfl := Option.some.inj hF
      exact fn_ret (l := [.tmp 6]) (vs := [.bool false]) rfl rfl rfl ⟨ρ, false, rfl, rfl, (View.le_trans lw720 lw797), H⟩
     ·replace hF := itF hb hF
      refine C_skip <| x_then <| C_seq <| R_nd <| nq (Q_assign rfl) rfl rfl <| nq (Q_assign rfl) rfl rfl <| WL_nil <| x_then <| C_seq ?_
      obtain ⟨o799, ho799, hF⟩ := bnd hF
      refine C_cut (fun a w' => ∃ (x798 : Bool), x798 = o799 ∧ Fr 123 a [(1, v7), (7, .pointer (some ⟨b710, 0, none⟩)), (9, .int .i64 x10), (10, .int .i64 x11), (11, .int .i64 x12), (12, .int .i64 x718), (13, .int .i64 x719), (15, .int .i64 0), (16, .int .i64 (-1)), (88, .bool x798)] ∧ Hp C w' ρ (Box b710 [v704, v4] :: Arr v704 7 c705 :: hs)) ?_ ?_
      ·refine R_nd <| nq (Q_move rfl) rfl rfl <| nq (Q_geq rfl rfl) rfl rfl <| nq (Q_move rfl) rfl rfl ?_
       rcases Bool.eq_false_or_eq_true (decide (x11 ≥ 0)) with hb | hb
       ·rw [hb]
        replace ho799 := itT hb ho799
        refine gq (Q_move rfl) rfl rfl rfl <| gq (Q_move rfl) rfl rfl rfl <| gq (Q_len Tryz.underlying42 rfl r9) rfl rfl rfl <| gq (Q_leq rfl rfl) rfl rfl rfl <| nq (Q_pickT rfl rfl) rfl rfl <| WL_nil ?_
        replace H := H.f1
        replace H := H.f1
        obtain rfl := Option.some.inj ho799
        refine x_A fun a hf => ⟨decide (x11 ≤ (x8.length : Int)), rfl, hf.sub ⟨rfl, rfl, rfl, rfl, rfl, rfl, rfl, rfl, rfl, rfl, trivial⟩, H⟩
       ·rw [hb]
        replace ho799 := itF hb ho799
        refine gs rfl rfl rfl rfl <| gs rfl rfl rfl rfl <| gs rfl rfl rfl rfl <| gs rfl rfl rfl rfl <| nq (Q_pickF rfl rfl) rfl rfl <| WL_nil ?_
        replace H := H.f1
        replace H := H.f1
        obtain rfl := Option.some.inj ho799
        refine x_A fun a hf => ⟨false, rfl, hf.sub ⟨rfl, rfl, rfl, rfl, rfl, rfl, rfl, rfl, rfl, rfl, trivial⟩, H⟩
      ·rintro a wd800 ⟨x798, rfl, hf, H⟩
       try dsimp only at hF
       refine CW.at hf ?_
       obtain ⟨o1089, ho1089, hF⟩ := bnd hF
       refine C_cutQ (fun a w' => ∃ (x1087 : Int) (x1088 : Int), (x1087, x1088) = o1089 ∧ Fr 123 a [(12, .int .i64 x718), (13, .int .i64 x719), (15, .int .i64 x1087), (16, .int .i64 x1088)] ∧ Hp C w' ρ (hs)) ?_ ?_
       ·refine C_cond rfl (fun hb => ?_) (fun hb => ?_)
        ·replace ho1089 := itT hb ho1089
         refine C_seq <| R_dr (.take 0 (.take 1 (.take 2 (.take 3 (.take 4 (.take 7 (.one 5 (.one 6 .done)))))))) (fun w' => Ok w' ρ [Box b710 [v704, v4], Arr v704 7 c705]) (by kernel_rfl) (by kernel_rfl) (by kernel_rfl) (H.drew.okS (by simp)) ?_
         replace H := H.drew
         refine dq (v := .agg #[v704, v4]) rfl (fun _ hw => Q_ldB (k := 0) (cs := [v704, v4]) hw rfl ty29 rfl rfl rfl (fun h => nomatch h) rfl) rfl rfl <| dq rfl (fun _ _ => Q_move rfl) rfl rfl <| dq rfl (fun _ _ => Q_move rfl) rfl rfl <| dq rfl (fun _ _ => Q_move rfl) rfl rfl ?_
         obtain ⟨x1090, hx1090, ho1089⟩ := bnd ho1089
         obtain ⟨hs1091a, hs1091b, hs1091c, hs1091d⟩ := slc_some hx1090
         obtain ⟨v1092, r1093, hq1094⟩ := sliceR r9 hs1091a hs1091b hs1091c
         rw [← hs1091d] at r1093
         refine dq (v := v1092) rfl (fun _ _ => hq1094 _ _ _ _ _ _ _ _ _ _ _ _ _ _ _ Tryz.underlying42 ty5 rfl ⟨_, rfl⟩ rfl) rfl rfl <| dq rfl (fun _ _ => Q_move rfl) rfl rfl ?_
         replace H := H.f1
         obtain ⟨q1095, hq1095, ho1089⟩ := bnd ho1089
         obtain ⟨C', ρ', hl1096, HA, hL, hback⟩ := Hp.lend (A := []) (L := [Arr v704 7 c705]) (F := Box b710 [v704, v4] :: hs) H
         refine d1 (de rfl (E_call fn24 rfl (c_24 HA (gle.up hl1096)  (arr_rd (by decide) hl1096 (hL (Arr v704 7 c705) (by simp)) r708) (r6.up hl1096) (r1093.up hl1096) hq1095)) rfl rfl ?_)
         rintro _ wd1101 ⟨v1097, c1098, x1099, rfl, rfl, r1100, H⟩
         try dsimp only at ho1089
         replace H := hback H
         replace r1100 := rdL.flat (ρ := ρ') (ρ' := ρ) (flat_I _) r1100
         dsimp only [List.cons_append, List.nil_append] at H
         refine ⟨H.okS (by simp), ?_⟩
         refine d1 (de rfl (Eff.quiet (v := .int .i64 (x1099.length : Int)) (Q_lenA (k := 0) H.ok rfl r1100 (by decide) Tryz.underlying23 rfl)) rfl rfl ?_)
         rintro _ _ ⟨rfl, rfl⟩
         refine ⟨H.okS (by simp), ?_⟩
         refine DL_nil <| x_then ?_
         obtain ⟨o1239, ho1239, ho1089⟩ := bnd ho1089
         refine C_cutQ (fun a w' => ∃ (x1237 : Int) (x1238 : Int), (x1237, x1238) = o1239 ∧ Fr 123 a [(12, .int .i64 x718), (13, .int .i64 x719), (15, .int .i64 x1237), (16, .int .i64 x1238)] ∧ Hp C w' ρ (hs)) ?_ ?_
         ·refine C_block ?_
          replace H := H.drop 1 rfl
          dsimp only [List.eraseIdx] at H
          replace H := H.drop 1 rfl
          dsimp only [List.eraseIdx] at H
          refine C_iter (f := fun s => F_dofferlaw16_WalkRuns_l0 N x12 x1099 s.1 s.2.1 s.2.2) ho1239 (fun s a w' => ∃ (x1301 : Int) (x1302 : Int) (x1303 : Int), (x1301, x1302, x1303) = s ∧ Fr 123 a [(11, .int .i64 x12), (12, .int .i64 x718), (13, .int .i64 x719), (15, .int .i64 x1301), (16, .int .i64 x1302), (94, v1097), (95, .int .i64 (x1099.length : Int)), (96, .int .i64 x1303)] ∧ Hp C w' ρ (Arr v1097 1 c1098 :: hs)) ?_ ?_
          ·exact fun a hf => ⟨0, (-1), 0, rfl, hf.sub ⟨rfl, rfl, rfl, rfl, rfl, rfl, rfl, rfl, trivial⟩, H⟩
          ·rintro s o1339 a wd1342 ⟨x1301, x1302, x1303, rfl, hf, H⟩ hB1340 hO1341
           replace hB1340 : F_dofferlaw16_WalkRuns_l0 N x12 x1099 x1301 x1302 x1303 = some o1339 := hB1340
           unfold F_dofferlaw16_WalkRuns_l0 at hB1340
           refine CW.at hf <| C_seq <| R_nd <| nq (Q_lss rfl rfl) rfl rfl <| WL_nil <| x_then <| C_seq ?_
           refine C_cond rfl (fun hb => ?_) (fun hb => ?_)
           ·replace hB1340 := itT hb hB1340
            refine C_skip <| x_then ?_
            obtain ⟨o1359, ho1359, hB1340⟩ := bnd hB1340
            refine C_cut (fun a w' => ∃ (x1357 : Int) (x1358 : Int), (x1357, x1358) = o1359 ∧ Fr 123 a [(11, .int .i64 x12), (12, .int .i64 x718), (13, .int .i64 x719), (15, .int .i64 x1357), (16, .int .i64 x1358), (94, v1097), (95, .int .i64 (x1099.length : Int)), (96, .int .i64 x1303)] ∧ Hp C w' ρ (Arr v1097 1 c1098 :: hs)) ?_ ?_
            ·refine C_block <| C_seq <| R_nd <| nq (Q_move rfl) rfl rfl ?_
             obtain ⟨x1360, hx1360, ho1359⟩ := bnd ho1359
             obtain ⟨b1361, o1362, hi1366, hc1364, ha1365⟩ := arr_at (hs := [Arr v1097 1 c1098]) (k := 0) (by decide) (H.okS (by simp)) rfl r1100 hx1360
             refine nq (Q_idx hi1366 Tryz.underlying23 ty3 rfl rfl) rfl rfl <| nq (v := .int .i64 x1360) (Q_ld (show cellsAt _ _ _ [.int .i64 x1360] from (show _ = [_] from hc1364) ▸ (ha1365 _ (Ok.subS (by simp) H.ok))) ty3 rfl (fun _ => rfl) rfl rfl) rfl rfl <| nq (Q_assign rfl) rfl rfl <| nq (Q_assign rfl) rfl rfl <| WL_nil <| x_then ?_
             obtain ⟨o1368, ho1368, ho1359⟩ := bnd ho1359
             refine C_cut (fun a w' => ∃ (x1367 : Bool), x1367 = o1368 ∧ Fr 123 a [(11, .int .i64 x12), (12, .int .i64 x718), (13, .int .i64 x719), (15, .int .i64 x1301), (16, .int .i64 x1302), (17, .int .i64 x1303), (18, .int .i64 x1360), (94, v1097), (95, .int .i64 (x1099.length : Int)), (96, .int .i64 x1303), (111, .bool x1367)] ∧ Hp C w' ρ (Arr v1097 1 c1098 :: hs)) ?_ ?_
             ·refine R_nd <| nq (Q_move rfl) rfl rfl <| nq (Q_gtr rfl rfl) rfl rfl <| nq (Q_move rfl) rfl rfl ?_
              rcases Bool.eq_false_or_eq_true (decide (x1303 > 0)) with hb | hb
              ·rw [hb]
               replace ho1368 := itT hb ho1368
               refine gq (Q_move rfl) rfl rfl rfl <| gq (Q_move rfl) rfl rfl rfl <| gq (Q_leq rfl rfl) rfl rfl rfl <| nq (Q_pickT rfl rfl) rfl rfl <| nq (Q_move rfl) rfl rfl ?_
               rcases Bool.eq_false_or_eq_true (decide (x1303 ≤ x12)) with hb | hb
               ·rw [hb]
                replace ho1368 := itT hb ho1368
                refine gq (Q_move rfl) rfl rfl rfl <| gq (Q_geq rfl rfl) rfl rfl rfl <| nq (Q_pickT rfl rfl) rfl rfl <| WL_nil ?_
                obtain rfl := Option.some.inj ho1368
                refine x_A fun a hf => ⟨decide (x1360 ≥ 0), rfl, hf.sub ⟨rfl, rfl, rfl, rfl, rfl, rfl, rfl, rfl, rfl, rfl, rfl, trivial⟩, H⟩
               ·rw [hb]
                replace ho1368 := itF hb ho1368
                refine gs rfl rfl rfl rfl <| gs rfl rfl rfl rfl <| nq (Q_pickF rfl rfl) rfl rfl <| WL_nil ?_
                obtain rfl := Option.some.inj ho1368
                refine x_A fun a hf => ⟨false, rfl, hf.sub ⟨rfl, rfl, rfl, rfl, rfl, rfl, rfl, rfl, rfl, rfl, rfl, trivial⟩, H⟩
              ·rw [hb]
               replace ho1368 := itF hb ho1368
               refine gs rfl rfl rfl rfl <| gs rfl rfl rfl rfl <| gs rfl rfl rfl rfl <| nq (Q_pickF rfl rfl) rfl rfl <| nq (Q_move rfl) rfl rfl <| gs rfl rfl rfl rfl <| gs rfl rfl rfl rfl <| nq (Q_pickF rfl rfl) rfl rfl <| WL_nil ?_
               obtain rfl := Option.some.inj ho1368
               refine x_A fun a hf => ⟨false, rfl, hf.sub ⟨rfl, rfl, rfl, rfl, rfl, rfl, rfl, rfl, rfl, rfl, rfl, trivial⟩, H⟩
             ·rintro a wd1369 ⟨x1367, rfl, hf, H⟩
              try dsimp only at ho1359
              refine CW.at hf ?_
              obtain ⟨o1372, ho1372, ho1359⟩ := bnd ho1359
              refine C_cutQ (fun a w' => ∃ (x1370 : Int) (x1371 : Int), (x1370, x1371) = o1372 ∧ Fr 123 a [(11, .int .i64 x12), (12, .int .i64 x718), (13, .int .i64 x719), (15, .int .i64 x1370), (16, .int .i64 x1371), (94, v1097), (95, .int .i64 (x1099.length : Int)), (96, .int .i64 x1303)] ∧ Hp C w' ρ (Arr v1097 1 c1098 :: hs)) ?_ ?_
              ·refine C_cond rfl (fun hb => ?_) (fun hb => ?_)
               ·replace ho1372 := itT hb ho1372
                refine R_nd <| nq (Q_move rfl) rfl rfl <| nq (Q_move rfl) rfl rfl <| nq (Q_assign rfl) rfl rfl <| nq (Q_assign rfl) rfl rfl <| WL_nil ?_
                obtain rfl := Option.some.inj ho1372
                refine x_A fun a hf => ⟨x1303, x1360, rfl, hf.sub ⟨rfl, rfl, rfl, rfl, rfl, rfl, rfl, rfl, trivial⟩, H⟩
               ·replace ho1372 := itF hb ho1372
                refine C_skip ?_
                obtain rfl := Option.some.inj ho1372
                refine x_A fun a hf => ⟨x1301, x1302, rfl, hf.sub ⟨rfl, rfl, rfl, rfl, rfl, rfl, rfl, rfl, trivial⟩, H⟩
              ·rintro a wd1373 ⟨x1370, x1371, rfl, hf, H⟩
               try dsimp only at ho1359
               refine XX.at hf <| x_block ?_
               obtain rfl := Option.some.inj ho1359
               refine x_A fun a hf => ⟨x1370, x1371, rfl, hf.sub ⟨rfl, rfl, rfl, rfl, rfl, rfl, rfl, rfl, trivial⟩, H⟩
            ·rintro a wd1374 ⟨x1357, x1358, rfl, hf, H⟩
             try dsimp only at hB1340
             refine CW.at hf <| R_nd <| nq (Q_add rfl rfl) rfl rfl <| nq (Q_move rfl) rfl rfl <| WL_nil ?_
             obtain rfl := Option.some.inj hB1340
             refine x_A fun a hf => ⟨_, rfl, x1357, x1358, w64 (x1303 + 1), rfl, hf.sub ⟨rfl, rfl, rfl, rfl, rfl, rfl, rfl, rfl, trivial⟩, H⟩
           ·replace hB1340 := itF hb hB1340
            refine C_exit <| x_then_exit <| x_then_exit <| x_block_exit ?_
            replace H := H.drop 0 rfl
            dsimp only [List.eraseIdx] at H
            obtain rfl := Option.some.inj hB1340
            obtain rfl := hO1341 _ rfl
            refine x_A fun a hf => ⟨x1301, x1302, rfl, hf.sub ⟨rfl, rfl, rfl, rfl, trivial⟩, H⟩
         ·rintro a wd1375 ⟨x1237, x1238, rfl, hf, H⟩
          try dsimp only at ho1089
          refine XX.at hf ?_
          obtain rfl := Option.some.inj ho1089
          refine x_A fun a hf => ⟨x1237, x1238, rfl, hf.sub ⟨rfl, rfl, rfl, rfl, trivial⟩, H⟩
        ·replace ho1089 := itF hb ho1089
         refine C_skip ?_
         replace H := H.drop 0 rfl
         dsimp only [List.eraseIdx] at H
         replace H := H.drop 0 rfl
         dsimp only [List.eraseIdx] at H
         obtain rfl := Option.some.inj ho1089
         refine x_A fun a hf => ⟨0, (-1), rfl, hf.sub ⟨rfl, rfl, rfl, rfl, trivial⟩, H⟩
       ·rintro a wd1376 ⟨x1087, x1088, rfl, hf, H⟩
        try dsimp only at hF
        refine XX.at hf <| x_then ?_
        obtain ⟨o1378, ho1378, hF⟩ := bnd hF
        refine C_cut (fun a w' => ∃ (x1377 : Bool), x1377 = o1378 ∧ Fr 123 a [(6, .bool x1377)] ∧ Hp C w' ρ (hs)) ?_ ?_
        ·refine R_nd <| nq (Q_move rfl) rfl rfl <| nq (Q_move rfl) rfl rfl <| nq (Q_eql rfl rfl) rfl rfl <| nq (Q_move rfl) rfl rfl ?_
         rcases Bool.eq_false_or_eq_true (x718 == x1087) with hb | hb
         ·rw [hb]
          replace ho1378 := itT hb ho1378
          refine gq (Q_move rfl) rfl rfl rfl <| gq (Q_move rfl) rfl rfl rfl <| gq (Q_eql rfl rfl) rfl rfl rfl <| nq (Q_pickT rfl rfl) rfl rfl <| nq (Q_assign rfl) rfl rfl <| WL_nil ?_
          obtain rfl := Option.some.inj ho1378
          refine x_A fun a hf => ⟨x719 == x1088, rfl, hf.sub ⟨rfl, trivial⟩, H⟩
         ·rw [hb]
          replace ho1378 := itF hb ho1378
          refine gs rfl rfl rfl rfl <| gs rfl rfl rfl rfl <| gs rfl rfl rfl rfl <| nq (Q_pickF rfl rfl) rfl rfl <| nq (Q_assign rfl) rfl rfl <| WL_nil ?_
          obtain rfl := Option.some.inj ho1378
          refine x_A fun a hf => ⟨false, rfl, hf.sub ⟨rfl, trivial⟩, H⟩
        ·rintro a wd1379 ⟨x1377, rfl, hf, H⟩
         try dsimp only at hF
         refine CW.at hf <| C_ret ?_
         obtain rfl := Option.some.inj hF
         exact fn_ret (l := [.tmp 6]) (vs := [.bool x1377]) rfl rfl rfl ⟨ρ, x1377, rfl, rfl, (View.le_trans lw720 lw797), H⟩
end Go.Proofs.YtealkahefalaeaaGreatDoor
