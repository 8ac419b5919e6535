import Derived.Test.YtealkahefalaeaaGreatDoorSubsetFindsa
import Derived.Test.YtealkahefalaeaaGreatDoorSubsetFindsP1
namespace Go.Proofs.YtealkahefalaeaaGreatDoor
open Go Go.Eng
set_option maxRecDepth 100000
theorem c_138 {N : Nat} {C : Cx} {w : World} {ρ : View} {hs : List Hl} {gV : Nat → Value} {x1 : Int} {x2 : Int} {x3 : Int} {x4 : Int} {x5 : Int} (H : Hp C w ρ (hs)) (gle : GErrs ρ 394 errIds gV) (gl18 : GTab ρ 18 .u8 tab_math_bits_deBruijn64tab) {r : Int} (hF : F_42 N x1 x2 x3 x4 x5 = some r) :
  Calls Tryz.prog 138 [.agg #[uV x1, uV x2, uV x3, uV x4], iV x5].toArray w (Rets (fun v w' => (∃ (ρ' : View) (x6 : Int), x6 = r ∧ iV x6 = v ∧ View.le ρ ρ' ∧ Hp C w' ρ' (hs)))) := by
 unfold F_42 at hF
 have h0 : Tryz.f138.body = some _ := rfl
 refine fn_callsM Tryz.func138 h0 (n := 20) rfl (by simp) <| sr <| ne (E_box H (vs := [uV x1, uV x2, uV x3, uV x4]) J J) J J ?_
 rintro _ wd7 ⟨b8, rfl, H⟩
 refine ne (E_box H (vs := [iV x5]) J J) J J ?_
 rintro _ wd9 ⟨b10, rfl, H⟩
 refine ne (E_alloc H ty3 (zs := [iV 0]) J) J J ?_
 rintro _ wd11 ⟨b12, rfl, H⟩
 refine WL_nil <| x_then <| C_seq ?_
 obtain ⟨o13, ho13, hF⟩ := bnd hF
 refine C_cut (fun a w' => ∃ (x14 : Bool), x14 = o13 ∧ Fr 20 a [(2, pV b8 0), (3, pV b10 0), (4, pV b12 0), (11, .bool x14)] ∧ Hp C w' ρ (Box b8 [uV x1, uV x2, uV x3, uV x4] :: Box b10 [iV x5] :: Box b12 [iV 0] :: hs)) ?_ ?_
 ·refine R_nd <| nq (v := iV x5) (Q_ldB (k := 1) (cs := [iV x5]) H.ok J ty3 J J J (fun _ => J) J) J J <| nq (Q_lss J J) J J <| qm J J ?_
  rcases Bool.eq_false_or_eq_true (decide (x5 < 0)) with hb | hb
  ·rw [hb]
   replace ho13 := itT hb ho13
   refine gs J J J J <| gs J J J J <| nq (Q_pickT J J) J J <| WL_nil ?_
   replace H := H.f1.f2
   obtain rfl := oi ho13
   refine x_A fun a hf => ⟨true, J, hf.sub ⟨J, J, J, J, trivial⟩, H⟩
  ·rw [hb]
   replace ho13 := itF hb ho13
   refine gq (v := iV x5) (Q_ldB (k := 1) (cs := [iV x5]) H.ok J ty3 J J J (fun _ => J) J) J J J <| gq (Q_geq J J) J J J <| nq (Q_pickF J J) J J <| WL_nil ?_
   replace H := H.f1.f2
   obtain rfl := oi ho13
   refine x_A fun a hf => ⟨decide (x5 ≥ 256), J, hf.sub ⟨J, J, J, J, trivial⟩, H⟩
 ·rintro a wd15 ⟨x14, rfl, hf, H⟩
  try dsimp only at hF
  refine CW.at hf ?_
  refine C_cond J (fun hb => ?_) (fun hb => ?_)
  ·replace hF := itT hb hF
   refine sr <| ne (E_stB (k := 2) (cs := [iV (-1)]) (vs' := [iV (-1)]) H rfl ty3 J J J rfl (one_cons rfl one_nil) (by simp) J) J J ?_
   rintro _ wd16 H
   dsimp only [List.set] at H
   refine WL_nil <| x_then <| C_ret <| x_then_ret ?_
   have hRV : RV Tryz.prog wd16 [(4, pV b12 0)] [.cell 4 3] [iV (-1)] := ⟨⟨_, rfl, run_ldv ty3 rfl (fun _ => rfl) (box_at (H.ok.get (k := 2) rfl) 0 1)⟩, trivial⟩
   replace H := H.e2.e1.e0
   obtain rfl := oi hF
   exact fn_retM (rs := [.cell 4 3]) (vs := [iV (-1)]) J hRV ⟨ρ, (-1), J, J, (View.le_refl _), H⟩
  ·replace hF := itF hb hF
   refine C_skip <| x_then <| C_seq <| sr <| nq (v := .agg #[uV x1, uV x2, uV x3, uV x4]) (Q_ldB (k := 0) (cs := [uV x1, uV x2, uV x3, uV x4]) H.ok J ty39 J J J (fun h => nomatch h) J) J J ?_
   obtain ⟨q17, hq17, hF⟩ := bnd hF
   refine ne (E_call fn169 J (c_169 H gle   hq17)) J J ?_
   rintro _ wd18 ⟨b19, rfl, rfl, H⟩
   try dsimp only at hF
   refine WL_nil <| x_then <| C_block ?_
   replace H := H.e1.f2.f2
   obtain ⟨q20, hq20, hF⟩ := bnd hF
   obtain ⟨q651_, b21⟩ := q20
   refine C_range (σ := (Int ⊕ Int)) (α := Int) (s0 := (.inl x5)) (r := (q651_, b21)) (I := (IS (fun ρ (s : Int) A => ∃ (x22 : Int), x22 = s ∧ A = Star [Box b10 [iV x22], Box b12 [iV 0]]) (fun ρ (s : Int) A => ∃ (x23 : Int), x23 = s ∧ A = Star [Box b12 [iV x23]]))) (R := (fun _ x args => args = #[iV x])) (Y := (YS (σ1 := Int) (σ2 := Int) (fun x s => F_100 N x s))) [Box b19 [uV x1, uV x2, uV x3, uV x4]] (fun _ => .ret) J fn197 (Hp.star (L := [Box b10 [iV x5], Box b12 [iV 0]]) H) (IS.l ⟨x5, J, J⟩) J ?_ ?_ ?_
   ·intro a_ hfa l fn_ D
    refine YC.of2 ?_
    intro C w ρ hs s A x24 args r25 hle hIx hA26 H hF27
    obtain ⟨x22, rfl, rfl⟩ := hIx
    obtain rfl := hA26
    replace gle := GErrs.up hle gle
    replace gl18 := GTab.up hle gl18
    replace hF27 : F_100 N x24 x22 = some r25 := hF27
    unfold F_100 at hF27
    refine yieldAt (n := 20) (E := ((14, iV x24) :: [(3, pV b10 0), (4, pV b12 0)])) (ps := [14]) (vs := [iV x24]) H J J J J J J J ?_ (Fr.params (E := [(3, pV b10 0), (4, pV b12 0)]) ⟨hfa.size, rfl, (hfa.sub (E' := [(3, pV b10 0), (4, pV b12 0)]) ⟨rfl, rfl, trivial⟩).slots⟩ (by decide) rfl)
    obtain ⟨o, ho, H⟩ := H.ydOpen
    dsimp only [List.cons_append, List.nil_append] at H
    refine R_nd <| nq (Q_assign J) J J <| WL_nil <| x_begin (by rw [ho]; rfl) H ?_
    intro wd28 H
    refine C_block <| C_seq <| sr <| nq (v := iV x22) (Q_ldB (k := 1) (cs := [iV x22]) H.ok J ty3 J J J (fun _ => J) J) J J <| nq (Q_eql J J) J J <| WL_nil <| x_then ?_
    refine C_cond J (fun hb => ?_) (fun hb => ?_)
    ·replace hF27 := itT hb hF27
     refine sr <| qm J J <| ne (E_stB (k := 2) (cs := [iV x24]) (vs' := [iV x24]) H rfl ty3 J J J rfl (one_cons rfl one_nil) (by simp) J) J J ?_
     rintro _ wd29 H
     dsimp only [List.set] at H
     refine WL_nil <| x_then <| C_ret <| x_then_ret <| x_block_ret ?_
     replace H := H.e1.f1.f1
     obtain rfl := oi hF27
     subst ho
     refine x_round_ret H (fun w_ H => ?_)
     exact ⟨J, ρ, _, (View.le_refl _), IS.r ⟨x24, J, J⟩, Hp.ydClose (L := [Box b12 [iV x24]]) H⟩
    ·replace hF27 := itF hb hF27
     refine C_skip <| x_then <| R_nd <| nq (v := iV x22) (Q_ldB (k := 1) (cs := [iV x22]) H.ok rfl ty3 J J rfl (fun _ => J) J) J J <| nq (Q_sub J J) J J <| ne (E_stB (k := 1) (cs := [iV (w64 (x22 - 1))]) (vs' := [iV (w64 (x22 - 1))]) H rfl ty3 J J J rfl (one_cons rfl one_nil) (by simp) J) J J ?_
     rintro _ wd30 H
     dsimp only [List.set] at H
     refine WL_nil <| x_block ?_
     replace H := H.f2.f2.f2
     obtain rfl := oi hF27
     subst ho
     refine x_round H (fun w_ H => ?_)
     exact ⟨J, ρ, _, (View.le_refl _), IS.l ⟨w64 (x22 - 1), J, J⟩, Hp.ydClose (L := [Box b10 [iV (w64 (x22 - 1))], Box b12 [iV 0]]) H⟩
   ·intro l rec W hs' hY H
    refine (c_197 H gle gl18 hY (IS.l ⟨x5, rfl, rfl⟩) (IS.mono (fun hl h => by obtain ⟨x22, e1_, e2_⟩ := h; exact ⟨x22, e1_, e2_⟩) (fun hl h => by obtain ⟨x23, e1_, e2_⟩ := h; exact ⟨x23, e1_, e2_⟩))  hq20).mono fun e w' he => ?_
    obtain ⟨v, rfl, ρ', A', x, b, hr_, _, h1, h2, h3⟩ := he
    cases hr_
    exact ⟨_, J, ρ', A', h1, h2, h3⟩
   ·intro D73 wd31 ρ A' lw32 hIx H
    rcases q651_ with q651_ | q651_
    ·obtain ⟨x22, rfl, rfl⟩ := IS.unl hIx
     replace H := Hp.unstar H
     dsimp only [List.cons_append, List.nil_append] at H
     replace gle := GErrs.up lw32 gle
     replace gl18 := GTab.up lw32 gl18
     refine ⟨fun hb => ?_, fun hb => ?_⟩
     ·subst hb
      try dsimp only at hF
      refine x_block <| xs <| ne (E_stB (k := 1) (cs := [iV (-1)]) (vs' := [iV (-1)]) H rfl ty3 J J J rfl (one_cons rfl one_nil) (by simp) J) J J ?_
      rintro _ wd33 H
      dsimp only [List.set] at H
      refine WL_nil <| x_then <| C_ret ?_
      replace H := H.f2
      refine x_take H ?_
      intro wd34 H
      have hRV : RV Tryz.prog wd34 [(4, pV b12 0)] [.cell 4 3] [iV (-1)] := ⟨⟨_, rfl, run_ldv ty3 rfl (fun _ => rfl) (box_at (H.ok.get (k := 1) rfl) 0 1)⟩, trivial⟩
      replace H := H.e1.e0
      obtain rfl := oi hF
      exact fn_retM (rs := [.cell 4 3]) (vs := [iV (-1)]) J hRV ⟨ρ, (-1), J, J, lw32, H⟩
     ·subst hb
      try dsimp only at hF
      cases hF
    ·obtain ⟨x23, rfl, rfl⟩ := IS.unr hIx
     replace H := Hp.unstar H
     dsimp only [List.cons_append, List.nil_append] at H
     replace gle := GErrs.up lw32 gle
     replace gl18 := GTab.up lw32 gl18
     refine ⟨fun hb => ?_, fun hb => ?_⟩
     ·subst hb
      try dsimp only at hF
      cases hF
     ·subst hb
      try dsimp only at hF
      refine C_ret <| x_block_ret <| x_then_ret ?_
      replace H := H.f1
      refine x_take H ?_
      intro wd35 H
      have hRV : RV Tryz.prog wd35 [(4, pV b12 0)] [.cell 4 3] [iV x23] := ⟨⟨_, rfl, run_ldv ty3 rfl (fun _ => rfl) (box_at (H.ok.get (k := 0) rfl) 0 1)⟩, trivial⟩
      replace H := H.e0
      obtain rfl := oi hF
      exact fn_retM (rs := [.cell 4 3]) (vs := [iV x23]) J hRV ⟨ρ, x23, J, J, lw32, H⟩
theorem c_94 {N : Nat} {C : Cx} {w : World} {ρ : View} {hs : List Hl} {gV : Nat → Value} {x1 : Int} {x2 : Int} {x3 : Int} {x4 : Int} (H : Hp C w ρ (hs)) (gle : GErrs ρ 394 errIds gV) (gl18 : GTab ρ 18 .u8 tab_math_bits_deBruijn64tab) {r : Int} (hF : F_56 N x1 x2 x3 x4 = some r) :
  Calls Tryz.prog 94 [.agg #[uV x1, uV x2, uV x3, uV x4]].toArray w (Rets (fun v w' => (∃ (ρ' : View) (x5 : Int), x5 = r ∧ iV x5 = v ∧ View.le ρ ρ' ∧ Hp C w' ρ' (hs)))) := by
 unfold F_56 at hF
 have h0 : Tryz.f94.body = some _ := rfl
 refine fn_calls' Tryz.func94 h0 (n := 5) rfl (by simp) <| sr <| ne (E_box H (vs := [uV x1, uV x2, uV x3, uV x4]) J J) J J ?_
 rintro _ wd6 ⟨b7, rfl, H⟩
 refine qa J J <| sr <| nq (v := .agg #[uV x1, uV x2, uV x3, uV x4]) (Q_ldB (k := 0) (cs := [uV x1, uV x2, uV x3, uV x4]) H.ok J ty39 J J J (fun h => nomatch h) J) J J ?_
 obtain ⟨q8, hq8, hF⟩ := bnd hF
 refine ne (E_call fn138 J (c_138 H gle gl18  hq8)) J J ?_
 rintro _ wd9 ⟨ρ, x10, rfl, rfl, lw11, H⟩
 try dsimp only at hF
 replace gle := GErrs.up lw11 gle
 replace gl18 := GTab.up lw11 gl18
 refine qa J J <| C_ret ?_
 replace H := H.e0
 obtain rfl := oi hF
 exact fn_ret (l := [.tmp 2]) (vs := [iV x10]) J J J ⟨ρ, x10, J, J, lw11, H⟩
theorem c_137 {N : Nat} {C : Cx} {w : World} {ρ : View} {hs : List Hl} {gV : Nat → Value} {x1 : Int} (H : Hp C w ρ (hs)) (_gle : GErrs ρ 394 errIds gV) {r : Unit} (hF : F_85 N x1 = some r) :
  Calls Tryz.prog 137 [iV x1].toArray w (Rets (fun v w' => (() = r ∧ .bool (x1 != x1) = v ∧ Hp C w' ρ (hs)))) := by
 unfold F_85 at hF
 have h0 : Tryz.f137.body = some _ := rfl
 refine fn_calls' Tryz.func137 h0 (n := 6) rfl (by simp) <| sr <| qa J J <| sr <| qm J J <| qm J J <| nq (Q_neq J J) J J <| qa J J ?_
 refine C_ret ?_
 obtain rfl := oi hF
 exact fn_ret (l := [.tmp 2]) (vs := [.bool (x1 != x1)]) J J J ⟨J, J, H⟩
theorem c_93 {N : Nat} {C : Cx} {w : World} {ρ : View} {hs : List Hl} {gV : Nat → Value} {x1 : Int} {x2 : Int} (H : Hp C w ρ (hs)) (gle : GErrs ρ 394 errIds gV) {r : Int} (hF : F_84 N x1 x2 = some r) :
  Calls Tryz.prog 93 [iV x1, iV x2].toArray w (Rets (fun v w' => (∃ (x3 : Int), x3 = r ∧ iV x3 = v ∧ Hp C w' ρ (hs)))) := by
 unfold F_84 at hF
 have h0 : Tryz.f93.body = some _ := rfl
 refine fn_calls' Tryz.func93 h0 (n := 20) rfl (by simp) <| sr <| qa J J <| sr <| qm J J ?_
 obtain ⟨q4, hq4, hF⟩ := bnd hF
 refine ne (E_call fn137 J (c_137 H gle   hq4)) J J ?_
 rintro _ wd5 ⟨rfl, rfl, H⟩
 try dsimp only at hF
 refine qa J J <| sr <| qm J J ?_
 obtain ⟨q6, hq6, hF⟩ := bnd hF
 refine ne (E_call fn137 J (c_137 H gle   hq6)) J J ?_
 rintro _ wd7 ⟨rfl, rfl, H⟩
 try dsimp only at hF
 refine qa J J <| C_seq <| sr <| qm J J <| WL_nil <| x_then ?_
 refine C_cond J (fun hb => ?_) (fun hb => ?_)
 ·replace hF := itT hb hF
  refine C_seq <| sr <| qm J J <| WL_nil <| x_then ?_
  refine C_cond J (fun hb => ?_) (fun hb => ?_)
  ·replace hF := itT hb hF
   refine sr <| qa J J <| C_ret <| x_then_ret <| x_then_ret ?_
   obtain rfl := oi hF
   exact fn_ret (l := [.tmp 4]) (vs := [iV 0]) J J J ⟨0, J, J, H⟩
  ·replace hF := itF hb hF
   refine C_skip <| xs <| qa J J <| C_ret <| x_then_ret ?_
   obtain rfl := oi hF
   exact fn_ret (l := [.tmp 4]) (vs := [iV (-1)]) J J J ⟨(-1), J, J, H⟩
 ·replace hF := itF hb hF
  refine C_skip <| x_then <| C_seq <| sr <| qm J J <| WL_nil <| x_then ?_
  refine C_cond J (fun hb => ?_) (fun hb => ?_)
  ·replace hF := itT hb hF
   refine sr <| qa J J <| C_ret <| x_then_ret ?_
   obtain rfl := oi hF
   exact fn_ret (l := [.tmp 4]) (vs := [iV 1]) J J J ⟨1, J, J, H⟩
  ·replace hF := itF hb hF
   refine C_skip <| x_then <| C_seq <| sr <| qm J J <| qm J J <| nq (Q_lss J J) J J <| WL_nil <| x_then ?_
   refine C_cond J (fun hb => ?_) (fun hb => ?_)
   ·replace hF := itT hb hF
    refine sr <| qa J J <| C_ret <| x_then_ret ?_
    obtain rfl := oi hF
    exact fn_ret (l := [.tmp 4]) (vs := [iV (-1)]) J J J ⟨(-1), J, J, H⟩
   ·replace hF := itF hb hF
    refine C_skip <| x_then <| C_seq <| sr <| qm J J <| qm J J <| nq (Q_gtr J J) J J <| WL_nil <| x_then ?_
    refine C_cond J (fun hb => ?_) (fun hb => ?_)
    ·replace hF := itT hb hF
     refine sr <| qa J J <| C_ret <| x_then_ret ?_
     obtain rfl := oi hF
     exact fn_ret (l := [.tmp 4]) (vs := [iV 1]) J J J ⟨1, J, J, H⟩
    ·replace hF := itF hb hF
     refine C_skip <| xs <| qa J J <| C_ret ?_
     obtain rfl := oi hF
     exact fn_ret (l := [.tmp 4]) (vs := [iV 0]) J J J ⟨0, J, J, H⟩
theorem c_92 {N : Nat} {C : Cx} {w : World} {ρ : View} {hs : List Hl} {gV : Nat → Value} {x1 : Int} {x2 : Int} {x3 : Int} {x4 : Int} {x5 : Int} {x6 : Int} {x7 : Int} {x8 : Int} (H : Hp C w ρ (hs)) (gle : GErrs ρ 394 errIds gV) (gl18 : GTab ρ 18 .u8 tab_math_bits_deBruijn64tab) {r : Int} (hF : F_55 N x1 x2 x3 x4 x5 x6 x7 x8 = some r) :
  Calls Tryz.prog 92 [.agg #[uV x1, uV x2, uV x3, uV x4], .agg #[uV x5, uV x6, uV x7, uV x8]].toArray w (Rets (fun v w' => (∃ (ρ' : View) (x9 : Int), x9 = r ∧ iV x9 = v ∧ View.le ρ ρ' ∧ Hp C w' ρ' (hs)))) := by
 unfold F_55 at hF
 have h0 : Tryz.f92.body = some _ := rfl
 refine fn_calls' Tryz.func92 h0 (n := 10) rfl (by simp) <| sr <| ne (E_box H (vs := [uV x1, uV x2, uV x3, uV x4]) J J) J J ?_
 rintro _ wd10 ⟨b11, rfl, H⟩
 refine ne (E_box H (vs := [uV x5, uV x6, uV x7, uV x8]) J J) J J ?_
 rintro _ wd12 ⟨b13, rfl, H⟩
 refine qa J J <| C_seq <| R_dr (.take 0 (.take 2 (.one 1 (.bar 3 (some 4) (.bar 4 none (.take 5 .done)))))) (some 3) (S := fun w' => Ok w' ρ [Box b13 [uV x5, uV x6, uV x7, uV x8], Box b11 [uV x1, uV x2, uV x3, uV x4]]) hm0 (by kernel_rfl) (H.drew.okS (by simp)) ?_
 replace H := H.drew
 refine dq (v := .agg #[uV x1, uV x2, uV x3, uV x4]) J (fun _ hw => Q_ldB (k := 1) (cs := [uV x1, uV x2, uV x3, uV x4]) hw J ty39 J J J (fun h => nomatch h) J) J J <| dq (v := .agg #[uV x5, uV x6, uV x7, uV x8]) J (fun _ hw => Q_ldB (k := 0) (cs := [uV x5, uV x6, uV x7, uV x8]) hw J ty39 J J J (fun h => nomatch h) J) J J ?_
 obtain ⟨q14, hq14, hF⟩ := bnd hF
 refine d1 (de J (E_call fn94 J (c_94 H gle gl18  hq14)) J J ?_)
 rintro _ wd15 ⟨ρ, x16, rfl, rfl, lw17, H⟩
 try dsimp only at hF
 replace gle := GErrs.up lw17 gle
 replace gl18 := GTab.up lw17 gl18
 refine ⟨(H.okS (by simp)).low lw17, ?_⟩
 obtain ⟨q18, hq18, hF⟩ := bnd hF
 refine db J (E_call fn94 J (c_94 H gle gl18  hq18)) J J ?_
 rintro _ wd19 ⟨ρ, x20, rfl, rfl, lw21, H⟩
 try dsimp only at hF
 replace gle := GErrs.up lw21 gle
 replace gl18 := GTab.up lw21 gl18
 refine H.okF ?_
 obtain ⟨q22, hq22, hF⟩ := bnd hF
 refine db J (E_call fn93 J (c_93 H gle   hq22)) J J ?_
 rintro _ wd23 ⟨x24, rfl, rfl, H⟩
 try dsimp only at hF
 refine H.okF <| dq J (fun _ _ => Q_assign J) J J <| DL_nil <| x_then <| C_ret ?_
 replace H := H.e1.e0
 obtain rfl := oi hF
 exact fn_ret (l := [.tmp 4]) (vs := [iV x24]) J J J ⟨ρ, x24, J, J, (View.le_trans lw17 lw21), H⟩
theorem c_91 {N : Nat} {C : Cx} {w : World} {ρ : View} {hs : List Hl} {gV : Nat → Value} {v : Value} {c : List Value} {x : List S4} (H : Hp C w ρ (Arr v 4 c :: hs)) (gle : GErrs ρ 394 errIds gV) (gl18 : GTab ρ 18 .u8 tab_math_bits_deBruijn64tab) (r1 : rdL e4 ρ x c) {y : List S4} (hF : sortF (fun a b => F_55 N a.1 a.2.1 a.2.2.1 a.2.2.2 b.1 b.2.1 b.2.2.1 b.2.2.2) x = some y) :
  Calls Tryz.prog 91 [v, .func (.func 92) #[] [].toArray].toArray w (Rets (fun u w' => u = .tuple [].toArray ∧ rdL e4 ρ y (y.flatMap raw4) ∧ Hp C w' ρ (Arr v 4 (y.flatMap raw4) :: hs))) := by
 refine c_sort4 sortSets rfl Tryz.isAgg39 Tryz.sizeOf39 (Go.Proofs.enters_of Tryz.func92 (by kernel_rfl) rfl) H r1 (fun W hW a b r hr => ?_) hF
 refine (c_92 (C := ⟨W, []⟩) (hs := []) (Hp.here hW) gle gl18 hr).mono fun e w' he => ?_
 obtain ⟨_, rfl, ρ2, z, rfl, rfl, _, H2⟩ := he
 exact ⟨_, J, J, H2.bel⟩
theorem c_43 {N : Nat} {C : Cx} {w : World} {ρ : View} {hs : List Hl} {gV : Nat → Value} {v1 : Value} {v2 : Value} {x3 : (List ((List Int) × (Int × Int × Int × Int) × Int × Int))} {x4 : (List Int)} (H : Hp C w ρ (hs)) (gle : GErrs ρ 394 errIds gV) (gl18 : GTab ρ 18 .u8 tab_math_bits_deBruijn64tab) (r5 : RdSl ρ (eP (eL (eI .i64)) (eP (eP (eI .u64) (eP (eI .u64) (eP (eI .u64) (eI .u64)))) (eP (eI .i64) (eI .i64)))) v1 x3) (r6 : RdSl ρ (eI .i64) v2 x4) {r : (List (Int × Int × Int × Int))} (hF : F_1 N x3 x4 = some r) :
  Calls Tryz.prog 43 [.agg #[v1, v2]].toArray w (Rets (fun v w' => (∃ (v7 : Value) (c8 : (List Value)) (x9 : (List (Int × Int × Int × Int))), x9 = r ∧ v7 = v ∧ rdL (eP (eI .u64) (eP (eI .u64) (eP (eI .u64) (eI .u64)))) ρ x9 c8 ∧ Hp C w' ρ (Arr v7 4 c8 :: hs)))) := by
 unfold F_1 at hF
 have h0 : Tryz.f43.body = some _ := rfl
 refine fn_calls' Tryz.func43 h0 (n := 69) rfl (by simp) <| sr <| ne (E_box H (vs := [v1, v2]) J J) J J ?_
 rintro _ wd10 ⟨b11, rfl, H⟩
 refine qa J J <| C_seq <| sr <| nq (v := .agg #[v1, v2]) (Q_ldB (k := 0) (cs := [v1, v2]) H.ok J ty25 J J J (fun h => nomatch h) J) J J ?_
 obtain ⟨q12, hq12, hF⟩ := bnd hF
 refine ne (E_call fn18 J (c_18 H gle  r5 r6 hq12)) J J ?_
 rintro _ wd13 ⟨x14, rfl, rfl, H⟩
 try dsimp only at hF
 refine nq (Q_not J) J J <| WL_nil <| x_then ?_
 refine C_cond J (fun hb => ?_) (fun hb => ?_)
 ·replace hF := itT hb hF
  refine sr <| qa J J <| C_ret <| x_then_ret ?_
  have H := H.nilArr 4
  replace H := H.e1
  obtain rfl := oi hF
  exact fn_ret (l := [.tmp 2]) (vs := [(.slice none 0 0)]) J J J ⟨(.slice none 0 0), [], [], J, J, rdL.nil, H⟩
 ·replace hF := itF hb hF
  refine C_skip <| x_then <| C_seq <| R_nd ?_
  obtain ⟨q15, hq15, hF⟩ := bnd hF
  refine ne (E_call fn88 J (c_88 H gle   hq15)) J J ?_
  rintro _ wd16 ⟨x17, x18, x19, x20, rfl, rfl, H⟩
  try dsimp only at hF
  refine ne (E_bslice (xs := [.tmp 15]) (vs := [.agg #[uV x17, uV x18, uV x19, uV x20]]) H Tryz.underlying72 ty39 (by decide) (cs := [uV x17, uV x18, uV x19, uV x20]) rfl (sz_cons rfl sz_nil) rfl (by simp) (by simp) J J) J J ?_
  rintro _ wd21 ⟨b22, rfl, H⟩
  refine qa J J <| sr <| ne (E_makeMap (kA 4 .u64) (Value.int .i64) H) J J ?_
  rintro _ wd23 ⟨b24, rfl, H⟩
  refine qa J J <| C_seq <| sr <| nq (v := pV b11 0) (Q_fld Tryz.underlying25 rfl ty22 (by decide) J J) J J <| nq (v := v1) (Q_ldB (k := 2) (cs := [v1]) H.ok rfl ty22 J J rfl (fun _ => J) J) J J <| nq (Q_len Tryz.underlying22 rfl r5) J J <| qm J J <| WL_nil <| x_then ?_
  obtain ⟨o25, ho25, hF⟩ := bnd hF
  refine C_cutQ (fun a w' => ∃ (v26 : Value) (c27 : (List Value)) (x28 : (List (Int × Int × Int × Int))), x28 = o25 ∧ rdL (eP (eI .u64) (eP (eI .u64) (eP (eI .u64) (eI .u64)))) ρ x28 c27 ∧ Fr 69 a [(3, v26)] ∧ Hp C w' ρ (Arr v26 4 c27 :: hs)) ?_ ?_
  ·refine C_block ?_
   replace H := H.e2.f1
   refine C_iter (f := fun s => F_36 N x3 s.1 s.2.1 s.2.2) ho25 (fun s a w' => ∃ (v29 : Value) (c30 : (List Value)) (x31 : Int) (x32 : (List (Int × Int × Int × Int))) (x33 : (List ((List Int) × Int))), (x31, x32, x33) = s ∧ rdL (eP (eI .u64) (eP (eI .u64) (eP (eI .u64) (eI .u64)))) ρ x32 c30 ∧ Fr 69 a [(3, v29), (4, .map (some b24)), (19, v1), (20, iV (x3.length : Int)), (21, iV x31)] ∧ Hp C w' ρ (Arr v29 4 c30 :: Mp (kA 4 .u64) (Value.int .i64) b24 x33 :: hs)) ?_ ?_
   ·exact fun a hf => ⟨(.slice (some ⟨b22, 0, none⟩) 1 1), [uV x17, uV x18, uV x19, uV x20], 0, [(x17, x18, x19, x20)], ([] : List ((List Int) × Int)), J, (show rdL (eP (eI .u64) (eP (eI .u64) (eP (eI .u64) (eI .u64)))) ρ ([(x17, x18, x19, x20)]) ([uV x17, uV x18, uV x19, uV x20]) from ⟨([uV x17, uV x18, uV x19, uV x20]), _, J, ⟨[uV x17], _, J, J, ⟨[uV x18], _, J, J, ⟨[uV x19], _, J, J, J⟩⟩⟩, rdL.nil⟩), hf.sub ⟨J, J, J, J, J, trivial⟩, H⟩
   ·rintro s o34 a wd35 ⟨v29, c30, x31, x32, x33, rfl, r36, hf, H⟩ hB37 hO38
    replace hB37 : F_36 N x3 x31 x32 x33 = some o34 := hB37
    unfold F_36 at hB37
    refine CW.at hf <| sr <| nq (Q_lss J J) J J <| WL_nil <| x_then <| C_seq ?_
    refine C_cond J (fun hb => ?_) (fun hb => ?_)
    ·replace hB37 := itT hb hB37
     refine C_skip <| x_then ?_
     obtain ⟨o39, ho39, hB37⟩ := bnd hB37
     refine C_cut (fun a w' => ∃ (v40 : Value) (c41 : (List Value)) (x42 : (List (Int × Int × Int × Int))) (x43 : (List ((List Int) × Int))), (x42, x43) = o39 ∧ rdL (eP (eI .u64) (eP (eI .u64) (eP (eI .u64) (eI .u64)))) ρ x42 c41 ∧ Fr 69 a [(3, v40), (4, .map (some b24)), (19, v1), (20, iV (x3.length : Int)), (21, iV x31)] ∧ Hp C w' ρ (Arr v40 4 c41 :: Mp (kA 4 .u64) (Value.int .i64) b24 x43 :: hs)) ?_ ?_
     ·refine C_block <| C_seq <| R_nd ?_
      obtain ⟨x44, hx44, ho39⟩ := bnd ho39
      obtain ⟨b45, o46, c47, hc48, ha49, hi50⟩ := idxR r5 hx44
      refine nq (Q_idx hi50 Tryz.underlying22 ty41 J J) J J ?_
      obtain ⟨c51, c52, he53, hc54, hc55⟩ := (id hc48)
      obtain ⟨v56, he57, r58⟩ := hc54
      obtain ⟨c59, c60, he61, hc62, hc63⟩ := hc55
      obtain ⟨c64, c65, he66, hc67, hc68⟩ := hc62
      obtain ⟨c69, c70, he71, hc72, hc73⟩ := hc68
      obtain ⟨c74, c75, he76, hc77, hc78⟩ := hc73
      obtain ⟨c79, c80, he81, hc82, hc83⟩ := hc63
      refine nq (v := .agg #[v56, uV x44.2.1.1, uV x44.2.1.2.1, uV x44.2.1.2.2.1, uV x44.2.1.2.2.2, iV x44.2.2.1, iV x44.2.2.2]) (Q_ld (show cellsAt _ _ _ [v56, uV x44.2.1.1, uV x44.2.1.2.1, uV x44.2.1.2.2.1, uV x44.2.1.2.2.2, iV x44.2.2.1, iV x44.2.2.2] from cellsAt.cg (cat2 he53 he57 (cat2 he61 (cat2 he66 (rdI hc67) (cat2 he71 (rdI hc72) (cat2 he76 (rdI hc77) (rdI hc78)))) (cat2 he81 (rdI hc82) (rdI hc83)))) (ha49.up H.ok.view)) ty41 J (fun h => nomatch h) J J) J J <| ne (E_alloc H ty41 (zs := [.slice none 0 0, uV 0, uV 0, uV 0, uV 0, iV 0, iV 0]) J) J J ?_
      rintro _ wd84 ⟨b85, rfl, H⟩
      refine ne (E_stB (k := 0) (cs := [v56, uV x44.2.1.1, uV x44.2.1.2.1, uV x44.2.1.2.2.1, uV x44.2.1.2.2.2, iV x44.2.2.1, iV x44.2.2.2]) (vs' := [v56, uV x44.2.1.1, uV x44.2.1.2.1, uV x44.2.1.2.2.1, uV x44.2.1.2.2.2, iV x44.2.2.1, iV x44.2.2.2]) H rfl ty41 J J J rfl (one_cons (RdSl.one r58) (one_cons rfl (one_cons rfl (one_cons rfl (one_cons rfl (one_cons rfl (one_cons rfl one_nil))))))) (by simp) J) J J ?_
      rintro _ wd86 H
      dsimp only [List.set] at H
      refine WL_nil <| x_then <| C_seq <| sr <| qm J J <| nq (v := pV b85 1) (Q_fld Tryz.underlying41 rfl ty39 (by decide) J J) J J <| nq (v := .agg #[uV x44.2.1.1, uV x44.2.1.2.1, uV x44.2.1.2.2.1, uV x44.2.1.2.2.2]) (Q_ldB (k := 0) (cs := [uV x44.2.1.1, uV x44.2.1.2.1, uV x44.2.1.2.2.1, uV x44.2.1.2.2.2]) H.ok rfl ty39 J J rfl (fun h => nomatch h) J) J J <| nq (v := iV ((mget x33 ([x44.2.1.1, x44.2.1.2.1, x44.2.1.2.2.1, x44.2.1.2.2.2])).getD 0)) (Q_look1 (zp := 0) (k := 2) H.ok rfl Tryz.underlying149 (kOk_A Tryz.underlying39 ty37 Tryz.underlying37) (rfl : List.length ([x44.2.1.1, x44.2.1.2.1, x44.2.1.2.2.1, x44.2.1.2.2.2] : List Int) = 4) ty3 J rfl (kA_ev (xs := [x44.2.1.1, x44.2.1.2.1, x44.2.1.2.2.1, x44.2.1.2.2.2]) (rdL_ints .u64 ρ [x44.2.1.1, x44.2.1.2.1, x44.2.1.2.2.1, x44.2.1.2.2.2]) J)) J J <| nq (Q_gtr J J) J J <| WL_nil <| x_then ?_
      refine C_cond J (fun hb => ?_) (fun hb => ?_)
      ·replace ho39 := itT hb ho39
       refine C_exit <| x_then_exit <| x_block_exit ?_
       replace H := H.e0
       obtain rfl := oi ho39
       refine x_A fun a hf => ⟨v29, c30, x32, x33, J, r36, hf.sub ⟨J, J, J, J, J, trivial⟩, H⟩
      ·replace ho39 := itF hb ho39
       refine C_skip <| x_then ?_
       obtain ⟨o87, ho87, ho39⟩ := bnd ho39
       refine C_cut (fun a w' => Fr 69 a [(3, v29), (4, .map (some b24)), (6, pV b85 0), (19, v1), (20, iV (x3.length : Int)), (21, iV x31)] ∧ Hp C w' ρ (Arr v29 4 c30 :: Mp (kA 4 .u64) (Value.int .i64) b24 (mset (mset x33 ([x44.2.1.1, x44.2.1.2.1, x44.2.1.2.2.1, x44.2.1.2.2.2]) ((mget x33 ([x44.2.1.1, x44.2.1.2.1, x44.2.1.2.2.1, x44.2.1.2.2.2])).getD 0)) ([x44.2.1.1, x44.2.1.2.1, x44.2.1.2.2.1, x44.2.1.2.2.2]) (w64 (((mget x33 ([x44.2.1.1, x44.2.1.2.1, x44.2.1.2.2.1, x44.2.1.2.2.2])).getD 0) + 1))) :: Box b85 [v56, uV x44.2.1.1, uV x44.2.1.2.1, uV x44.2.1.2.2.1, uV x44.2.1.2.2.2, iV x44.2.2.1, iV x44.2.2.2] :: hs)) ?_ ?_
       ·refine R_dr (.take 0 (.take 1 (.take 2 (.two 3 5 (.take 4 (.one 5 (.take 6 (.bar 7 none .done)))) (.take 6 (.one 3 (.take 4 (.bar 7 none .done)))))))) (some 7) (S := fun w' => Ok w' ρ [Box b85 [v56, uV x44.2.1.1, uV x44.2.1.2.1, uV x44.2.1.2.2.1, uV x44.2.1.2.2.2, iV x44.2.2.1, iV x44.2.2.2], Arr v29 4 c30]) hm0 (by kernel_rfl) (H.drew.okS (by simp)) ?_
        replace H := H.drew
        refine dq rfl (fun _ _ => Q_move J) J J <| dq (v := pV b85 1) rfl (fun _ _ => Q_fld Tryz.underlying41 rfl ty39 (by decide) J J) J J <| dq (v := .agg #[uV x44.2.1.1, uV x44.2.1.2.1, uV x44.2.1.2.2.1, uV x44.2.1.2.2.2]) rfl (fun _ hw => Q_ldB (k := 0) (cs := [uV x44.2.1.1, uV x44.2.1.2.1, uV x44.2.1.2.2.1, uV x44.2.1.2.2.2]) hw rfl ty39 J J rfl (fun h => nomatch h) J) J J ?_
        refine d2 ?_ ?_
        ·refine de J (Eff.quiet (v := iV ((mget x33 ([x44.2.1.1, x44.2.1.2.1, x44.2.1.2.2.1, x44.2.1.2.2.2])).getD 0)) (Q_look1 (zp := 0) (k := 2) H.ok J Tryz.underlying149 (kOk_A Tryz.underlying39 ty37 Tryz.underlying37) (J : List.length ([x44.2.1.1, x44.2.1.2.1, x44.2.1.2.2.1, x44.2.1.2.2.2] : List Int) = 4) ty3 J J (kA_ev (xs := [x44.2.1.1, x44.2.1.2.1, x44.2.1.2.2.1, x44.2.1.2.2.2]) (rdL_ints .u64 ρ [x44.2.1.1, x44.2.1.2.1, x44.2.1.2.2.1, x44.2.1.2.2.2]) J))) J J ?_
         rintro _ _ ⟨rfl, rfl⟩
         refine ⟨H.okS (by simp), ?_⟩
         refine dq J (fun _ _ => Q_add J J) J J ?_
         refine d1 (de J (E_mentry (zp := 0) (k := 2) H J Tryz.underlying149 (kOk_A Tryz.underlying39 ty37 Tryz.underlying37) (J : List.length ([x44.2.1.1, x44.2.1.2.1, x44.2.1.2.2.1, x44.2.1.2.2.2] : List Int) = 4) ty3 J J (kA_ev (xs := [x44.2.1.1, x44.2.1.2.1, x44.2.1.2.2.1, x44.2.1.2.2.2]) (rdL_ints .u64 ρ [x44.2.1.1, x44.2.1.2.1, x44.2.1.2.2.1, x44.2.1.2.2.2]) J)) J J ?_)
         rintro _ wd88 ⟨n89, rfl, H⟩
         refine ⟨H.okS (by simp), ?_⟩
         dsimp only [List.set] at H
         refine dq J (fun _ _ => Q_extract J J) J J <| db J (E_estore (b := (w64 (((mget x33 ([x44.2.1.1, x44.2.1.2.1, x44.2.1.2.2.1, x44.2.1.2.2.2])).getD 0) + 1))) (k := 2) (kOk_A (N := 4) (k := .u64) Tryz.underlying39 ty37 Tryz.underlying37).law H J J J J) J J ?_
         rintro _ wd90 H
         refine H.okF ?_
         dsimp only [List.set] at H
         refine DL_nil ?_
         replace H := H.f2.f2
         obtain rfl := oi ho87
         refine x_A fun a hf => ⟨hf.sub ⟨J, J, J, J, J, J, trivial⟩, H⟩
        ·refine de J (E_mentry (zp := 0) (k := 2) H J Tryz.underlying149 (kOk_A Tryz.underlying39 ty37 Tryz.underlying37) (J : List.length ([x44.2.1.1, x44.2.1.2.1, x44.2.1.2.2.1, x44.2.1.2.2.2] : List Int) = 4) ty3 J J (kA_ev (xs := [x44.2.1.1, x44.2.1.2.1, x44.2.1.2.2.1, x44.2.1.2.2.2]) (rdL_ints .u64 ρ [x44.2.1.1, x44.2.1.2.1, x44.2.1.2.2.1, x44.2.1.2.2.2]) J)) J J ?_
         rintro _ wd91 ⟨n92, rfl, H⟩
         refine ⟨H.okS (by simp), ?_⟩
         dsimp only [List.set] at H
         refine dq J (fun _ _ => Q_extract J J) J J ?_
         refine d1 (de J (Eff.quiet (v := iV ((mget x33 ([x44.2.1.1, x44.2.1.2.1, x44.2.1.2.2.1, x44.2.1.2.2.2])).getD 0)) (Q_look1E (m := x33) (zp := 0) (k := 2) H.ok J Tryz.underlying149 (kOk_A Tryz.underlying39 ty37 Tryz.underlying37) (J : List.length ([x44.2.1.1, x44.2.1.2.1, x44.2.1.2.2.1, x44.2.1.2.2.2] : List Int) = 4) ty3 J J (kA_ev (xs := [x44.2.1.1, x44.2.1.2.1, x44.2.1.2.2.1, x44.2.1.2.2.2]) (rdL_ints .u64 ρ [x44.2.1.1, x44.2.1.2.1, x44.2.1.2.2.1, x44.2.1.2.2.2]) J))) J J ?_)
         rintro _ _ ⟨rfl, rfl⟩
         refine ⟨H.okS (by simp), ?_⟩
         refine dq J (fun _ _ => Q_add J J) J J <| db J (E_estore (b := (w64 (((mget x33 ([x44.2.1.1, x44.2.1.2.1, x44.2.1.2.2.1, x44.2.1.2.2.2])).getD 0) + 1))) (k := 2) (kOk_A (N := 4) (k := .u64) Tryz.underlying39 ty37 Tryz.underlying37).law H J J J J) J J ?_
         rintro _ wd93 H
         refine H.okF ?_
         dsimp only [List.set] at H
         refine DL_nil ?_
         replace H := H.f2.f2
         obtain rfl := oi ho87
         refine x_A fun a hf => ⟨hf.sub ⟨J, J, J, J, J, J, trivial⟩, H⟩
       ·rintro a wd94 ⟨hf, H⟩
        try dsimp only at ho39
        refine CW.at hf <| sr <| qa J J <| C_seq <| sr <| qm J J <| nq (Q_lenA (k := 0) H.ok rfl r36 (by decide) Tryz.underlying72 J) J J <| qm J J <| WL_nil <| x_then ?_
        obtain ⟨o95, ho95, ho39⟩ := bnd ho39
        refine C_cutQ (fun a w' => ∃ (v96 : Value) (c97 : (List Value)) (x98 : (List (Int × Int × Int × Int))), x98 = o95 ∧ rdL (eP (eI .u64) (eP (eI .u64) (eP (eI .u64) (eI .u64)))) ρ x98 c97 ∧ Fr 69 a [(4, .map (some b24)), (7, v96), (19, v1), (20, iV (x3.length : Int)), (21, iV x31)] ∧ Hp C w' ρ (Mp (kA 4 .u64) (Value.int .i64) b24 (mset (mset x33 ([x44.2.1.1, x44.2.1.2.1, x44.2.1.2.2.1, x44.2.1.2.2.2]) ((mget x33 ([x44.2.1.1, x44.2.1.2.1, x44.2.1.2.2.1, x44.2.1.2.2.2])).getD 0)) ([x44.2.1.1, x44.2.1.2.1, x44.2.1.2.2.1, x44.2.1.2.2.2]) (w64 (((mget x33 ([x44.2.1.1, x44.2.1.2.1, x44.2.1.2.2.1, x44.2.1.2.2.2])).getD 0) + 1))) :: Arr v96 4 c97 :: hs)) ?_ ?_
        ·refine C_block ?_
         have H := H.nilArr 4
         replace H := H.f3.f3.f3
         refine C_iter (f := fun s => F_37 N x32 x44 s.1 s.2) ho95 (fun s a w' => ∃ (v99 : Value) (c100 : (List Value)) (x101 : Int) (x102 : (List (Int × Int × Int × Int))), (x101, x102) = s ∧ rdL (eP (eI .u64) (eP (eI .u64) (eP (eI .u64) (eI .u64)))) ρ x102 c100 ∧ Fr 69 a [(4, .map (some b24)), (6, pV b85 0), (7, v99), (19, v1), (20, iV (x3.length : Int)), (21, iV x31), (37, v29), (38, iV (x32.length : Int)), (39, iV x101)] ∧ Hp C w' ρ (Arr v29 4 c30 :: Mp (kA 4 .u64) (Value.int .i64) b24 (mset (mset x33 ([x44.2.1.1, x44.2.1.2.1, x44.2.1.2.2.1, x44.2.1.2.2.2]) ((mget x33 ([x44.2.1.1, x44.2.1.2.1, x44.2.1.2.2.1, x44.2.1.2.2.2])).getD 0)) ([x44.2.1.1, x44.2.1.2.1, x44.2.1.2.2.1, x44.2.1.2.2.2]) (w64 (((mget x33 ([x44.2.1.1, x44.2.1.2.1, x44.2.1.2.2.1, x44.2.1.2.2.2])).getD 0) + 1))) :: Box b85 [v56, uV x44.2.1.1, uV x44.2.1.2.1, uV x44.2.1.2.2.1, uV x44.2.1.2.2.2, iV x44.2.2.1, iV x44.2.2.2] :: Arr v99 4 c100 :: hs)) ?_ ?_
         ·exact fun a hf => ⟨(.slice none 0 0), [], 0, [], J, rdL.nil, hf.sub ⟨J, J, J, J, J, J, J, J, J, trivial⟩, H⟩
         ·rintro s o103 a wd104 ⟨v99, c100, x101, x102, rfl, r105, hf, H⟩ hB106 hO107
          replace hB106 : F_37 N x32 x44 x101 x102 = some o103 := hB106
          unfold F_37 at hB106
          refine CW.at hf <| sr <| nq (Q_lss J J) J J <| WL_nil <| x_then <| C_seq ?_
          refine C_cond J (fun hb => ?_) (fun hb => ?_)
          ·replace hB106 := itT hb hB106
           refine C_skip <| x_then <| C_seq <| C_block <| C_seq <| R_nd ?_
           obtain ⟨x108, hx108, hB106⟩ := bnd hB106
           obtain ⟨b109, o110, hi111, hc112, ha113⟩ := arr_at (hs := [Arr v29 4 c30]) (k := 0) (by decide) (H.okS (by simp)) rfl r36 hx108
           refine nq (Q_idx hi111 Tryz.underlying72 ty39 J J) J J ?_
           obtain ⟨c114, c115, he116, hc117, hc118⟩ := (id hc112)
           obtain ⟨c119, c120, he121, hc122, hc123⟩ := hc118
           obtain ⟨c124, c125, he126, hc127, hc128⟩ := hc123
           refine nq (v := .agg #[uV x108.1, uV x108.2.1, uV x108.2.2.1, uV x108.2.2.2]) (Q_ld (show cellsAt _ _ _ [uV x108.1, uV x108.2.1, uV x108.2.2.1, uV x108.2.2.2] from cellsAt.cg (cat2 he116 (rdI hc117) (cat2 he121 (rdI hc122) (cat2 he126 (rdI hc127) (rdI hc128)))) (ha113 _ (Ok.subS (by simp) H.ok))) ty39 rfl (fun h => nomatch h) J J) J J <| ne (E_alloc H ty39 (zs := [uV 0, uV 0, uV 0, uV 0]) J) J J ?_
           rintro _ wd129 ⟨b130, rfl, H⟩
           refine ne (E_stB (k := 0) (cs := [uV x108.1, uV x108.2.1, uV x108.2.2.1, uV x108.2.2.2]) (vs' := [uV x108.1, uV x108.2.1, uV x108.2.2.1, uV x108.2.2.2]) H rfl ty39 J J J rfl (one_cons rfl (one_cons rfl (one_cons rfl (one_cons rfl one_nil)))) (by simp) J) J J ?_
           rintro _ wd131 H
           dsimp only [List.set] at H
           refine WL_nil <| x_then <| C_seq <| R_dr (.take 0 (.take 1 (.take 2 (.take 4 (.take 5 (.take 6 (.take 9 (.one 3 (.one 7 (.take 8 .done)))))))))) none (S := fun w' => Ok w' ρ [Box b130 [uV x108.1, uV x108.2.1, uV x108.2.2.1, uV x108.2.2.2], Arr v29 4 c30, Mp (kA 4 .u64) (Value.int .i64) b24 (mset (mset x33 ([x44.2.1.1, x44.2.1.2.1, x44.2.1.2.2.1, x44.2.1.2.2.2]) ((mget x33 ([x44.2.1.1, x44.2.1.2.1, x44.2.1.2.2.1, x44.2.1.2.2.2])).getD 0)) ([x44.2.1.1, x44.2.1.2.1, x44.2.1.2.2.1, x44.2.1.2.2.2]) (w64 (((mget x33 ([x44.2.1.1, x44.2.1.2.1, x44.2.1.2.2.1, x44.2.1.2.2.2])).getD 0) + 1))), Box b85 [v56, uV x44.2.1.1, uV x44.2.1.2.1, uV x44.2.1.2.2.1, uV x44.2.1.2.2.2, iV x44.2.2.1, iV x44.2.2.2], Arr v99 4 c100]) hm0 (by kernel_rfl) (H.drew.okS (by simp)) ?_
           replace H := H.drew
           refine dq (v := .agg #[uV x108.1, uV x108.2.1, uV x108.2.2.1, uV x108.2.2.2]) rfl (fun _ hw => Q_ldB (k := 0) (cs := [uV x108.1, uV x108.2.1, uV x108.2.2.1, uV x108.2.2.2]) hw rfl ty39 J J rfl (fun h => nomatch h) J) J J <| dq (v := pV b85 1) rfl (fun _ _ => Q_fld Tryz.underlying41 rfl ty39 (by decide) J J) J J <| dq (v := .agg #[uV x44.2.1.1, uV x44.2.1.2.1, uV x44.2.1.2.2.1, uV x44.2.1.2.2.2]) rfl (fun _ hw => Q_ldB (k := 3) (cs := [uV x44.2.1.1, uV x44.2.1.2.1, uV x44.2.1.2.2.1, uV x44.2.1.2.2.2]) hw rfl ty39 J J rfl (fun h => nomatch h) J) J J <| dq (v := .agg #[uV x108.1, uV x108.2.1, uV x108.2.2.1, uV x108.2.2.2]) rfl (fun _ hw => Q_ldB (k := 0) (cs := [uV x108.1, uV x108.2.1, uV x108.2.2.1, uV x108.2.2.2]) hw rfl ty39 J J rfl (fun h => nomatch h) J) J J <| dq (v := pV b85 1) rfl (fun _ _ => Q_fld Tryz.underlying41 rfl ty39 (by decide) J J) J J <| dq (v := .agg #[uV x44.2.1.1, uV x44.2.1.2.1, uV x44.2.1.2.2.1, uV x44.2.1.2.2.2]) rfl (fun _ hw => Q_ldB (k := 3) (cs := [uV x44.2.1.1, uV x44.2.1.2.1, uV x44.2.1.2.2.1, uV x44.2.1.2.2.2]) hw rfl ty39 J J rfl (fun h => nomatch h) J) J J <| dq rfl (fun _ _ => Q_move J) J J ?_
           obtain ⟨q132, hq132, hB106⟩ := bnd hB106
           refine d1 (de J (E_call fn89 J (c_89 H gle   hq132)) J J ?_)
           rintro _ wd133 ⟨x134, x135, x136, x137, rfl, rfl, H⟩
           try dsimp only at hB106
           refine ⟨H.okS (by simp), ?_⟩
           obtain ⟨q138, hq138, hB106⟩ := bnd hB106
           refine d1 (de J (E_call fn90 J (c_90 H gle   hq138)) J J ?_)
           rintro _ wd139 ⟨x140, x141, x142, x143, rfl, rfl, H⟩
           try dsimp only at hB106
           refine ⟨H.okS (by simp), ?_⟩
           refine dq (v := .agg #[uV x134, uV x135, uV x136, uV x137, uV x140, uV x141, uV x142, uV x143]) rfl (fun _ _ => Q_buildAF (zs := [uV 0, uV 0, uV 0, uV 0, uV 0, uV 0, uV 0, uV 0]) (res := [uV x134, uV x135, uV x136, uV x137, uV x140, uV x141, uV x142, uV x143]) (parts := [(0, .tmp 46), (1, .tmp 50)]) (ps := [(0, [uV x134, uV x135, uV x136, uV x137]), (4, [uV x140, uV x141, uV x142, uV x143])]) ty151 rfl Tryz.underlying151 ty39 rfl ⟨rfl, rfl, by simp, ⟨rfl, rfl, by simp, trivial⟩⟩ J) J J <| DL_nil <| x_then ?_
           obtain ⟨o144, ho144, hB106⟩ := bnd hB106
           refine C_cutQ (fun a w' => ∃ (v145 : Value) (c146 : (List Value)) (x147 : (List (Int × Int × Int × Int))), x147 = o144 ∧ rdL (eP (eI .u64) (eP (eI .u64) (eP (eI .u64) (eI .u64)))) ρ x147 c146 ∧ Fr 69 a [(4, .map (some b24)), (6, pV b85 0), (7, v145), (19, v1), (20, iV (x3.length : Int)), (21, iV x31), (37, v29), (38, iV (x32.length : Int)), (39, iV x101)] ∧ Hp C w' ρ (Arr v29 4 c30 :: Mp (kA 4 .u64) (Value.int .i64) b24 (mset (mset x33 ([x44.2.1.1, x44.2.1.2.1, x44.2.1.2.2.1, x44.2.1.2.2.2]) ((mget x33 ([x44.2.1.1, x44.2.1.2.1, x44.2.1.2.2.1, x44.2.1.2.2.2])).getD 0)) ([x44.2.1.1, x44.2.1.2.1, x44.2.1.2.2.1, x44.2.1.2.2.2]) (w64 (((mget x33 ([x44.2.1.1, x44.2.1.2.1, x44.2.1.2.2.1, x44.2.1.2.2.2])).getD 0) + 1))) :: Box b85 [v56, uV x44.2.1.1, uV x44.2.1.2.1, uV x44.2.1.2.2.1, uV x44.2.1.2.2.2, iV x44.2.2.1, iV x44.2.2.2] :: Arr v145 4 c146 :: hs)) ?_ ?_
           ·refine C_block ?_
            replace H := H.e0
            refine C_iter (f := fun s => F_38 N x134 x135 x136 x137 x140 x141 x142 x143 s.1 s.2) ho144 (fun s a w' => ∃ (v148 : Value) (c149 : (List Value)) (x150 : Int) (x151 : (List (Int × Int × Int × Int))), (x150, x151) = s ∧ rdL (eP (eI .u64) (eP (eI .u64) (eP (eI .u64) (eI .u64)))) ρ x151 c149 ∧ Fr 69 a [(4, .map (some b24)), (6, pV b85 0), (7, v148), (19, v1), (20, iV (x3.length : Int)), (21, iV x31), (37, v29), (38, iV (x32.length : Int)), (39, iV x101), (51, .agg #[uV x134, uV x135, uV x136, uV x137, uV x140, uV x141, uV x142, uV x143]), (52, iV x150)] ∧ Hp C w' ρ (Arr v29 4 c30 :: Mp (kA 4 .u64) (Value.int .i64) b24 (mset (mset x33 ([x44.2.1.1, x44.2.1.2.1, x44.2.1.2.2.1, x44.2.1.2.2.2]) ((mget x33 ([x44.2.1.1, x44.2.1.2.1, x44.2.1.2.2.1, x44.2.1.2.2.2])).getD 0)) ([x44.2.1.1, x44.2.1.2.1, x44.2.1.2.2.1, x44.2.1.2.2.2]) (w64 (((mget x33 ([x44.2.1.1, x44.2.1.2.1, x44.2.1.2.2.1, x44.2.1.2.2.2])).getD 0) + 1))) :: Box b85 [v56, uV x44.2.1.1, uV x44.2.1.2.1, uV x44.2.1.2.2.1, uV x44.2.1.2.2.2, iV x44.2.2.1, iV x44.2.2.2] :: Arr v148 4 c149 :: hs)) ?_ ?_
            ·exact fun a hf => ⟨v99, c100, 0, x102, J, r105, hf.sub ⟨J, J, J, J, J, J, J, J, J, J, J, trivial⟩, H⟩
            ·rintro s o152 a wd153 ⟨v148, c149, x150, x151, rfl, r154, hf, H⟩ hB155 hO156
             replace hB155 : F_38 N x134 x135 x136 x137 x140 x141 x142 x143 x150 x151 = some o152 := hB155
             unfold F_38 at hB155
             refine CW.at hf <| sr <| nq (Q_lss J J) J J <| WL_nil <| x_then <| C_seq ?_
             refine C_cond J (fun hb => ?_) (fun hb => ?_)
             ·replace hB155 := itT hb hB155
              refine C_skip <| x_then ?_
              obtain ⟨o157, ho157, hB155⟩ := bnd hB155
              refine C_cut (fun a w' => ∃ (v158 : Value) (c159 : (List Value)) (x160 : (List (Int × Int × Int × Int))), x160 = o157 ∧ rdL (eP (eI .u64) (eP (eI .u64) (eP (eI .u64) (eI .u64)))) ρ x160 c159 ∧ Fr 69 a [(4, .map (some b24)), (6, pV b85 0), (7, v158), (19, v1), (20, iV (x3.length : Int)), (21, iV x31), (37, v29), (38, iV (x32.length : Int)), (39, iV x101), (51, .agg #[uV x134, uV x135, uV x136, uV x137, uV x140, uV x141, uV x142, uV x143]), (52, iV x150)] ∧ Hp C w' ρ (Arr v29 4 c30 :: Mp (kA 4 .u64) (Value.int .i64) b24 (mset (mset x33 ([x44.2.1.1, x44.2.1.2.1, x44.2.1.2.2.1, x44.2.1.2.2.2]) ((mget x33 ([x44.2.1.1, x44.2.1.2.1, x44.2.1.2.2.1, x44.2.1.2.2.2])).getD 0)) ([x44.2.1.1, x44.2.1.2.1, x44.2.1.2.2.1, x44.2.1.2.2.2]) (w64 (((mget x33 ([x44.2.1.1, x44.2.1.2.1, x44.2.1.2.2.1, x44.2.1.2.2.2])).getD 0) + 1))) :: Box b85 [v56, uV x44.2.1.1, uV x44.2.1.2.1, uV x44.2.1.2.2.1, uV x44.2.1.2.2.2, iV x44.2.2.1, iV x44.2.2.2] :: Arr v158 4 c159 :: hs)) ?_ ?_
              ·refine C_block <| C_seq <| R_nd ?_
               obtain ⟨x161, hx161, ho157⟩ := bnd ho157
               refine nq (v := .agg #[uV x161.1, uV x161.2.1, uV x161.2.2.1, uV x161.2.2.2]) (Q_ixN (xs := [(x134, x135, x136, x137), (x140, x141, x142, x143)]) (fun y => [uV y.1, uV y.2.1, uV y.2.2.1, uV y.2.2.2]) (fun _ => J) J hx161 Tryz.underlying151 J J ty39) J J <| ne (E_alloc H ty39 (zs := [uV 0, uV 0, uV 0, uV 0]) J) J J ?_
               rintro _ wd162 ⟨b163, rfl, H⟩
               refine ne (E_stB (k := 0) (cs := [uV x161.1, uV x161.2.1, uV x161.2.2.1, uV x161.2.2.2]) (vs' := [uV x161.1, uV x161.2.1, uV x161.2.2.1, uV x161.2.2.2]) H rfl ty39 J J J rfl (one_cons rfl (one_cons rfl (one_cons rfl (one_cons rfl one_nil)))) (by simp) J) J J ?_
               rintro _ wd164 H
               dsimp only [List.set] at H
               refine WL_nil <| xs <| nq (v := .agg #[uV x161.1, uV x161.2.1, uV x161.2.2.1, uV x161.2.2.2]) (Q_ldB (k := 0) (cs := [uV x161.1, uV x161.2.1, uV x161.2.2.1, uV x161.2.2.2]) H.ok J ty39 J J J (fun h => nomatch h) J) J J ?_
               obtain ⟨q165, hq165, ho157⟩ := bnd ho157
               refine ne (E_call fn75 J (c_75 H gle   hq165)) J J ?_
               rintro _ wd166 ⟨rfl, rfl, H⟩
               try dsimp only at ho157
               refine nq (Q_not J) J J <| WL_nil <| x_then ?_
               obtain ⟨o167, ho167, ho157⟩ := bnd ho157
               refine C_cutQ (fun a w' => ∃ (v168 : Value) (c169 : (List Value)) (x170 : (List (Int × Int × Int × Int))), x170 = o167 ∧ rdL (eP (eI .u64) (eP (eI .u64) (eP (eI .u64) (eI .u64)))) ρ x170 c169 ∧ Fr 69 a [(4, .map (some b24)), (6, pV b85 0), (7, v168), (19, v1), (20, iV (x3.length : Int)), (21, iV x31), (37, v29), (38, iV (x32.length : Int)), (39, iV x101), (51, .agg #[uV x134, uV x135, uV x136, uV x137, uV x140, uV x141, uV x142, uV x143]), (52, iV x150)] ∧ Hp C w' ρ (Arr v29 4 c30 :: Mp (kA 4 .u64) (Value.int .i64) b24 (mset (mset x33 ([x44.2.1.1, x44.2.1.2.1, x44.2.1.2.2.1, x44.2.1.2.2.2]) ((mget x33 ([x44.2.1.1, x44.2.1.2.1, x44.2.1.2.2.1, x44.2.1.2.2.2])).getD 0)) ([x44.2.1.1, x44.2.1.2.1, x44.2.1.2.2.1, x44.2.1.2.2.2]) (w64 (((mget x33 ([x44.2.1.1, x44.2.1.2.1, x44.2.1.2.2.1, x44.2.1.2.2.2])).getD 0) + 1))) :: Box b85 [v56, uV x44.2.1.1, uV x44.2.1.2.1, uV x44.2.1.2.2.1, uV x44.2.1.2.2.2, iV x44.2.2.1, iV x44.2.2.2] :: Arr v168 4 c169 :: hs)) ?_ ?_
               ·refine C_cond J (fun hb => ?_) (fun hb => ?_)
                ·replace ho167 := itT hb ho167
                 refine R_nd <| qm J J <| nq (v := .agg #[uV x161.1, uV x161.2.1, uV x161.2.2.1, uV x161.2.2.2]) (Q_ldB (k := 0) (cs := [uV x161.1, uV x161.2.1, uV x161.2.2.1, uV x161.2.2.2]) H.ok rfl ty39 J J rfl (fun h => nomatch h) J) J J <| ne (E_bslice (xs := [.tmp 59]) (vs := [.agg #[uV x161.1, uV x161.2.1, uV x161.2.2.1, uV x161.2.2.2]]) H Tryz.underlying72 ty39 (by decide) (cs := [uV x161.1, uV x161.2.1, uV x161.2.2.1, uV x161.2.2.2]) rfl (sz_cons rfl sz_nil) rfl (by simp) (by simp) J J) J J ?_
                 rintro _ wd171 ⟨b172, rfl, H⟩
                 obtain ⟨x173, hx173, ho167⟩ := bnd ho167
                 obtain ⟨ha69895a, ha69895b⟩ := app_some hx173
                 have r174 : rdL (eP (eI .u64) (eP (eI .u64) (eP (eI .u64) (eI .u64)))) ρ x173 (c149 ++ ([uV x161.1, uV x161.2.1, uV x161.2.2.1, uV x161.2.2.2])) := ha69895b ▸ rdL.app r154 (show rdL (eP (eI .u64) (eP (eI .u64) (eP (eI .u64) (eI .u64)))) ρ ([(x161.1, x161.2.1, x161.2.2.1, x161.2.2.2)]) ([uV x161.1, uV x161.2.1, uV x161.2.2.1, uV x161.2.2.2]) from ⟨([uV x161.1, uV x161.2.1, uV x161.2.2.1, uV x161.2.2.2]), _, rfl, ⟨[uV x161.1], _, rfl, rfl, ⟨[uV x161.2.1], _, rfl, rfl, ⟨[uV x161.2.2.1], _, rfl, rfl, rfl⟩⟩⟩, rdL.nil⟩)
                 refine ne (E_append (k := 5) H rfl Tryz.underlying72 ty39 rfl (by decide) (by decide) J rfl (Src.ofArr (k := 0) H.ok rfl) (rdL.one (show rdL (eP (eI .u64) (eP (eI .u64) (eP (eI .u64) (eI .u64)))) ρ ([(x161.1, x161.2.1, x161.2.2.1, x161.2.2.2)]) ([uV x161.1, uV x161.2.1, uV x161.2.2.1, uV x161.2.2.2]) from ⟨([uV x161.1, uV x161.2.1, uV x161.2.2.1, uV x161.2.2.2]), _, rfl, ⟨[uV x161.1], _, rfl, rfl, ⟨[uV x161.2.1], _, rfl, rfl, ⟨[uV x161.2.2.1], _, rfl, rfl, rfl⟩⟩⟩, rdL.nil⟩)) (app_fit r154 (show rdL (eP (eI .u64) (eP (eI .u64) (eP (eI .u64) (eI .u64)))) ρ ([(x161.1, x161.2.1, x161.2.2.1, x161.2.2.2)]) ([uV x161.1, uV x161.2.1, uV x161.2.2.1, uV x161.2.2.2]) from ⟨([uV x161.1, uV x161.2.1, uV x161.2.2.1, uV x161.2.2.2]), _, rfl, ⟨[uV x161.1], _, rfl, rfl, ⟨[uV x161.2.1], _, rfl, rfl, ⟨[uV x161.2.2.1], _, rfl, rfl, rfl⟩⟩⟩, rdL.nil⟩) ha69895a)) J J ?_
                 rintro v175 wd176 ⟨H, hc177⟩
                 dsimp only [List.set] at H
                 refine nq (Q_assign J) J J <| WL_nil ?_
                 replace H := H.e1.e0
                 obtain rfl := oi ho167
                 refine x_A fun a hf => ⟨v175, (c149 ++ ([uV x161.1, uV x161.2.1, uV x161.2.2.1, uV x161.2.2.2])), x173, J, r174, hf.sub ⟨J, J, J, J, J, J, J, J, J, J, J, trivial⟩, H⟩
                ·replace ho167 := itF hb ho167
                 refine C_skip ?_
                 replace H := H.e0
                 obtain rfl := oi ho167
                 refine x_A fun a hf => ⟨v148, c149, x151, J, r154, hf.sub ⟨J, J, J, J, J, J, J, J, J, J, J, trivial⟩, H⟩
               ·rintro a wd178 ⟨v168, c169, x170, rfl, r179, hf, H⟩
                try dsimp only at ho157
                refine XX.at hf <| x_block ?_
                obtain rfl := oi ho157
                refine x_A fun a hf => ⟨v168, c169, x170, J, r179, hf.sub ⟨J, J, J, J, J, J, J, J, J, J, J, trivial⟩, H⟩
              ·rintro a wd180 ⟨v158, c159, x160, rfl, r181, hf, H⟩
               try dsimp only at hB155
               refine CW.at hf <| R_nd <| nq (Q_add J J) J J <| qm J J <| WL_nil ?_
               obtain rfl := oi hB155
               refine x_A fun a hf => ⟨_, J, v158, c159, w64 (x150 + 1), x160, J, r181, hf.sub ⟨J, J, J, J, J, J, J, J, J, J, J, trivial⟩, H⟩
             ·replace hB155 := itF hb hB155
              refine C_exit <| x_then_exit <| x_then_exit <| x_block_exit ?_
              obtain rfl := oi hB155
              obtain rfl := hO156 _ rfl
              refine x_A fun a hf => ⟨v148, c149, x151, J, r154, hf.sub ⟨J, J, J, J, J, J, J, J, J, trivial⟩, H⟩
           ·rintro a wd182 ⟨v145, c146, x147, rfl, r183, hf, H⟩
            try dsimp only at hB106
            refine XX.at hf <| x_block <| x_then <| R_nd <| nq (Q_add J J) J J <| qm J J <| WL_nil ?_
            obtain rfl := oi hB106
            refine x_A fun a hf => ⟨_, J, v145, c146, w64 (x101 + 1), x147, J, r183, hf.sub ⟨J, J, J, J, J, J, J, J, J, trivial⟩, H⟩
          ·replace hB106 := itF hb hB106
           refine C_exit <| x_then_exit <| x_then_exit <| x_block_exit ?_
           replace H := H.e2.e0
           obtain rfl := oi hB106
           obtain rfl := hO107 _ rfl
           refine x_A fun a hf => ⟨v99, c100, x102, J, r105, hf.sub ⟨J, J, J, J, J, trivial⟩, H⟩
        ·rintro a wd184 ⟨v96, c97, x98, rfl, r185, hf, H⟩
         try dsimp only at ho39
         refine XX.at hf <| x_then <| R_nd <| qm J J <| nq (Q_assign J) J J <| WL_nil <| x_block ?_
         replace H := H.f1
         obtain rfl := oi ho39
         refine x_A fun a hf => ⟨v96, c97, x98, (mset (mset x33 ([x44.2.1.1, x44.2.1.2.1, x44.2.1.2.2.1, x44.2.1.2.2.2]) ((mget x33 ([x44.2.1.1, x44.2.1.2.1, x44.2.1.2.2.1, x44.2.1.2.2.2])).getD 0)) ([x44.2.1.1, x44.2.1.2.1, x44.2.1.2.2.1, x44.2.1.2.2.2]) (w64 (((mget x33 ([x44.2.1.1, x44.2.1.2.1, x44.2.1.2.2.1, x44.2.1.2.2.2])).getD 0) + 1))), J, r185, hf.sub ⟨J, J, J, J, J, trivial⟩, H⟩
     ·rintro a wd186 ⟨v40, c41, x42, x43, rfl, r187, hf, H⟩
      try dsimp only at hB37
      refine CW.at hf <| R_nd <| nq (Q_add J J) J J <| qm J J <| WL_nil ?_
      obtain rfl := oi hB37
      refine x_A fun a hf => ⟨_, J, v40, c41, w64 (x31 + 1), x42, x43, J, r187, hf.sub ⟨J, J, J, J, J, trivial⟩, H⟩
    ·replace hB37 := itF hb hB37
     refine C_exit <| x_then_exit <| x_then_exit <| x_block_exit ?_
     replace H := H.e1
     obtain rfl := oi hB37
     obtain rfl := hO38 _ rfl
     refine x_A fun a hf => ⟨v29, c30, x32, J, r36, hf.sub ⟨J, trivial⟩, H⟩
  ·rintro a wd188 ⟨v26, c27, x28, rfl, r189, hf, H⟩
   try dsimp only at hF
   refine XX.at hf <| xs <| qm J J ?_
   obtain ⟨x190, hx190, hF⟩ := bnd hF
   refine ne (E_call fn91 J (c_91 H gle gl18 r189 hx190)) J J ?_
   rintro _ wd191 ⟨rfl, r192, H⟩
   refine WL_nil <| xs <| qm J J <| qa J J <| C_ret ?_
   obtain rfl := oi hF
   exact fn_ret (l := [.tmp 2]) (vs := [v26]) J J J ⟨v26, (x190.flatMap raw4), x190, J, J, r192, H⟩
theorem c_87_2 {N : Nat} {C : Cx} {w : World} {ρ : View} {hs : List Hl} {gV : Nat → Value} {b1 : Nat} {c2 : List Value} {x3 : ((List Int) × Int)} (H : Hp C w ρ (hs)) (_gle : GErrs ρ 394 errIds gV) (hc4 : (eP (eL (eI .u64)) (eI .i64)).rd ρ x3 c2) (ha5 : cellsAt ρ b1 0 c2) {r : Unit} (hF : F_103 N x3 = some r) :
  Calls Tryz.prog 87 [pV b1 0].toArray w (Rets (fun v w' => (() = r ∧ iV x3.2 = v ∧ Hp C w' ρ (hs)))) := by
 unfold F_103 at hF
 have h0 : Tryz.f87.body = some _ := rfl
 refine fn_calls' Tryz.func87 h0 (n := 9) rfl (by simp) <| sr <| qa J J <| C_seq <| sr <| qm J J <| nq (v := .bool false) (Q_eqlP (o := (some ⟨b1, 0, none⟩)) Tryz.underlying51 J) J J <| WL_nil <| x_then ?_
 refine C_cond J (fun h => nomatch h) (fun _ => ?_)
 refine C_skip <| xs <| qm J J <| nq (Q_nilP J) J J <| nq (v := .pointer (some ⟨b1, 0 + 1, none⟩)) (Q_fld Tryz.underlying139 rfl ty3 (by decide) rfl (Addr.add_none _ _ _)) J J ?_
 obtain ⟨c6, hc7, ha8⟩ := sndR hc4 ha5
 refine nq (v := iV x3.2) (Q_ld (show cellsAt _ _ _ [iV x3.2] from (show _ = [_] from hc7) ▸ (ha8.up H.ok.view)) ty3 J (fun _ => J) J J) J J <| qa J J <| C_ret ?_
 obtain rfl := oi hF
 exact fn_ret (l := [.tmp 2]) (vs := [iV x3.2]) J J J ⟨J, J, H⟩
theorem c_131_2 {N : Nat} {C : Cx} {w : World} {ρ : View} {hs : List Hl} {gV : Nat → Value} {b1 : Nat} {c2 : List Value} {x3 : ((List Int) × Int)} (H : Hp C w ρ (hs)) (_gle : GErrs ρ 394 errIds gV) (hc4 : (eP (eL (eI .u64)) (eI .i64)).rd ρ x3 c2) (ha5 : cellsAt ρ b1 0 c2) {r : (List Int)} (hF : F_104 N x3 = some r) :
  Calls Tryz.prog 131 [pV b1 0].toArray w (Rets (fun v w' => (∃ (v6 : Value) (x7 : (List Int)), x7 = r ∧ v6 = v ∧ RdSl ρ (eI .u64) v6 x7 ∧ Hp C w' ρ (hs)))) := by
 unfold F_104 at hF
 have h0 : Tryz.f131.body = some _ := rfl
 refine fn_calls' Tryz.func131 h0 (n := 9) rfl (by simp) <| sr <| qa J J <| C_seq <| sr <| qm J J <| nq (v := .bool false) (Q_eqlP (o := (some ⟨b1, 0, none⟩)) Tryz.underlying51 J) J J <| WL_nil <| x_then ?_
 refine C_cond J (fun h => nomatch h) (fun _ => ?_)
 refine C_skip <| xs <| qm J J <| nq (Q_nilP J) J J <| nq (v := .pointer (some ⟨b1, 0 + 0, none⟩)) (Q_fld Tryz.underlying139 rfl ty137 (by decide) rfl (Addr.add_none _ _ _)) J J ?_
 obtain ⟨c8, hc9, ha10⟩ := fstR hc4 ha5
 obtain ⟨v11, he12, r13⟩ := (id hc9)
 refine nq (v := v11) (Q_ld (show cellsAt _ _ _ [v11] from he12 ▸ (ha10.up H.ok.view)) ty137 J (fun _ => J) J J) J J <| qa J J <| C_ret ?_
 obtain rfl := oi hF
 exact fn_ret (l := [.tmp 2]) (vs := [v11]) J J J ⟨v11, x3.1, J, J, r13, H⟩
theorem c_83_2 {N : Nat} {C : Cx} {w : World} {ρ : View} {hs : List Hl} {gV : Nat → Value} {b1 : Nat} {c2 : List Value} {x3 : ((List Int) × Int)} {x4 : Int} (H : Hp C w ρ (hs)) (gle : GErrs ρ 394 errIds gV) (gl18 : GTab ρ 18 .u8 tab_math_bits_deBruijn64tab) (hc5 : (eP (eL (eI .u64)) (eI .i64)).rd ρ x3 c2) (ha6 : cellsAt ρ b1 0 c2) {r : Int} (hF : F_29 N x3 x4 = some r) :
  Calls Tryz.prog 83 [pV b1 0, iV x4].toArray w (Rets (fun v w' => (∃ (x7 : Int), x7 = r ∧ iV x7 = v ∧ Hp C w' ρ (hs)))) := by
 unfold F_29 at hF
 have h0 : Tryz.f83.body = some _ := rfl
 refine fn_calls' Tryz.func83 h0 (n := 48) rfl (by simp) <| sr <| qa J J <| C_seq <| sr <| qm J J <| qm J J ?_
 obtain ⟨q8, hq8, hF⟩ := bnd hF
 refine ne (E_call fn87 J (c_87_2 H gle  hc5 ha6 hq8)) J J ?_
 rintro _ wd9 ⟨rfl, rfl, H⟩
 try dsimp only at hF
 refine nq (Q_geq J J) J J <| WL_nil <| x_then ?_
 refine C_cond J (fun hb => ?_) (fun hb => ?_)
 ·replace hF := itT hb hF
  refine sr <| qa J J <| C_ret <| x_then_ret ?_
  obtain rfl := oi hF
  exact fn_ret (l := [.tmp 4]) (vs := [iV (-1)]) J J J ⟨(-1), J, J, H⟩
 ·replace hF := itF hb hF
  refine C_skip <| xs <| qm J J <| nq (v := iV (imax x4 (-1))) (Q_max J J) J J <| nq (Q_add J J) J J <| qa J J <| C_seq <| sr <| qm J J ?_
  refine nq (Q_quo J rfl (by decide)) J J <| qa J J ?_
  obtain ⟨o10, ho10, hF⟩ := bnd hF
  refine C_cutQ (fun a w' => .inl () = o10 ∧ Fr 48 a [] ∧ Hp C w' ρ (hs)) ?_ ?_
  ·refine C_block ?_
   refine C_iter (f := fun s => F_99 N x3 x4 s) ho10 (fun s a w' => ∃ (x11 : Int), x11 = s ∧ Fr 48 a [(0, pV b1 0), (1, iV (w64 ((imax x4 (-1)) + 1))), (5, iV x11)] ∧ Hp C w' ρ (hs)) ?_ ?_
   ·exact fun a hf => ⟨w64 ((w64 ((imax x4 (-1)) + 1)).tdiv 64), J, hf.sub ⟨J, J, J, trivial⟩, H⟩
   ·rintro s o12 a wd13 ⟨x11, rfl, hf, H⟩ hB14 hO15
    replace hB14 : F_99 N x3 x4 x11 = some o12 := hB14
    unfold F_99 at hB14
    refine CW.at hf <| C_seq <| sr <| qm J J <| qm J J ?_
    obtain ⟨q16, hq16, hB14⟩ := bnd hB14
    refine ne (E_call fn131 J (c_131_2 H gle  hc5 ha6 hq16)) J J ?_
    rintro _ wd17 ⟨v18, x19, rfl, rfl, r20, H⟩
    try dsimp only at hB14
    refine nq (Q_len Tryz.underlying137 J r20) J J <| nq (Q_lss J J) J J <| WL_nil <| x_then ?_
    refine C_cond J (fun hb => ?_) (fun hb => ?_)
    ·replace hB14 := itT hb hB14
     refine C_skip <| x_then ?_
     obtain ⟨o21, ho21, hB14⟩ := bnd hB14
     refine C_cut (fun a w' => .inl () = o21 ∧ Fr 48 a [(0, pV b1 0), (1, iV (w64 ((imax x4 (-1)) + 1))), (5, iV x11)] ∧ Hp C w' ρ (hs)) ?_ ?_
     ·refine C_block <| sr <| qm J J <| nq (Q_nilP J) J J <| nq (v := .pointer (some ⟨b1, 0 + 0, none⟩)) (Q_fld Tryz.underlying139 rfl ty137 (by decide) rfl (Addr.add_none _ _ _)) J J ?_
      obtain ⟨c22, hc23, ha24⟩ := fstR hc5 ha6
      obtain ⟨v25, he26, r27⟩ := (id hc23)
      refine nq (v := v25) (Q_ld (show cellsAt _ _ _ [v25] from he26 ▸ (ha24.up H.ok.view)) ty137 J (fun _ => J) J J) J J <| qm J J ?_
      obtain ⟨x28, hx28, ho21⟩ := bnd ho21
      obtain ⟨b29, o30, c31, hc32, ha33, hi34⟩ := idxR r27 hx28
      refine nq (Q_idx hi34 Tryz.underlying137 ty37 J J) J J <| nq (v := uV x28) (Q_ld (show cellsAt _ _ _ [uV x28] from (show _ = [_] from hc32) ▸ (ha33.up H.ok.view)) ty37 rfl (fun _ => J) J J) J J <| qa J J <| C_seq <| sr <| qm J J <| qm J J <| nq (Q_quo J rfl (by decide)) J J <| nq (Q_eql J J) J J <| WL_nil <| x_then ?_
      obtain ⟨o35, ho35, ho21⟩ := bnd ho21
      refine C_cutQ (fun a w' => ∃ (x36 : Int), x36 = o35 ∧ Fr 48 a [(0, pV b1 0), (1, iV (w64 ((imax x4 (-1)) + 1))), (5, iV x11), (6, uV x36)] ∧ Hp C w' ρ (hs)) ?_ ?_
      ·refine C_cond J (fun hb => ?_) (fun hb => ?_)
       ·replace ho35 := itT hb ho35
        refine R_nd <| qm J J <| qm J J <| nq (Q_rem J rfl (by decide)) J J ?_
        obtain ⟨x37, hx37, ho35⟩ := bnd ho35
        refine nq (Q_shr J rfl (nn_some hx37)) J J <| qm J J <| nq (Q_rem J rfl (by decide)) J J ?_
        obtain ⟨x38, hx38, ho35⟩ := bnd ho35
        refine nq (Q_shl J J (nn_some hx38)) J J <| nq (Q_assign J) J J <| WL_nil ?_
        obtain rfl := oi ho35
        refine x_A fun a hf => ⟨shlI .u64 (shrI .u64 x28 ((w64 ((imax x4 (-1)) + 1)).tmod 64)) ((w64 ((imax x4 (-1)) + 1)).tmod 64), J, hf.sub ⟨J, J, J, J, trivial⟩, H⟩
       ·replace ho35 := itF hb ho35
        refine C_skip ?_
        obtain rfl := oi ho35
        refine x_A fun a hf => ⟨x28, J, hf.sub ⟨J, J, J, J, trivial⟩, H⟩
      ·rintro a wd39 ⟨x36, rfl, hf, H⟩
       try dsimp only at ho21
       refine XX.at hf <| xs <| qm J J <| nq (Q_neq J J) J J <| WL_nil <| x_then ?_
       refine C_cond J (fun hb => ?_) (fun hb => ?_)
       ·replace ho21 := itT hb ho21
        refine sr <| qm J J <| nq (Q_mul J J) J J <| qm J J ?_
        obtain ⟨q40, hq40, ho21⟩ := bnd ho21
        refine ne (E_call fn132 J (c_132 H gle gl18  hq40)) J J ?_
        rintro _ wd41 ⟨x42, rfl, rfl, H⟩
        try dsimp only at ho21
        refine nq (Q_add J J) J J <| qa J J <| C_ret <| x_block_ret <| x_then_ret <| x_then_ret <| x_block_ret <| x_then_ret <| x_then_ret ?_
        obtain rfl := oi ho21
        obtain rfl := oi (show some _ = some _ from hB14)
        obtain rfl := hO15 _ rfl
        obtain rfl := oi (show some _ = some _ from hF)
        exact fn_ret (l := [.tmp 4]) (vs := [iV (w64 ((w64 (64 * x11)) + x42))]) J J J ⟨w64 ((w64 (64 * x11)) + x42), J, J, H⟩
       ·replace ho21 := itF hb ho21
        refine C_skip <| x_block ?_
        obtain rfl := oi ho21
        refine x_A fun a hf => ⟨J, hf.sub ⟨J, J, J, trivial⟩, H⟩
     ·rintro a wd43 ⟨rfl, hf, H⟩
      try dsimp only at hB14
      refine CW.at hf <| R_nd <| qm J J <| nq (Q_add J J) J J <| nq (Q_assign J) J J <| WL_nil ?_
      obtain rfl := oi hB14
      refine x_A fun a hf => ⟨_, J, w64 (x11 + 1), J, hf.sub ⟨J, J, J, trivial⟩, H⟩
    ·replace hB14 := itF hb hB14
     refine C_exit <| x_then_exit <| x_then_exit <| x_block_exit ?_
     obtain rfl := oi hB14
     obtain rfl := hO15 _ rfl
     refine x_A fun a hf => ⟨J, hf.sub trivial, H⟩
  ·rintro a wd44 ⟨rfl, hf, H⟩
   try dsimp only at hF
   refine XX.at hf <| xs <| qa J J <| C_ret ?_
   obtain rfl := oi hF
   exact fn_ret (l := [.tmp 4]) (vs := [iV (-1)]) J J J ⟨(-1), J, J, H⟩
theorem c_85_1 {N : Nat} {C : Cx} {w : World} {ρ : View} {hs : List Hl} {gV : Nat → Value} {v1 : Value} {v2 : Value} {b3 : Nat} {c4 : List Value} {x5 : (List ((List Int) × (Int × Int × Int × Int) × Int × Int))} {x6 : (List Int)} {x7 : ((List Int) × Int)} (H : Hp C w ρ (hs)) (gle : GErrs ρ 394 errIds gV) (gl18 : GTab ρ 18 .u8 tab_math_bits_deBruijn64tab) (r8 : RdSl ρ (eP (eL (eI .i64)) (eP (eP (eI .u64) (eP (eI .u64) (eP (eI .u64) (eI .u64)))) (eP (eI .i64) (eI .i64)))) v1 x5) (_r6 : RdSl ρ (eI .i64) v2 x6) (hc9 : (eP (eL (eI .u64)) (eI .i64)).rd ρ x7 c4) (ha10 : cellsAt ρ b3 0 c4) {r : Int} (hF : F_46 N x5 x6 x7 = some r) :
  Calls Tryz.prog 85 [.agg #[v1, v2], pV b3 0].toArray w (Rets (fun v w' => (∃ (x11 : Int), x11 = r ∧ iV x11 = v ∧ Hp C w' ρ (hs)))) := by
 unfold F_46 at hF
 have h0 : Tryz.f85.body = some _ := rfl
 refine fn_calls' Tryz.func85 h0 (n := 43) rfl (by simp) <| sr <| ne (E_box H (vs := [v1, v2]) J J) J J ?_
 rintro _ wd12 ⟨b13, rfl, H⟩
 refine qa J J <| sr <| qa J J <| C_seq <| sr <| qm J J ?_
 obtain ⟨q14, hq14, hF⟩ := bnd hF
 refine ne (E_call fn83 J (c_83_2 H gle gl18 hc9 ha10 hq14)) J J ?_
 rintro _ wd15 ⟨x16, rfl, rfl, H⟩
 try dsimp only at hF
 refine qa J J ?_
 obtain ⟨o17, ho17, hF⟩ := bnd hF
 refine C_cutQ (fun a w' => ∃ (x18 : Int), x18 = o17 ∧ Fr 43 a [(5, iV x18)] ∧ Hp C w' ρ (hs)) ?_ ?_
 ·refine C_block ?_
  refine C_iter (f := fun s => F_101 N x5 x7 s.1 s.2) ho17 (fun s a w' => ∃ (x19 : Int) (x20 : Int), (x19, x20) = s ∧ Fr 43 a [(1, pV b3 0), (2, pV b13 0), (5, iV x19), (6, iV x20)] ∧ Hp C w' ρ (Box b13 [v1, v2] :: hs)) ?_ ?_
  ·exact fun a hf => ⟨(-1), x16, J, hf.sub ⟨J, J, J, J, trivial⟩, H⟩
  ·rintro s o21 a wd22 ⟨x19, x20, rfl, hf, H⟩ hB23 hO24
   replace hB23 : F_101 N x5 x7 x19 x20 = some o21 := hB23
   unfold F_101 at hB23
   refine CW.at hf <| C_seq ?_
   obtain ⟨o25, ho25, hB23⟩ := bnd hB23
   refine C_cut (fun a w' => ∃ (x26 : Bool), x26 = o25 ∧ Fr 43 a [(1, pV b3 0), (2, pV b13 0), (5, iV x19), (6, iV x20), (19, .bool x26)] ∧ Hp C w' ρ (Box b13 [v1, v2] :: hs)) ?_ ?_
   ·refine R_nd <| qm J J <| nq (Q_geq J J) J J <| qm J J ?_
    rcases Bool.eq_false_or_eq_true (decide (x20 ≥ 0)) with hb | hb
    ·rw [hb]
     replace ho25 := itT hb ho25
     refine gq (Q_move J) J J J <| gq (v := pV b13 0) (Q_fld Tryz.underlying135 rfl ty25 (by decide) J J) J J J <| gq (v := pV b13 0) (Q_fld Tryz.underlying25 rfl ty22 (by decide) J J) J J J <| gq (v := v1) (Q_ldB (k := 0) (cs := [v1]) H.ok rfl ty22 J J rfl (fun _ => J) J) J J J <| gq (Q_len Tryz.underlying22 rfl r8) J J J <| gq (Q_lss J J) J J J <| nq (Q_pickT J J) J J <| WL_nil ?_
     obtain rfl := oi ho25
     refine x_A fun a hf => ⟨decide (x20 < (x5.length : Int)), J, hf.sub ⟨J, J, J, J, J, trivial⟩, H⟩
    ·rw [hb]
     replace ho25 := itF hb ho25
     refine gs J J J J <| gs J J J J <| gs J J J J <| gs J J J J <| gs J J J J <| gs J J J J <| nq (Q_pickF J J) J J <| WL_nil ?_
     obtain rfl := oi ho25
     refine x_A fun a hf => ⟨false, J, hf.sub ⟨J, J, J, J, J, trivial⟩, H⟩
   ·rintro a wd27 ⟨x26, rfl, hf, H⟩
    try dsimp only at hB23
    refine CW.at hf ?_
    refine C_cond J (fun hb => ?_) (fun hb => ?_)
    ·replace hB23 := itT hb hB23
     refine C_skip <| x_then ?_
     obtain ⟨o28, ho28, hB23⟩ := bnd hB23
     refine C_cut (fun a w' => ∃ (x29 : Int), x29 = o28 ∧ Fr 43 a [(1, pV b3 0), (2, pV b13 0), (5, iV x29), (6, iV x20)] ∧ Hp C w' ρ (Box b13 [v1, v2] :: hs)) ?_ ?_
     ·refine C_block <| sr <| nq (v := pV b13 0) (Q_fld Tryz.underlying135 rfl ty25 (by decide) J J) J J <| nq (v := pV b13 0) (Q_fld Tryz.underlying25 rfl ty22 (by decide) J J) J J <| nq (v := v1) (Q_ldB (k := 0) (cs := [v1]) H.ok rfl ty22 J J rfl (fun _ => J) J) J J <| qm J J ?_
      obtain ⟨x30, hx30, ho28⟩ := bnd ho28
      obtain ⟨b31, o32, c33, hc34, ha35, hi36⟩ := idxR r8 hx30
      refine nq (Q_idx hi36 Tryz.underlying22 ty41 J J) J J <| nq (v := .pointer (some ⟨b31, o32 + 6, none⟩)) (Q_fld Tryz.underlying41 rfl ty3 (by decide) rfl (Addr.add_none _ _ _)) J J ?_
      obtain ⟨c37, hc38, ha39⟩ := sndR hc34 ha35
      obtain ⟨c40, hc41, ha42⟩ := sndR hc38 ha39
      obtain ⟨c43, hc44, ha45⟩ := sndR hc41 ha42
      refine nq (v := iV x30.2.2.2) (Q_ld (show cellsAt _ _ _ [iV x30.2.2.2] from (show _ = [_] from hc44) ▸ (ha45.up H.ok.view)) ty3 J (fun _ => J) J J) J J <| qa J J ?_
      obtain ⟨o46, ho46, ho28⟩ := bnd ho28
      refine C_cut (fun a w' => ∃ (x47 : Bool), x47 = o46 ∧ Fr 43 a [(1, pV b3 0), (2, pV b13 0), (5, iV x19), (6, iV x20), (7, iV x30.2.2.2), (40, .bool x47)] ∧ Hp C w' ρ (Box b13 [v1, v2] :: hs)) ?_ ?_
      ·refine R_nd <| qm J J <| nq (Q_neq J J) J J <| qm J J ?_
       rcases Bool.eq_false_or_eq_true (x30.2.2.2 != (-1)) with hb | hb
       ·rw [hb]
        replace ho46 := itT hb ho46
        refine gq (Q_move J) J J J <| gq (Q_eql J J) J J J <| gq (Q_move J) J J J ?_
        rcases Bool.eq_false_or_eq_true (x19 == (-1)) with hb | hb
        ·rw [hb]
         replace ho46 := itT hb ho46
         refine gs J J J J <| gs J J J J <| gs J J J J <| gq (Q_pickT J J) J J J <| nq (Q_pickT J J) J J <| WL_nil ?_
         obtain rfl := oi ho46
         refine x_A fun a hf => ⟨true, J, hf.sub ⟨J, J, J, J, J, J, trivial⟩, H⟩
        ·rw [hb]
         replace ho46 := itF hb ho46
         refine gq (Q_move J) J J J <| gq (Q_move J) J J J <| gq (Q_lss J J) J J J <| gq (Q_pickF J J) J J J <| nq (Q_pickT J J) J J <| WL_nil ?_
         obtain rfl := oi ho46
         refine x_A fun a hf => ⟨decide (x30.2.2.2 < x19), J, hf.sub ⟨J, J, J, J, J, J, trivial⟩, H⟩
       ·rw [hb]
        replace ho46 := itF hb ho46
        refine gs J J J J <| gs J J J J <| gs J J J J <| gsu J ⟨_, _, J, J, J⟩ J <| gsu J ⟨_, _, J, J, J⟩ J <| gsu J ⟨_, _, J, J, J⟩ J <| gs J J J J <| nq (Q_pickF J J) J J <| WL_nil ?_
        obtain rfl := oi ho46
        refine x_A fun a hf => ⟨false, J, hf.sub ⟨J, J, J, J, J, J, trivial⟩, H⟩
      ·rintro a wd48 ⟨x47, rfl, hf, H⟩
       try dsimp only at ho28
       refine CW.at hf ?_
       obtain ⟨o49, ho49, ho28⟩ := bnd ho28
       refine C_cutQ (fun a w' => ∃ (x50 : Int), x50 = o49 ∧ Fr 43 a [(1, pV b3 0), (2, pV b13 0), (5, iV x50), (6, iV x20)] ∧ Hp C w' ρ (Box b13 [v1, v2] :: hs)) ?_ ?_
       ·refine C_cond J (fun hb => ?_) (fun hb => ?_)
        ·replace ho49 := itT hb ho49
         refine R_nd <| qm J J <| nq (Q_assign J) J J <| WL_nil ?_
         obtain rfl := oi ho49
         refine x_A fun a hf => ⟨x30.2.2.2, J, hf.sub ⟨J, J, J, J, trivial⟩, H⟩
        ·replace ho49 := itF hb ho49
         refine C_skip ?_
         obtain rfl := oi ho49
         refine x_A fun a hf => ⟨x19, J, hf.sub ⟨J, J, J, J, trivial⟩, H⟩
       ·rintro a wd51 ⟨x50, rfl, hf, H⟩
        try dsimp only at ho28
        refine XX.at hf <| x_block ?_
        obtain rfl := oi ho28
        refine x_A fun a hf => ⟨x50, J, hf.sub ⟨J, J, J, J, trivial⟩, H⟩
     ·rintro a wd52 ⟨x29, rfl, hf, H⟩
      try dsimp only at hB23
      refine CW.at hf <| R_nd <| qm J J <| qm J J ?_
      obtain ⟨q53, hq53, hB23⟩ := bnd hB23
      refine ne (E_call fn83 J (c_83_2 H gle gl18 hc9 ha10 hq53)) J J ?_
      rintro _ wd54 ⟨x55, rfl, rfl, H⟩
      try dsimp only at hB23
      refine nq (Q_assign J) J J <| WL_nil ?_
      obtain rfl := oi hB23
      refine x_A fun a hf => ⟨_, J, x29, x55, J, hf.sub ⟨J, J, J, J, trivial⟩, H⟩
    ·replace hB23 := itF hb hB23
     refine C_exit <| x_then_exit <| x_then_exit <| x_block_exit ?_
     replace H := H.e0
     obtain rfl := oi hB23
     obtain rfl := hO24 _ rfl
     refine x_A fun a hf => ⟨x19, J, hf.sub ⟨J, trivial⟩, H⟩
 ·rintro a wd56 ⟨x18, rfl, hf, H⟩
  try dsimp only at hF
  refine XX.at hf <| xs <| qm J J <| qa J J <| C_ret ?_
  obtain rfl := oi hF
  exact fn_ret (l := [.tmp 4]) (vs := [iV x18]) J J J ⟨x18, J, J, H⟩
theorem c_36_1 {N : Nat} {C : Cx} {w : World} {ρ : View} {hs : List Hl} {gV : Nat → Value} {v1 : Value} {v2 : Value} {b3 : Nat} {c4 : List Value} {x5 : (List ((List Int) × (Int × Int × Int × Int) × Int × Int))} {x6 : (List Int)} {x7 : ((List Int) × Int)} (H : Hp C w ρ (hs)) (gle : GErrs ρ 394 errIds gV) (gl18 : GTab ρ 18 .u8 tab_math_bits_deBruijn64tab) (r8 : RdSl ρ (eP (eL (eI .i64)) (eP (eP (eI .u64) (eP (eI .u64) (eP (eI .u64) (eI .u64)))) (eP (eI .i64) (eI .i64)))) v1 x5) (r9 : RdSl ρ (eI .i64) v2 x6) (hc10 : (eP (eL (eI .u64)) (eI .i64)).rd ρ x7 c4) (ha11 : cellsAt ρ b3 0 c4) {r : Int} (hF : F_82 N x5 x6 x7 = some r) :
  Calls Tryz.prog 36 [.agg #[v1, v2], pV b3 0].toArray w (Rets (fun v w' => (∃ (x12 : Int), x12 = r ∧ iV x12 = v ∧ Hp C w' ρ (hs)))) := by
 unfold F_82 at hF
 have h0 : Tryz.f36.body = some _ := rfl
 refine fn_calls' Tryz.func36 h0 (n := 12) rfl (by simp) <| sr <| ne (E_box H (vs := [v1, v2]) J J) J J ?_
 rintro _ wd13 ⟨b14, rfl, H⟩
 refine qa J J <| C_seq <| sr <| nq (v := .agg #[v1, v2]) (Q_ldB (k := 0) (cs := [v1, v2]) H.ok J ty25 J J J (fun h => nomatch h) J) J J ?_
 obtain ⟨q15, hq15, hF⟩ := bnd hF
 refine ne (E_call fn18 J (c_18 H gle  r8 r9 hq15)) J J ?_
 rintro _ wd16 ⟨x17, rfl, rfl, H⟩
 try dsimp only at hF
 refine nq (Q_not J) J J <| WL_nil <| x_then ?_
 refine C_cond J (fun hb => ?_) (fun hb => ?_)
 ·replace hF := itT hb hF
  refine sr <| qa J J <| C_ret <| x_then_ret ?_
  replace H := H.e0
  obtain rfl := oi hF
  exact fn_ret (l := [.tmp 4]) (vs := [iV (-1)]) J J J ⟨(-1), J, J, H⟩
 ·replace hF := itF hb hF
  refine C_skip <| xs <| nq (v := .agg #[v1, v2]) (Q_ldB (k := 0) (cs := [v1, v2]) H.ok rfl ty25 J J rfl (fun h => nomatch h) J) J J <| nq (v := .agg #[v1, v2]) (Q_buildS st135.choose_spec (ps := [(0, [v1, v2])]) rfl ⟨rfl, rfl, by simp, trivial⟩ J) J J <| qm J J ?_
  obtain ⟨q18, hq18, hF⟩ := bnd hF
  refine ne (E_call fn85 J (c_85_1 H gle gl18 r8 r9 hc10 ha11 hq18)) J J ?_
  rintro _ wd19 ⟨x20, rfl, rfl, H⟩
  try dsimp only at hF
  refine qa J J <| C_ret ?_
  replace H := H.e0
  obtain rfl := oi hF
  exact fn_ret (l := [.tmp 4]) (vs := [iV x20]) J J J ⟨x20, J, J, H⟩
theorem c_110 {N : Nat} {C : Cx} {w : World} {ρ : View} {hs : List Hl} {gV : Nat → Value} {b1 : Nat} {c2 : List Value} {v3 : Value} {c4 : List Value} {v5 : Value} {c6 : List Value} {v7 : Value} {v8 : Value} {v9 : Value} {b10 : Nat} {c11 : List Value} {v12 : Value} {b13 : Nat} {c14 : List Value} {v15 : Value} {x16 : (List (List Int))} {x17 : (List Int)} {x18 : (List Int)} {x19 : (List ((List Int) × (Int × Int × Int × Int) × Int × Int))} {x20 : (List Int)} {x21 : (List (ByteArray × Int))} {x22 : (List ((List Int) × Int))} {x23 : (List Int)} {x24 : Int} (H : Hp C w ρ (Box b1 [v3, v5, v7, v8, v9, .map (some b10), v12, .nilIface] :: Arr v3 256 c2 :: Arr v5 1 c4 :: Arr v7 1 c6 :: Mp kS (Value.int .i64) b10 x21 :: Arr v12 1 c11 :: Box b13 [v15, iV x24] :: Arr v15 1 c14 :: hs)) (gle : GErrs ρ 394 errIds gV) (gl18 : GTab ρ 18 .u8 tab_math_bits_deBruijn64tab) (r25 : rdL (eA 256 (eI .i64)) ρ x16 c2) (r26 : rdL (eI .i64) ρ x17 c4) (r27 : rdL (eI .i64) ρ x18 c6) (r28 : RdSl ρ (eP (eL (eI .i64)) (eP (eP (eI .u64) (eP (eI .u64) (eP (eI .u64) (eI .u64)))) (eP (eI .i64) (eI .i64)))) v8 x19) (r29 : RdSl ρ (eI .i64) v9 x20) (r30 : rdL (eQ (eP (eL (eI .u64)) (eI .i64))) ρ x22 c11) (r31 : rdL (eI .u64) ρ x23 c14) {r : ((List (List Int)) × (List Int) × (List (ByteArray × Int)) × (List ((List Int) × Int)) × Int × Int)} (hF : F_33 N x16 x17 x18 x19 x20 x21 x22 x23 x24 = some r) :
  Calls Tryz.prog 110 [pV b1 0, pV b13 0].toArray w (Rets (fun v w' => (∃ (ρ' : View) (v32 : Value) (c33 : (List Value)) (v34 : Value) (c35 : (List Value)) (v36 : Value) (c37 : (List Value)) (x38 : (List (List Int))) (x39 : (List Int)) (x40 : (List (ByteArray × Int))) (x41 : (List ((List Int) × Int))) (x42 : Int) (x43 : Int), (x38, x39, x40, x41, x42, x43) = r ∧ iV x43 = v ∧ View.le ρ ρ' ∧ rdL (eA 256 (eI .i64)) ρ' x38 c33 ∧ rdL (eI .i64) ρ' x39 c35 ∧ rdL (eQ (eP (eL (eI .u64)) (eI .i64))) ρ' x41 c37 ∧ Hp C w' ρ' (Box b1 [v32, v34, v7, v8, v9, .map (some b10), v36, errV errIds gV x42] :: Arr v32 256 c33 :: Arr v34 1 c35 :: Arr v7 1 c6 :: Mp kS (Value.int .i64) b10 x40 :: Arr v36 1 c37 :: hs)))) := by
 unfold F_33 at hF
 have h0 : Tryz.f110.body = some _ := rfl
 refine fn_calls' Tryz.func110 h0 (n := 86) rfl (by simp) <| sr <| qa J J <| sr <| qm J J ?_
 replace H := H.f7.f7
 obtain ⟨q44, hq44, hF⟩ := bnd hF
 refine ne (E_call fn34 J (c_34 H gle gl18 r31 hq44)) J J ?_
 rintro _ wd45 ⟨x46, rfl, rfl, H⟩
 try dsimp only at hF
 refine qa J J <| C_seq <| sr <| qm J J <| nq (Q_nilP J) J J <| nq (v := pV b1 5) (Q_fld Tryz.underlying178 rfl ty175 (by decide) J J) J J <| nq (v := .map (some b10)) (Q_ldB (k := 2) (cs := [.map (some b10)]) H.ok rfl ty175 J J rfl (fun _ => J) J) J J <| qm J J <| nq (v := .tuple [iV ((mget x21 x46).getD 0), .bool ((mget x21 x46).isSome)].toArray) (Q_look (zp := 0) (k := 6) H.ok rfl Tryz.underlying175 (kOk_S Tryz.underlying9) trivial ty3 J J J) J J <| qm J J <| nq (Q_extract J J) J J ?_
 refine nq (Q_extract J J) J J <| nq (Q_assign J) J J <| qa J J <| sr <| qm J J <| WL_nil <| x_then ?_
 refine C_cond J (fun hb => ?_) (fun hb => ?_)
 ·replace hF := itT hb hF
  refine sr <| qm J J <| qa J J <| C_ret <| x_then_ret ?_
  replace H := Hp.cast (hs' := Box b13 [v15, iV x24] :: Arr v15 1 c14 :: Box b1 [v3, v5, v7, v8, v9, .map (some b10), v12, errV errIds gV 0] :: Arr v3 256 c2 :: Arr v5 1 c4 :: Arr v7 1 c6 :: Mp kS (Value.int .i64) b10 x21 :: Arr v12 1 c11 :: hs) (by simp only [errV0]) H
  replace H := H.e1.e0
  obtain rfl := oi hF
  exact fn_ret (l := [.tmp 4]) (vs := [iV ((mget x21 x46).getD 0)]) J J J ⟨ρ, v3, c2, v5, c4, v12, c11, x16, x17, x21, x22, 0, (mget x21 x46).getD 0, J, J, (View.le_refl _), r25, r26, r30, H⟩
 ·replace hF := itF hb hF
  refine C_skip <| x_then <| C_seq <| sr <| qm J J <| nq (Q_nilP J) J J <| nq (v := pV b1 6) (Q_fld Tryz.underlying178 rfl ty176 (by decide) J J) J J <| nq (v := v12) (Q_ldB (k := 2) (cs := [v12]) H.ok rfl ty176 J J rfl (fun _ => J) J) J J <| nq (Q_lenA (k := 7) H.ok rfl r30 (by decide) Tryz.underlying176 J) J J <| nq (Q_geq J J) J J <| WL_nil <| x_then ?_
  refine C_cond J (fun hb => ?_) (fun hb => ?_)
  ·replace hF := itT hb hF
   refine sr <| qm J J <| nq (v := errV errIds gV 9) (Q_ldV H.ok gle (by decide) ty53) J J <| nq (Q_nilP J) J J <| nq (v := pV b1 7) (Q_fld Tryz.underlying178 rfl ty53 (by decide) J J) J J <| ne (E_stB (k := 2) (cs := [errV errIds gV 9]) (vs' := [v3, v5, v7, v8, v9, .map (some b10), v12, errV errIds gV 9]) H rfl ty53 J rfl (errV_cells gle 9) rfl (one_cons (errV_one gle 9) one_nil) (by simp) J) J J ?_
   rintro _ wd47 H
   dsimp only [List.set] at H
   refine WL_nil <| xs <| qa J J <| C_ret <| x_then_ret ?_
   replace H := H.e1.e0
   obtain rfl := oi hF
   exact fn_ret (l := [.tmp 4]) (vs := [iV 0]) J J J ⟨ρ, v3, c2, v5, c4, v12, c11, x16, x17, x21, x22, 9, 0, J, J, (View.le_refl _), r25, r26, r30, H⟩
  ·replace hF := itF hb hF
   refine C_skip <| x_then ?_
   obtain ⟨o48, ho48, hF⟩ := bnd hF
   refine C_cut (fun a w' => Fr 86 a [(0, pV b1 0), (1, pV b13 0)] ∧ Hp C w' ρ (Box b1 [v3, v5, v7, v8, v9, .map (some b10), v12, .nilIface] :: Arr v3 256 c2 :: Arr v5 1 c4 :: Arr v7 1 c6 :: Mp kS (Value.int .i64) b10 (mset x21 x46 (x22.length : Int)) :: Arr v12 1 c11 :: Box b13 [v15, iV x24] :: Arr v15 1 c14 :: hs)) ?_ ?_
   ·refine H.dr (.take 0 (.take 1 (.take 2 (.take 3 (.take 4 (.take 5 (.take 6 (.take 7 (.take 8 (.take 9 (.bar 10 none .done))))))))))) (some 10) hm0 (by kernel_rfl) ?_
    replace H := H.drew
    refine dq rfl (fun _ _ => Q_move J) J J <| dq rfl (fun _ _ => Q_nilP J) J J <| dq (v := pV b1 5) rfl (fun _ _ => Q_fld Tryz.underlying178 rfl ty175 (by decide) J J) J J <| dq (v := .map (some b10)) rfl (fun _ hw => Q_ldB (k := 2) (cs := [.map (some b10)]) hw rfl ty175 J J rfl (fun _ => J) J) J J <| dq rfl (fun _ _ => Q_move J) J J <| dq rfl (fun _ _ => Q_move J) J J <| dq rfl (fun _ _ => Q_nilP J) J J <| dq (v := pV b1 6) rfl (fun _ _ => Q_fld Tryz.underlying178 rfl ty176 (by decide) J J) J J <| dq (v := v12) rfl (fun _ hw => Q_ldB (k := 2) (cs := [v12]) hw rfl ty176 J J rfl (fun _ => J) J) J J <| dq rfl (fun _ hw => Q_lenA (k := 7) hw rfl r30 (by decide) Tryz.underlying176 J) J J <| db rfl (E_mset (b := (x22.length : Int)) (k := 6) H rfl Tryz.underlying175 (kOk_S Tryz.underlying9) trivial J J J) J J ?_
    rintro _ wd49 H
    dsimp only [List.set] at H
    refine H.okF <| DL_nil ?_
    replace H := H.f7.f7.f7.f7.f7.f7
    obtain rfl := oi ho48
    refine x_A fun a hf => ⟨hf.sub ⟨J, J, trivial⟩, H⟩
   ·rintro a wd50 ⟨hf, H⟩
    try dsimp only at hF
    refine CW.at hf <| sr <| qm J J <| qm J J <| nq (Q_nilP J) J J <| nq (v := pV b1 6) (Q_fld Tryz.underlying178 rfl ty176 (by decide) J J) J J <| nq (v := v12) (Q_ldB (k := 0) (cs := [v12]) H.ok rfl ty176 J J rfl (fun _ => J) J) J J <| qm J J ?_
    replace H := H.f7
    obtain ⟨ρ, lw51, H, r52⟩ := Hp.frz (en := (eI .u64)) H (by decide) r31
    replace r25 := rdL.up lw51 r25
    replace r26 := rdL.up lw51 r26
    replace r27 := rdL.up lw51 r27
    replace r28 := RdSl.up lw51 r28
    replace r29 := RdSl.up lw51 r29
    replace r30 := rdL.up lw51 r30
    replace gle := GErrs.up lw51 gle
    replace gl18 := GTab.up lw51 gl18
    replace H := H.f6
    have hc53 : (eP (eL (eI .u64)) (eI .i64)).rd ρ (x23, x24) [v15, iV x24] := ⟨[v15], _, rfl, ⟨_, rfl, r52⟩, rfl⟩
    obtain ⟨ρ, lw54, H, ha55⟩ := Hp.bfrz H
    replace hc53 := Enc.up _ lw54 hc53
    replace r25 := rdL.up lw54 r25
    replace r26 := rdL.up lw54 r26
    replace r27 := rdL.up lw54 r27
    replace r28 := RdSl.up lw54 r28
    replace r29 := RdSl.up lw54 r29
    replace r30 := rdL.up lw54 r30
    replace r52 := RdSl.up lw54 r52
    replace gle := GErrs.up lw54 gle
    replace gl18 := GTab.up lw54 gl18
    refine ne (E_bslice (xs := [.tmp 46]) (vs := [pV b13 0]) H Tryz.underlying176 ty51 (by decide) (cs := [pV b13 0]) rfl (sz_cons rfl sz_nil) rfl (by simp) (by simp) J J) J J ?_
    rintro _ wd56 ⟨b57, rfl, H⟩
    obtain ⟨x58, hx58, hF⟩ := bnd hF
    obtain ⟨ha130a, ha130b⟩ := app_some hx58
    have r59 : rdL (eQ (eP (eL (eI .u64)) (eI .i64))) ρ x58 (c11 ++ ([pV b13 0])) := ha130b ▸ rdL.app r30 (show rdL (eQ (eP (eL (eI .u64)) (eI .i64))) ρ ([(x23, x24)]) ([pV b13 0]) from ⟨([pV b13 0]), _, rfl, ⟨_, _, rfl, ha55, hc53⟩, rdL.nil⟩)
    refine ne (E_append (k := 6) H rfl Tryz.underlying176 ty51 rfl (by decide) (by decide) J rfl (Src.ofArr (k := 0) H.ok rfl) (rdL.one (show rdL (eQ (eP (eL (eI .u64)) (eI .i64))) ρ ([(x23, x24)]) ([pV b13 0]) from ⟨([pV b13 0]), _, rfl, ⟨_, _, rfl, ha55, hc53⟩, rdL.nil⟩)) (app_fit r30 (show rdL (eQ (eP (eL (eI .u64)) (eI .i64))) ρ ([(x23, x24)]) ([pV b13 0]) from ⟨([pV b13 0]), _, rfl, ⟨_, _, rfl, ha55, hc53⟩, rdL.nil⟩) ha130a)) J J ?_
    rintro v60 wd61 ⟨H, hc62⟩
    dsimp only [List.set] at H
    refine nq (Q_nilP J) J J <| nq (v := pV b1 6) (Q_fld Tryz.underlying178 rfl ty176 (by decide) J J) J J <| ne (E_stB (k := 1) (cs := [v60]) (vs' := [v3, v5, v7, v8, v9, .map (some b10), v60, .nilIface]) H rfl ty176 J rfl (arr_cells (H.ok.get (k := 6) rfl)).1 rfl (one_cons (arr_cells (H.ok.get (k := 6) rfl)).2 one_nil) (by simp) J) J J ?_
    rintro _ wd63 H
    dsimp only [List.set] at H
    refine WL_nil <| xs <| qm J J <| qm J J <| nq (Q_nilP J) J J <| nq (v := pV b1 0) (Q_fld Tryz.underlying178 rfl ty78 (by decide) J J) J J <| nq (v := pV b1 0) (Q_fld Tryz.underlying78 rfl ty76 (by decide) J J) J J <| nq (v := v3) (Q_ldB (k := 1) (cs := [v3]) H.ok rfl ty76 J J rfl (fun _ => J) J) J J <| nq (v := .agg (repC 256 [iV 0]).toArray) (Q_build0 (zs := (repC 256 [iV 0])) ty88 Tryz.underlying88 ty3 J) J J <| ne (E_bslice (xs := [.tmp 57]) (vs := [.agg (repC 256 [iV 0]).toArray]) H Tryz.underlying76 ty88 (by decide) (cs := (repC 256 [iV 0])) rfl (sz_cons (arr_clen (rdL_rep (e:=(eI .i64)) (ρ:=ρ) (rfl) 256) List.length_replicate) sz_nil) (by simp [Value.cells]) (by simp) (by simp) J J) J J ?_
    rintro _ wd64 ⟨b65, rfl, H⟩
    obtain ⟨x66, hx66, hF⟩ := bnd hF
    obtain ⟨ha139a, ha139b⟩ := app_some hx66
    have r67 : rdL (eA 256 (eI .i64)) ρ x66 (c2 ++ (repC 256 [iV 0])) := ha139b ▸ rdL.app r25 (show rdL (eA 256 (eI .i64)) ρ ([(List.replicate 256 0)]) (repC 256 [iV 0]) from rdL.single ⟨List.length_replicate, (rdL_rep (e:=(eI .i64)) (ρ:=ρ) (rfl) 256)⟩)
    refine ne (E_append (k := 3) H rfl Tryz.underlying76 ty88 rfl (by decide) (by decide) J rfl (Src.ofArr (k := 0) H.ok rfl) (rdL.one (show rdL (eA 256 (eI .i64)) ρ ([(List.replicate 256 0)]) (repC 256 [iV 0]) from rdL.single ⟨List.length_replicate, (rdL_rep (e:=(eI .i64)) (ρ:=ρ) (rfl) 256)⟩)) (app_fit r25 (show rdL (eA 256 (eI .i64)) ρ ([(List.replicate 256 0)]) (repC 256 [iV 0]) from rdL.single ⟨List.length_replicate, (rdL_rep (e:=(eI .i64)) (ρ:=ρ) (rfl) 256)⟩) ha139a)) J J ?_
    rintro v68 wd69 ⟨H, hc70⟩
    dsimp only [List.set] at H
    refine nq (Q_nilP J) J J <| nq (v := pV b1 0) (Q_fld Tryz.underlying178 rfl ty78 (by decide) J J) J J <| nq (v := pV b1 0) (Q_fld Tryz.underlying78 rfl ty76 (by decide) J J) J J <| ne (E_stB (k := 2) (cs := [v68]) (vs' := [v68, v5, v7, v8, v9, .map (some b10), v60, .nilIface]) H rfl ty76 J rfl (arr_cells (H.ok.get (k := 3) rfl)).1 rfl (one_cons (arr_cells (H.ok.get (k := 3) rfl)).2 one_nil) (by simp) J) J J ?_
    rintro _ wd71 H
    dsimp only [List.set] at H
    refine WL_nil <| x_then ?_
    obtain ⟨o72, ho72, hF⟩ := bnd hF
    refine C_cut (fun a w' => ∃ (v73 : Value) (c74 : (List Value)) (x75 : (List Int)), x75 = o72 ∧ rdL (eI .i64) ρ x75 c74 ∧ Fr 86 a [(0, pV b1 0)] ∧ Hp C w' ρ (Box b1 [v68, v73, v7, v8, v9, .map (some b10), v60, .nilIface] :: Arr v68 256 (c2 ++ (repC 256 [iV 0])) :: Arr v73 1 c74 :: Arr v7 1 c6 :: Mp kS (Value.int .i64) b10 (mset x21 x46 (x22.length : Int)) :: Arr v60 1 (c11 ++ ([pV b13 0])) :: hs)) ?_ ?_
    ·refine R_dr (.take 0 (.take 1 (.take 2 (.take 3 (.take 4 (.take 5 (.take 6 (.take 7 (.take 8 (.take 9 (.take 10 (.one 11 (.one 12 (.one 13 (.take 14 (.take 15 (.take 16 (.bar 17 none .done)))))))))))))))))) (some 17) (S := fun w' => Ok w' ρ [Arr (.slice (some ⟨b65, 0, none⟩) 1 1) 256 (repC 256 [iV 0]), Arr (.slice (some ⟨b57, 0, none⟩) 1 1) 1 ([pV b13 0]), Box b1 [v68, v5, v7, v8, v9, .map (some b10), v60, .nilIface], Arr v68 256 (c2 ++ (repC 256 [iV 0])), Arr v7 1 c6, Mp kS (Value.int .i64) b10 (mset x21 x46 (x22.length : Int)), Arr v60 1 (c11 ++ ([pV b13 0]))]) hm0 (by kernel_rfl) (H.drew.okS (by simp)) ?_
     replace H := H.drew
     refine dq rfl (fun _ _ => Q_move J) J J <| dq rfl (fun _ _ => Q_move J) J J <| dq rfl (fun _ _ => Q_nilP J) J J <| dq (v := pV b1 0) rfl (fun _ _ => Q_fld Tryz.underlying178 rfl ty78 (by decide) J J) J J <| dq (v := pV b1 1) rfl (fun _ _ => Q_fld Tryz.underlying78 rfl ty23 (by decide) J J) J J <| dq (v := v5) rfl (fun _ hw => Q_ldB (k := 2) (cs := [v5]) hw rfl ty23 J J rfl (fun _ => J) J) J J <| dq rfl (fun _ _ => Q_move J) J J <| dq rfl (fun _ _ => Q_nilP J) J J <| dq (v := pV b1 3) rfl (fun _ _ => Q_fld Tryz.underlying178 rfl ty25 (by decide) J J) J J <| dq (v := .agg #[v8, v9]) rfl (fun _ hw => Q_ldB (k := 2) (cs := [v8, v9]) hw rfl ty25 J J rfl (fun h => nomatch h) J) J J <| dq rfl (fun _ _ => Q_move J) J J ?_
     obtain ⟨q76, hq76, ho72⟩ := bnd ho72
     refine d1 (de J (E_call fn36 J (c_36_1 H gle gl18 r28 r29 hc53 ha55 hq76)) J J ?_)
     rintro _ wd77 ⟨x78, rfl, rfl, H⟩
     try dsimp only at ho72
     refine ⟨H.okS (by simp), ?_⟩
     refine d1 (de rfl (E_bslice (xs := [.tmp 74]) (vs := [iV x78]) H Tryz.underlying23 ty3 (by decide) (cs := [iV x78]) rfl (sz_cons rfl sz_nil) rfl (by simp) (by simp) J J) J J ?_)
     rintro _ wd79 ⟨b80, rfl, H⟩
     refine ⟨H.okS (by simp), ?_⟩
     obtain ⟨x81, hx81, ho72⟩ := bnd ho72
     obtain ⟨ha170a, ha170b⟩ := app_some hx81
     have r82 : rdL (eI .i64) ρ x81 (c4 ++ ([iV x78])) := ha170b ▸ rdL.app r26 (show rdL (eI .i64) ρ ([x78]) ([iV x78]) from ⟨([iV x78]), _, rfl, rfl, rdL.nil⟩)
     refine d1 (de rfl (E_append (k := 5) H rfl Tryz.underlying23 ty3 rfl (by decide) (by decide) J rfl (Src.ofArr (k := 0) H.ok rfl) (rdL.one (show rdL (eI .i64) ρ ([x78]) ([iV x78]) from ⟨([iV x78]), _, rfl, rfl, rdL.nil⟩)) (app_fit r26 (show rdL (eI .i64) ρ ([x78]) ([iV x78]) from ⟨([iV x78]), _, rfl, rfl, rdL.nil⟩) ha170a)) J J ?_)
     rintro v83 wd84 ⟨H, hc85⟩
     dsimp only [List.set] at H
     refine ⟨H.okS (by simp), ?_⟩
     refine dq rfl (fun _ _ => Q_nilP J) J J <| dq (v := pV b1 0) rfl (fun _ _ => Q_fld Tryz.underlying178 rfl ty78 (by decide) J J) J J <| dq (v := pV b1 1) rfl (fun _ _ => Q_fld Tryz.underlying78 rfl ty23 (by decide) J J) J J <| db rfl (E_stB (k := 3) (cs := [v83]) (vs' := [v68, v83, v7, v8, v9, .map (some b10), v60, .nilIface]) H rfl ty23 J rfl (arr_cells (H.ok.get (k := 5) rfl)).1 rfl (one_cons (arr_cells (H.ok.get (k := 5) rfl)).2 one_nil) (by simp) J) J J ?_
     rintro _ wd86 H
     dsimp only [List.set] at H
     refine H.okF <| DL_nil ?_
     replace H := H.e2.e1.e0
     obtain rfl := oi ho72
     refine x_A fun a hf => ⟨v83, (c4 ++ ([iV x78])), x81, J, r82, hf.sub ⟨J, trivial⟩, H⟩
    ·rintro a wd87 ⟨v73, c74, x75, rfl, r88, hf, H⟩
     try dsimp only at hF
     refine CW.at hf <| sr <| qm J J <| nq (Q_nilP J) J J <| nq (v := pV b1 6) (Q_fld Tryz.underlying178 rfl ty176 (by decide) J J) J J <| nq (v := v60) (Q_ldB (k := 0) (cs := [v60]) H.ok rfl ty176 J J rfl (fun _ => J) J) J J <| nq (Q_lenA (k := 5) H.ok rfl r59 (by decide) Tryz.underlying176 J) J J <| nq (Q_sub J J) J J <| qa J J <| C_ret ?_
     replace H := Hp.cast (hs' := Box b1 [v68, v73, v7, v8, v9, .map (some b10), v60, errV errIds gV 0] :: Arr v68 256 (c2 ++ (repC 256 [iV 0])) :: Arr v73 1 c74 :: Arr v7 1 c6 :: Mp kS (Value.int .i64) b10 (mset x21 x46 (x22.length : Int)) :: Arr v60 1 (c11 ++ ([pV b13 0])) :: hs) (by simp only [errV0]) H
     obtain rfl := oi hF
     exact fn_ret (l := [.tmp 4]) (vs := [iV (w64 ((x58.length : Int) - 1))]) J J J ⟨ρ, v68, (c2 ++ (repC 256 [iV 0])), v73, c74, v60, (c11 ++ ([pV b13 0])), x66, x75, (mset x21 x46 (x22.length : Int)), x58, 0, w64 ((x58.length : Int) - 1), J, J, (View.le_trans lw51 lw54), r67, r88, r59, H⟩
theorem c_110_1 {N : Nat} {C : Cx} {w : World} {ρ : View} {hs : List Hl} {gV : Nat → Value} {b1 : Nat} {c2 : List Value} {v3 : Value} {c4 : List Value} {v5 : Value} {c6 : List Value} {v7 : Value} {v8 : Value} {v9 : Value} {b10 : Nat} {c11 : List Value} {v12 : Value} {b13 : Nat} {c14 : List Value} {v15 : Value} {x16 : (List (List Int))} {x17 : (List Int)} {x18 : (List Int)} {x19 : (List ((List Int) × (Int × Int × Int × Int) × Int × Int))} {x20 : (List Int)} {x21 : (List (ByteArray × Int))} {x22 : (List ((List Int) × Int))} {x23 : Int} {x24 : (List Int)} {x25 : Int} (H : Hp C w ρ (Box b1 [v3, v5, v7, v8, v9, .map (some b10), v12, errV errIds gV x23] :: Arr v3 256 c2 :: Arr v5 1 c4 :: Arr v7 1 c6 :: Mp kS (Value.int .i64) b10 x21 :: Arr v12 1 c11 :: Box b13 [v15, iV x25] :: Arr v15 1 c14 :: hs)) (gle : GErrs ρ 394 errIds gV) (gl18 : GTab ρ 18 .u8 tab_math_bits_deBruijn64tab) (r26 : rdL (eA 256 (eI .i64)) ρ x16 c2) (r27 : rdL (eI .i64) ρ x17 c4) (r28 : rdL (eI .i64) ρ x18 c6) (r29 : RdSl ρ (eP (eL (eI .i64)) (eP (eP (eI .u64) (eP (eI .u64) (eP (eI .u64) (eI .u64)))) (eP (eI .i64) (eI .i64)))) v8 x19) (r30 : RdSl ρ (eI .i64) v9 x20) (r31 : rdL (eQ (eP (eL (eI .u64)) (eI .i64))) ρ x22 c11) (r32 : rdL (eI .u64) ρ x24 c14) {r : ((List (List Int)) × (List Int) × (List (ByteArray × Int)) × (List ((List Int) × Int)) × Int × Int)} (hF : F_80 N x16 x17 x18 x19 x20 x21 x22 x23 x24 x25 = some r) :
  Calls Tryz.prog 110 [pV b1 0, pV b13 0].toArray w (Rets (fun v w' => (∃ (ρ' : View) (v33 : Value) (c34 : (List Value)) (v35 : Value) (c36 : (List Value)) (v37 : Value) (c38 : (List Value)) (x39 : (List (List Int))) (x40 : (List Int)) (x41 : (List (ByteArray × Int))) (x42 : (List ((List Int) × Int))) (x43 : Int) (x44 : Int), (x39, x40, x41, x42, x43, x44) = r ∧ iV x44 = v ∧ View.le ρ ρ' ∧ rdL (eA 256 (eI .i64)) ρ' x39 c34 ∧ rdL (eI .i64) ρ' x40 c36 ∧ rdL (eQ (eP (eL (eI .u64)) (eI .i64))) ρ' x42 c38 ∧ Hp C w' ρ' (Box b1 [v33, v35, v7, v8, v9, .map (some b10), v37, errV errIds gV x43] :: Arr v33 256 c34 :: Arr v35 1 c36 :: Arr v7 1 c6 :: Mp kS (Value.int .i64) b10 x41 :: Arr v37 1 c38 :: hs)))) := by
 unfold F_80 at hF
 have h0 : Tryz.f110.body = some _ := rfl
 refine fn_calls' Tryz.func110 h0 (n := 86) rfl (by simp) <| sr <| qa J J <| sr <| qm J J ?_
 replace H := H.f7.f7
 obtain ⟨q45, hq45, hF⟩ := bnd hF
 refine ne (E_call fn34 J (c_34 H gle gl18 r32 hq45)) J J ?_
 rintro _ wd46 ⟨x47, rfl, rfl, H⟩
 try dsimp only at hF
 refine qa J J <| C_seq <| sr <| qm J J <| nq (Q_nilP J) J J <| nq (v := pV b1 5) (Q_fld Tryz.underlying178 rfl ty175 (by decide) J J) J J <| nq (v := .map (some b10)) (Q_ldB (k := 2) (cs := [.map (some b10)]) H.ok rfl ty175 J J rfl (fun _ => J) J) J J <| qm J J <| nq (v := .tuple [iV ((mget x21 x47).getD 0), .bool ((mget x21 x47).isSome)].toArray) (Q_look (zp := 0) (k := 6) H.ok rfl Tryz.underlying175 (kOk_S Tryz.underlying9) trivial ty3 J J J) J J <| qm J J <| nq (Q_extract J J) J J ?_
 refine nq (Q_extract J J) J J <| nq (Q_assign J) J J <| qa J J <| sr <| qm J J <| WL_nil <| x_then ?_
 refine C_cond J (fun hb => ?_) (fun hb => ?_)
 ·replace hF := itT hb hF
  refine sr <| qm J J <| qa J J <| C_ret <| x_then_ret ?_
  replace H := H.e1.e0
  obtain rfl := oi hF
  exact fn_ret (l := [.tmp 4]) (vs := [iV ((mget x21 x47).getD 0)]) J J J ⟨ρ, v3, c2, v5, c4, v12, c11, x16, x17, x21, x22, x23, (mget x21 x47).getD 0, J, J, (View.le_refl _), r26, r27, r31, H⟩
 ·replace hF := itF hb hF
  refine C_skip <| x_then <| C_seq <| sr <| qm J J <| nq (Q_nilP J) J J <| nq (v := pV b1 6) (Q_fld Tryz.underlying178 rfl ty176 (by decide) J J) J J <| nq (v := v12) (Q_ldB (k := 2) (cs := [v12]) H.ok rfl ty176 J J rfl (fun _ => J) J) J J <| nq (Q_lenA (k := 7) H.ok rfl r31 (by decide) Tryz.underlying176 J) J J <| nq (Q_geq J J) J J <| WL_nil <| x_then ?_
  refine C_cond J (fun hb => ?_) (fun hb => ?_)
  ·replace hF := itT hb hF
   refine sr <| qm J J <| nq (v := errV errIds gV 9) (Q_ldV H.ok gle (by decide) ty53) J J <| nq (Q_nilP J) J J <| nq (v := pV b1 7) (Q_fld Tryz.underlying178 rfl ty53 (by decide) J J) J J <| ne (E_stB (k := 2) (cs := [errV errIds gV 9]) (vs' := [v3, v5, v7, v8, v9, .map (some b10), v12, errV errIds gV 9]) H rfl ty53 J rfl (errV_cells gle 9) rfl (one_cons (errV_one gle 9) one_nil) (by simp) J) J J ?_
   rintro _ wd48 H
   dsimp only [List.set] at H
   refine WL_nil <| xs <| qa J J <| C_ret <| x_then_ret ?_
   replace H := H.e1.e0
   obtain rfl := oi hF
   exact fn_ret (l := [.tmp 4]) (vs := [iV 0]) J J J ⟨ρ, v3, c2, v5, c4, v12, c11, x16, x17, x21, x22, 9, 0, J, J, (View.le_refl _), r26, r27, r31, H⟩
  ·replace hF := itF hb hF
   refine C_skip <| x_then ?_
   obtain ⟨o49, ho49, hF⟩ := bnd hF
   refine C_cut (fun a w' => Fr 86 a [(0, pV b1 0), (1, pV b13 0)] ∧ Hp C w' ρ (Box b1 [v3, v5, v7, v8, v9, .map (some b10), v12, errV errIds gV x23] :: Arr v3 256 c2 :: Arr v5 1 c4 :: Arr v7 1 c6 :: Mp kS (Value.int .i64) b10 (mset x21 x47 (x22.length : Int)) :: Arr v12 1 c11 :: Box b13 [v15, iV x25] :: Arr v15 1 c14 :: hs)) ?_ ?_
   ·refine H.dr (.take 0 (.take 1 (.take 2 (.take 3 (.take 4 (.take 5 (.take 6 (.take 7 (.take 8 (.take 9 (.bar 10 none .done))))))))))) (some 10) hm0 (by kernel_rfl) ?_
    replace H := H.drew
    refine dq rfl (fun _ _ => Q_move J) J J <| dq rfl (fun _ _ => Q_nilP J) J J <| dq (v := pV b1 5) rfl (fun _ _ => Q_fld Tryz.underlying178 rfl ty175 (by decide) J J) J J <| dq (v := .map (some b10)) rfl (fun _ hw => Q_ldB (k := 2) (cs := [.map (some b10)]) hw rfl ty175 J J rfl (fun _ => J) J) J J <| dq rfl (fun _ _ => Q_move J) J J <| dq rfl (fun _ _ => Q_move J) J J <| dq rfl (fun _ _ => Q_nilP J) J J <| dq (v := pV b1 6) rfl (fun _ _ => Q_fld Tryz.underlying178 rfl ty176 (by decide) J J) J J <| dq (v := v12) rfl (fun _ hw => Q_ldB (k := 2) (cs := [v12]) hw rfl ty176 J J rfl (fun _ => J) J) J J <| dq rfl (fun _ hw => Q_lenA (k := 7) hw rfl r31 (by decide) Tryz.underlying176 J) J J <| db rfl (E_mset (b := (x22.length : Int)) (k := 6) H rfl Tryz.underlying175 (kOk_S Tryz.underlying9) trivial J J J) J J ?_
    rintro _ wd50 H
    dsimp only [List.set] at H
    refine H.okF <| DL_nil ?_
    replace H := H.f7.f7.f7.f7.f7.f7
    obtain rfl := oi ho49
    refine x_A fun a hf => ⟨hf.sub ⟨J, J, trivial⟩, H⟩
   ·rintro a wd51 ⟨hf, H⟩
    try dsimp only at hF
    refine CW.at hf <| sr <| qm J J <| qm J J <| nq (Q_nilP J) J J <| nq (v := pV b1 6) (Q_fld Tryz.underlying178 rfl ty176 (by decide) J J) J J <| nq (v := v12) (Q_ldB (k := 0) (cs := [v12]) H.ok rfl ty176 J J rfl (fun _ => J) J) J J <| qm J J ?_
    replace H := H.f7
    obtain ⟨ρ, lw52, H, r53⟩ := Hp.frz (en := (eI .u64)) H (by decide) r32
    replace r26 := rdL.up lw52 r26
    replace r27 := rdL.up lw52 r27
    replace r28 := rdL.up lw52 r28
    replace r29 := RdSl.up lw52 r29
    replace r30 := RdSl.up lw52 r30
    replace r31 := rdL.up lw52 r31
    replace gle := GErrs.up lw52 gle
    replace gl18 := GTab.up lw52 gl18
    replace H := H.f6
    have hc54 : (eP (eL (eI .u64)) (eI .i64)).rd ρ (x24, x25) [v15, iV x25] := ⟨[v15], _, rfl, ⟨_, rfl, r53⟩, rfl⟩
    obtain ⟨ρ, lw55, H, ha56⟩ := Hp.bfrz H
    replace hc54 := Enc.up _ lw55 hc54
    replace r26 := rdL.up lw55 r26
    replace r27 := rdL.up lw55 r27
    replace r28 := rdL.up lw55 r28
    replace r29 := RdSl.up lw55 r29
    replace r30 := RdSl.up lw55 r30
    replace r31 := rdL.up lw55 r31
    replace r53 := RdSl.up lw55 r53
    replace gle := GErrs.up lw55 gle
    replace gl18 := GTab.up lw55 gl18
    refine ne (E_bslice (xs := [.tmp 46]) (vs := [pV b13 0]) H Tryz.underlying176 ty51 (by decide) (cs := [pV b13 0]) rfl (sz_cons rfl sz_nil) rfl (by simp) (by simp) J J) J J ?_
    rintro _ wd57 ⟨b58, rfl, H⟩
    obtain ⟨x59, hx59, hF⟩ := bnd hF
    obtain ⟨ha129a, ha129b⟩ := app_some hx59
    have r60 : rdL (eQ (eP (eL (eI .u64)) (eI .i64))) ρ x59 (c11 ++ ([pV b13 0])) := ha129b ▸ rdL.app r31 (show rdL (eQ (eP (eL (eI .u64)) (eI .i64))) ρ ([(x24, x25)]) ([pV b13 0]) from ⟨([pV b13 0]), _, rfl, ⟨_, _, rfl, ha56, hc54⟩, rdL.nil⟩)
    refine ne (E_append (k := 6) H rfl Tryz.underlying176 ty51 rfl (by decide) (by decide) J rfl (Src.ofArr (k := 0) H.ok rfl) (rdL.one (show rdL (eQ (eP (eL (eI .u64)) (eI .i64))) ρ ([(x24, x25)]) ([pV b13 0]) from ⟨([pV b13 0]), _, rfl, ⟨_, _, rfl, ha56, hc54⟩, rdL.nil⟩)) (app_fit r31 (show rdL (eQ (eP (eL (eI .u64)) (eI .i64))) ρ ([(x24, x25)]) ([pV b13 0]) from ⟨([pV b13 0]), _, rfl, ⟨_, _, rfl, ha56, hc54⟩, rdL.nil⟩) ha129a)) J J ?_
    rintro v61 wd62 ⟨H, hc63⟩
    dsimp only [List.set] at H
    refine nq (Q_nilP J) J J <| nq (v := pV b1 6) (Q_fld Tryz.underlying178 rfl ty176 (by decide) J J) J J <| ne (E_stB (k := 1) (cs := [v61]) (vs' := [v3, v5, v7, v8, v9, .map (some b10), v61, errV errIds gV x23]) H rfl ty176 J rfl (arr_cells (H.ok.get (k := 6) rfl)).1 rfl (one_cons (arr_cells (H.ok.get (k := 6) rfl)).2 one_nil) (by simp) J) J J ?_
    rintro _ wd64 H
    dsimp only [List.set] at H
    refine WL_nil <| xs <| qm J J <| qm J J <| nq (Q_nilP J) J J <| nq (v := pV b1 0) (Q_fld Tryz.underlying178 rfl ty78 (by decide) J J) J J <| nq (v := pV b1 0) (Q_fld Tryz.underlying78 rfl ty76 (by decide) J J) J J <| nq (v := v3) (Q_ldB (k := 1) (cs := [v3]) H.ok rfl ty76 J J rfl (fun _ => J) J) J J <| nq (v := .agg (repC 256 [iV 0]).toArray) (Q_build0 (zs := (repC 256 [iV 0])) ty88 Tryz.underlying88 ty3 J) J J <| ne (E_bslice (xs := [.tmp 57]) (vs := [.agg (repC 256 [iV 0]).toArray]) H Tryz.underlying76 ty88 (by decide) (cs := (repC 256 [iV 0])) rfl (sz_cons (arr_clen (rdL_rep (e:=(eI .i64)) (ρ:=ρ) (rfl) 256) List.length_replicate) sz_nil) (by simp [Value.cells]) (by simp) (by simp) J J) J J ?_
    rintro _ wd65 ⟨b66, rfl, H⟩
    obtain ⟨x67, hx67, hF⟩ := bnd hF
    obtain ⟨ha138a, ha138b⟩ := app_some hx67
    have r68 : rdL (eA 256 (eI .i64)) ρ x67 (c2 ++ (repC 256 [iV 0])) := ha138b ▸ rdL.app r26 (show rdL (eA 256 (eI .i64)) ρ ([(List.replicate 256 0)]) (repC 256 [iV 0]) from rdL.single ⟨List.length_replicate, (rdL_rep (e:=(eI .i64)) (ρ:=ρ) (rfl) 256)⟩)
    refine ne (E_append (k := 3) H rfl Tryz.underlying76 ty88 rfl (by decide) (by decide) J rfl (Src.ofArr (k := 0) H.ok rfl) (rdL.one (show rdL (eA 256 (eI .i64)) ρ ([(List.replicate 256 0)]) (repC 256 [iV 0]) from rdL.single ⟨List.length_replicate, (rdL_rep (e:=(eI .i64)) (ρ:=ρ) (rfl) 256)⟩)) (app_fit r26 (show rdL (eA 256 (eI .i64)) ρ ([(List.replicate 256 0)]) (repC 256 [iV 0]) from rdL.single ⟨List.length_replicate, (rdL_rep (e:=(eI .i64)) (ρ:=ρ) (rfl) 256)⟩) ha138a)) J J ?_
    rintro v69 wd70 ⟨H, hc71⟩
    dsimp only [List.set] at H
    refine nq (Q_nilP J) J J <| nq (v := pV b1 0) (Q_fld Tryz.underlying178 rfl ty78 (by decide) J J) J J <| nq (v := pV b1 0) (Q_fld Tryz.underlying78 rfl ty76 (by decide) J J) J J <| ne (E_stB (k := 2) (cs := [v69]) (vs' := [v69, v5, v7, v8, v9, .map (some b10), v61, errV errIds gV x23]) H rfl ty76 J rfl (arr_cells (H.ok.get (k := 3) rfl)).1 rfl (one_cons (arr_cells (H.ok.get (k := 3) rfl)).2 one_nil) (by simp) J) J J ?_
    rintro _ wd72 H
    dsimp only [List.set] at H
    refine WL_nil <| x_then ?_
    obtain ⟨o73, ho73, hF⟩ := bnd hF
    refine C_cut (fun a w' => ∃ (v74 : Value) (c75 : (List Value)) (x76 : (List Int)), x76 = o73 ∧ rdL (eI .i64) ρ x76 c75 ∧ Fr 86 a [(0, pV b1 0)] ∧ Hp C w' ρ (Box b1 [v69, v74, v7, v8, v9, .map (some b10), v61, errV errIds gV x23] :: Arr v69 256 (c2 ++ (repC 256 [iV 0])) :: Arr v74 1 c75 :: Arr v7 1 c6 :: Mp kS (Value.int .i64) b10 (mset x21 x47 (x22.length : Int)) :: Arr v61 1 (c11 ++ ([pV b13 0])) :: hs)) ?_ ?_
    ·refine R_dr (.take 0 (.take 1 (.take 2 (.take 3 (.take 4 (.take 5 (.take 6 (.take 7 (.take 8 (.take 9 (.take 10 (.one 11 (.one 12 (.one 13 (.take 14 (.take 15 (.take 16 (.bar 17 none .done)))))))))))))))))) (some 17) (S := fun w' => Ok w' ρ [Arr (.slice (some ⟨b66, 0, none⟩) 1 1) 256 (repC 256 [iV 0]), Arr (.slice (some ⟨b58, 0, none⟩) 1 1) 1 ([pV b13 0]), Box b1 [v69, v5, v7, v8, v9, .map (some b10), v61, errV errIds gV x23], Arr v69 256 (c2 ++ (repC 256 [iV 0])), Arr v7 1 c6, Mp kS (Value.int .i64) b10 (mset x21 x47 (x22.length : Int)), Arr v61 1 (c11 ++ ([pV b13 0]))]) hm0 (by kernel_rfl) (H.drew.okS (by simp)) ?_
     replace H := H.drew
     refine dq rfl (fun _ _ => Q_move J) J J <| dq rfl (fun _ _ => Q_move J) J J <| dq rfl (fun _ _ => Q_nilP J) J J <| dq (v := pV b1 0) rfl (fun _ _ => Q_fld Tryz.underlying178 rfl ty78 (by decide) J J) J J <| dq (v := pV b1 1) rfl (fun _ _ => Q_fld Tryz.underlying78 rfl ty23 (by decide) J J) J J <| dq (v := v5) rfl (fun _ hw => Q_ldB (k := 2) (cs := [v5]) hw rfl ty23 J J rfl (fun _ => J) J) J J <| dq rfl (fun _ _ => Q_move J) J J <| dq rfl (fun _ _ => Q_nilP J) J J <| dq (v := pV b1 3) rfl (fun _ _ => Q_fld Tryz.underlying178 rfl ty25 (by decide) J J) J J <| dq (v := .agg #[v8, v9]) rfl (fun _ hw => Q_ldB (k := 2) (cs := [v8, v9]) hw rfl ty25 J J rfl (fun h => nomatch h) J) J J <| dq rfl (fun _ _ => Q_move J) J J ?_
     obtain ⟨q77, hq77, ho73⟩ := bnd ho73
     refine d1 (de J (E_call fn36 J (c_36_1 H gle gl18 r29 r30 hc54 ha56 hq77)) J J ?_)
     rintro _ wd78 ⟨x79, rfl, rfl, H⟩
     try dsimp only at ho73
     refine ⟨H.okS (by simp), ?_⟩
     refine d1 (de rfl (E_bslice (xs := [.tmp 74]) (vs := [iV x79]) H Tryz.underlying23 ty3 (by decide) (cs := [iV x79]) rfl (sz_cons rfl sz_nil) rfl (by simp) (by simp) J J) J J ?_)
     rintro _ wd80 ⟨b81, rfl, H⟩
     refine ⟨H.okS (by simp), ?_⟩
     obtain ⟨x82, hx82, ho73⟩ := bnd ho73
     obtain ⟨ha169a, ha169b⟩ := app_some hx82
     have r83 : rdL (eI .i64) ρ x82 (c4 ++ ([iV x79])) := ha169b ▸ rdL.app r27 (show rdL (eI .i64) ρ ([x79]) ([iV x79]) from ⟨([iV x79]), _, rfl, rfl, rdL.nil⟩)
     refine d1 (de rfl (E_append (k := 5) H rfl Tryz.underlying23 ty3 rfl (by decide) (by decide) J rfl (Src.ofArr (k := 0) H.ok rfl) (rdL.one (show rdL (eI .i64) ρ ([x79]) ([iV x79]) from ⟨([iV x79]), _, rfl, rfl, rdL.nil⟩)) (app_fit r27 (show rdL (eI .i64) ρ ([x79]) ([iV x79]) from ⟨([iV x79]), _, rfl, rfl, rdL.nil⟩) ha169a)) J J ?_)
     rintro v84 wd85 ⟨H, hc86⟩
     dsimp only [List.set] at H
     refine ⟨H.okS (by simp), ?_⟩
     refine dq rfl (fun _ _ => Q_nilP J) J J <| dq (v := pV b1 0) rfl (fun _ _ => Q_fld Tryz.underlying178 rfl ty78 (by decide) J J) J J <| dq (v := pV b1 1) rfl (fun _ _ => Q_fld Tryz.underlying78 rfl ty23 (by decide) J J) J J <| db rfl (E_stB (k := 3) (cs := [v84]) (vs' := [v69, v84, v7, v8, v9, .map (some b10), v61, errV errIds gV x23]) H rfl ty23 J rfl (arr_cells (H.ok.get (k := 5) rfl)).1 rfl (one_cons (arr_cells (H.ok.get (k := 5) rfl)).2 one_nil) (by simp) J) J J ?_
     rintro _ wd87 H
     dsimp only [List.set] at H
     refine H.okF <| DL_nil ?_
     replace H := H.e2.e1.e0
     obtain rfl := oi ho73
     refine x_A fun a hf => ⟨v84, (c4 ++ ([iV x79])), x82, J, r83, hf.sub ⟨J, trivial⟩, H⟩
    ·rintro a wd88 ⟨v74, c75, x76, rfl, r89, hf, H⟩
     try dsimp only at hF
     refine CW.at hf <| sr <| qm J J <| nq (Q_nilP J) J J <| nq (v := pV b1 6) (Q_fld Tryz.underlying178 rfl ty176 (by decide) J J) J J <| nq (v := v61) (Q_ldB (k := 0) (cs := [v61]) H.ok rfl ty176 J J rfl (fun _ => J) J) J J <| nq (Q_lenA (k := 5) H.ok rfl r60 (by decide) Tryz.underlying176 J) J J <| nq (Q_sub J J) J J <| qa J J <| C_ret ?_
     obtain rfl := oi hF
     exact fn_ret (l := [.tmp 4]) (vs := [iV (w64 ((x59.length : Int) - 1))]) J J J ⟨ρ, v69, (c2 ++ (repC 256 [iV 0])), v74, c75, v61, (c11 ++ ([pV b13 0])), x67, x76, (mset x21 x47 (x22.length : Int)), x59, x23, w64 ((x59.length : Int) - 1), J, J, (View.le_trans lw52 lw55), r68, r89, r60, H⟩
theorem c_86_1 {N : Nat} {C : Cx} {w : World} {ρ : View} {hs : List Hl} {gV : Nat → Value} {v1 : Value} {v2 : Value} {b3 : Nat} {c4 : List Value} {x5 : (List ((List Int) × (Int × Int × Int × Int) × Int × Int))} {x6 : (List Int)} {x7 : ((List Int) × Int)} {x8 : Int} (H : Hp C w ρ (hs)) (gle : GErrs ρ 394 errIds gV) (gl18 : GTab ρ 18 .u8 tab_math_bits_deBruijn64tab) (r9 : RdSl ρ (eP (eL (eI .i64)) (eP (eP (eI .u64) (eP (eI .u64) (eP (eI .u64) (eI .u64)))) (eP (eI .i64) (eI .i64)))) v1 x5) (r10 : RdSl ρ (eI .i64) v2 x6) (hc11 : (eP (eL (eI .u64)) (eI .i64)).rd ρ x7 c4) (ha12 : cellsAt ρ b3 0 c4) {r : (List Int)} (hF : F_47 N x5 x6 x7 x8 = some r) :
  Calls Tryz.prog 86 [.agg #[v1, v2], pV b3 0, .int .u8 x8].toArray w (Rets (fun v w' => (∃ (b13 : Nat) (v14 : Value) (c15 : (List Value)) (x16 : (List Int)), x16 = r ∧ pV b13 0 = v ∧ rdL (eI .u64) ρ x16 c15 ∧ Hp C w' ρ (Box b13 [v14, iV (x5.length : Int)] :: Arr v14 1 c15 :: hs)))) := by
 unfold F_47 at hF
 have h0 : Tryz.f86.body = some _ := rfl
 refine fn_calls' Tryz.func86 h0 (n := 43) rfl (by simp) <| sr <| ne (E_box H (vs := [v1, v2]) J J) J J ?_
 rintro _ wd17 ⟨b18, rfl, H⟩
 refine qa J J <| sr <| qa J J <| C_seq <| sr <| qm J J ?_
 obtain ⟨q19, hq19, hF⟩ := bnd hF
 refine ne (E_call fn83 J (c_83_2 H gle gl18 hc11 ha12 hq19)) J J ?_
 rintro _ wd20 ⟨x21, rfl, rfl, H⟩
 try dsimp only at hF
 refine qa J J ?_
 obtain ⟨o22, ho22, hF⟩ := bnd hF
 refine C_cutQ (fun a w' => ∃ (v23 : Value) (c24 : (List Value)) (x25 : (List Int)), x25 = o22 ∧ rdL (eI .i64) ρ x25 c24 ∧ Fr 43 a [(3, pV b18 0), (7, v23)] ∧ Hp C w' ρ (Box b18 [v1, v2] :: Arr v23 1 c24 :: hs)) ?_ ?_
 ·refine C_block ?_
  have H := H.nilArr 1
  replace H := H.f1
  refine C_iter (f := fun s => F_102 N x5 x7 x8 s.1 s.2) ho22 (fun s a w' => ∃ (v26 : Value) (c27 : (List Value)) (x28 : (List Int)) (x29 : Int), (x28, x29) = s ∧ rdL (eI .i64) ρ x28 c27 ∧ Fr 43 a [(1, pV b3 0), (2, .int .u8 x8), (3, pV b18 0), (7, v26), (8, iV x29)] ∧ Hp C w' ρ (Box b18 [v1, v2] :: Arr v26 1 c27 :: hs)) ?_ ?_
  ·exact fun a hf => ⟨(.slice none 0 0), [], [], x21, J, rdL.nil, hf.sub ⟨J, J, J, J, J, trivial⟩, H⟩
  ·rintro s o30 a wd31 ⟨v26, c27, x28, x29, rfl, r32, hf, H⟩ hB33 hO34
   replace hB33 : F_102 N x5 x7 x8 x28 x29 = some o30 := hB33
   unfold F_102 at hB33
   refine CW.at hf <| C_seq ?_
   obtain ⟨o35, ho35, hB33⟩ := bnd hB33
   refine C_cut (fun a w' => ∃ (x36 : Bool), x36 = o35 ∧ Fr 43 a [(1, pV b3 0), (2, .int .u8 x8), (3, pV b18 0), (7, v26), (8, iV x29), (21, .bool x36)] ∧ Hp C w' ρ (Box b18 [v1, v2] :: Arr v26 1 c27 :: hs)) ?_ ?_
   ·refine R_nd <| qm J J <| nq (Q_geq J J) J J <| qm J J ?_
    rcases Bool.eq_false_or_eq_true (decide (x29 ≥ 0)) with hb | hb
    ·rw [hb]
     replace ho35 := itT hb ho35
     refine gq (Q_move J) J J J <| gq (v := pV b18 0) (Q_fld Tryz.underlying135 rfl ty25 (by decide) J J) J J J <| gq (v := pV b18 0) (Q_fld Tryz.underlying25 rfl ty22 (by decide) J J) J J J <| gq (v := v1) (Q_ldB (k := 0) (cs := [v1]) H.ok rfl ty22 J J rfl (fun _ => J) J) J J J <| gq (Q_len Tryz.underlying22 rfl r9) J J J <| gq (Q_lss J J) J J J <| nq (Q_pickT J J) J J <| WL_nil ?_
     obtain rfl := oi ho35
     refine x_A fun a hf => ⟨decide (x29 < (x5.length : Int)), J, hf.sub ⟨J, J, J, J, J, J, trivial⟩, H⟩
    ·rw [hb]
     replace ho35 := itF hb ho35
     refine gs J J J J <| gs J J J J <| gs J J J J <| gs J J J J <| gs J J J J <| gs J J J J <| nq (Q_pickF J J) J J <| WL_nil ?_
     obtain rfl := oi ho35
     refine x_A fun a hf => ⟨false, J, hf.sub ⟨J, J, J, J, J, J, trivial⟩, H⟩
   ·rintro a wd37 ⟨x36, rfl, hf, H⟩
    try dsimp only at hB33
    refine CW.at hf ?_
    refine C_cond J (fun hb => ?_) (fun hb => ?_)
    ·replace hB33 := itT hb hB33
     refine C_skip <| x_then ?_
     obtain ⟨o38, ho38, hB33⟩ := bnd hB33
     refine C_cut (fun a w' => ∃ (v39 : Value) (c40 : (List Value)) (x41 : (List Int)), x41 = o38 ∧ rdL (eI .i64) ρ x41 c40 ∧ Fr 43 a [(1, pV b3 0), (2, .int .u8 x8), (3, pV b18 0), (7, v39), (8, iV x29)] ∧ Hp C w' ρ (Box b18 [v1, v2] :: Arr v39 1 c40 :: hs)) ?_ ?_
     ·refine C_block <| sr <| nq (v := pV b18 0) (Q_fld Tryz.underlying135 rfl ty25 (by decide) J J) J J <| nq (v := pV b18 0) (Q_fld Tryz.underlying25 rfl ty22 (by decide) J J) J J <| nq (v := v1) (Q_ldB (k := 0) (cs := [v1]) H.ok rfl ty22 J J rfl (fun _ => J) J) J J <| qm J J ?_
      obtain ⟨x42, hx42, ho38⟩ := bnd ho38
      obtain ⟨b43, o44, c45, hc46, ha47, hi48⟩ := idxR r9 hx42
      refine nq (Q_idx hi48 Tryz.underlying22 ty41 J J) J J ?_
      obtain ⟨c49, c50, he51, hc52, hc53⟩ := (id hc46)
      obtain ⟨v54, he55, r56⟩ := hc52
      obtain ⟨c57, c58, he59, hc60, hc61⟩ := hc53
      obtain ⟨c62, c63, he64, hc65, hc66⟩ := hc60
      obtain ⟨c67, c68, he69, hc70, hc71⟩ := hc66
      obtain ⟨c72, c73, he74, hc75, hc76⟩ := hc71
      obtain ⟨c77, c78, he79, hc80, hc81⟩ := hc61
      refine nq (v := .agg #[v54, uV x42.2.1.1, uV x42.2.1.2.1, uV x42.2.1.2.2.1, uV x42.2.1.2.2.2, iV x42.2.2.1, iV x42.2.2.2]) (Q_ld (show cellsAt _ _ _ [v54, uV x42.2.1.1, uV x42.2.1.2.1, uV x42.2.1.2.2.1, uV x42.2.1.2.2.2, iV x42.2.2.1, iV x42.2.2.2] from cellsAt.cg (cat2 he51 he55 (cat2 he59 (cat2 he64 (rdI hc65) (cat2 he69 (rdI hc70) (cat2 he74 (rdI hc75) (rdI hc76)))) (cat2 he79 (rdI hc80) (rdI hc81)))) (ha47.up H.ok.view)) ty41 J (fun h => nomatch h) J J) J J <| ne (E_alloc H ty41 (zs := [.slice none 0 0, uV 0, uV 0, uV 0, uV 0, iV 0, iV 0]) J) J J ?_
      rintro _ wd82 ⟨b83, rfl, H⟩
      refine ne (E_stB (k := 0) (cs := [v54, uV x42.2.1.1, uV x42.2.1.2.1, uV x42.2.1.2.2.1, uV x42.2.1.2.2.2, iV x42.2.2.1, iV x42.2.2.2]) (vs' := [v54, uV x42.2.1.1, uV x42.2.1.2.1, uV x42.2.1.2.2.1, uV x42.2.1.2.2.2, iV x42.2.2.1, iV x42.2.2.2]) H rfl ty41 J J J rfl (one_cons (RdSl.one r56) (one_cons rfl (one_cons rfl (one_cons rfl (one_cons rfl (one_cons rfl (one_cons rfl one_nil))))))) (by simp) J) J J ?_
      rintro _ wd84 H
      dsimp only [List.set] at H
      refine WL_nil <| xs <| nq (v := pV b83 1) (Q_fld Tryz.underlying41 rfl ty39 (by decide) J J) J J <| nq (v := .agg #[uV x42.2.1.1, uV x42.2.1.2.1, uV x42.2.1.2.2.1, uV x42.2.1.2.2.2]) (Q_ldB (k := 0) (cs := [uV x42.2.1.1, uV x42.2.1.2.1, uV x42.2.1.2.2.1, uV x42.2.1.2.2.2]) H.ok rfl ty39 J J rfl (fun h => nomatch h) J) J J <| qm J J ?_
      obtain ⟨q85, hq85, ho38⟩ := bnd ho38
      refine ne (E_call fn133 J (c_133 H gle   hq85)) J J ?_
      rintro _ wd86 ⟨x87, rfl, rfl, H⟩
      try dsimp only at ho38
      refine WL_nil <| x_then ?_
      obtain ⟨o88, ho88, ho38⟩ := bnd ho38
      refine C_cutQ (fun a w' => ∃ (v89 : Value) (c90 : (List Value)) (x91 : (List Int)), x91 = o88 ∧ rdL (eI .i64) ρ x91 c90 ∧ Fr 43 a [(1, pV b3 0), (2, .int .u8 x8), (3, pV b18 0), (7, v89), (8, iV x29)] ∧ Hp C w' ρ (Box b18 [v1, v2] :: Arr v89 1 c90 :: hs)) ?_ ?_
      ·refine C_cond J (fun hb => ?_) (fun hb => ?_)
       ·replace ho88 := itT hb ho88
        refine R_nd <| qm J J <| nq (v := pV b83 5) (Q_fld Tryz.underlying41 rfl ty3 (by decide) J J) J J <| nq (v := iV x42.2.2.1) (Q_ldB (k := 0) (cs := [iV x42.2.2.1]) H.ok rfl ty3 J J rfl (fun _ => J) J) J J <| ne (E_bslice (xs := [.tmp 37]) (vs := [iV x42.2.2.1]) H Tryz.underlying23 ty3 (by decide) (cs := [iV x42.2.2.1]) rfl (sz_cons rfl sz_nil) rfl (by simp) (by simp) J J) J J ?_
        rintro _ wd92 ⟨b93, rfl, H⟩
        obtain ⟨x94, hx94, ho88⟩ := bnd ho88
        obtain ⟨ha1930a, ha1930b⟩ := app_some hx94
        have r95 : rdL (eI .i64) ρ x94 (c27 ++ ([iV x42.2.2.1])) := ha1930b ▸ rdL.app r32 (show rdL (eI .i64) ρ ([x42.2.2.1]) ([iV x42.2.2.1]) from ⟨([iV x42.2.2.1]), _, rfl, rfl, rdL.nil⟩)
        refine ne (E_append (k := 3) H rfl Tryz.underlying23 ty3 rfl (by decide) (by decide) J rfl (Src.ofArr (k := 0) H.ok rfl) (rdL.one (show rdL (eI .i64) ρ ([x42.2.2.1]) ([iV x42.2.2.1]) from ⟨([iV x42.2.2.1]), _, rfl, rfl, rdL.nil⟩)) (app_fit r32 (show rdL (eI .i64) ρ ([x42.2.2.1]) ([iV x42.2.2.1]) from ⟨([iV x42.2.2.1]), _, rfl, rfl, rdL.nil⟩) ha1930a)) J J ?_
        rintro v96 wd97 ⟨H, hc98⟩
        dsimp only [List.set] at H
        refine nq (Q_assign J) J J <| WL_nil ?_
        replace H := H.e1.e0
        obtain rfl := oi ho88
        refine x_A fun a hf => ⟨v96, (c27 ++ ([iV x42.2.2.1])), x94, J, r95, hf.sub ⟨J, J, J, J, J, trivial⟩, H⟩
       ·replace ho88 := itF hb ho88
        refine C_skip ?_
        replace H := H.e0
        obtain rfl := oi ho88
        refine x_A fun a hf => ⟨v26, c27, x28, J, r32, hf.sub ⟨J, J, J, J, J, trivial⟩, H⟩
      ·rintro a wd99 ⟨v89, c90, x91, rfl, r100, hf, H⟩
       try dsimp only at ho38
       refine XX.at hf <| x_block ?_
       obtain rfl := oi ho38
       refine x_A fun a hf => ⟨v89, c90, x91, J, r100, hf.sub ⟨J, J, J, J, J, trivial⟩, H⟩
     ·rintro a wd101 ⟨v39, c40, x41, rfl, r102, hf, H⟩
      try dsimp only at hB33
      refine CW.at hf <| R_nd <| qm J J <| qm J J ?_
      obtain ⟨q103, hq103, hB33⟩ := bnd hB33
      refine ne (E_call fn83 J (c_83_2 H gle gl18 hc11 ha12 hq103)) J J ?_
      rintro _ wd104 ⟨x105, rfl, rfl, H⟩
      try dsimp only at hB33
      refine nq (Q_assign J) J J <| WL_nil ?_
      obtain rfl := oi hB33
      refine x_A fun a hf => ⟨_, J, v39, c40, x41, x105, J, r102, hf.sub ⟨J, J, J, J, J, trivial⟩, H⟩
    ·replace hB33 := itF hb hB33
     refine C_exit <| x_then_exit <| x_then_exit <| x_block_exit ?_
     obtain rfl := oi hB33
     obtain rfl := hO34 _ rfl
     refine x_A fun a hf => ⟨v26, c27, x28, J, r32, hf.sub ⟨J, J, trivial⟩, H⟩
 ·rintro a wd106 ⟨v23, c24, x25, rfl, r107, hf, H⟩
  try dsimp only at hF
  refine XX.at hf <| xs <| nq (v := .agg #[v1, v2]) (Q_ldB (k := 0) (cs := [v1, v2]) H.ok J ty135 J J J (fun h => nomatch h) J) J J <| qm J J ?_
  replace H := H.f1
  obtain ⟨q108, hq108, hF⟩ := bnd hF
  refine ne (E_call fn82 J (c_82_1 H gle  r9 r10 r107 hq108)) J J ?_
  rintro _ wd109 ⟨v110, c111, b112, v113, c114, x115, x116, rfl, rfl, r117, r118, H⟩
  try dsimp only at hF
  refine qa J J <| C_ret ?_
  replace H := H.e3.e0
  obtain rfl := oi hF
  exact fn_ret (l := [.tmp 6]) (vs := [pV b112 0]) J J J ⟨b112, v113, c114, x116, J, J, r118, H⟩
theorem c_37_1 {N : Nat} {C : Cx} {w : World} {ρ : View} {hs : List Hl} {gV : Nat → Value} {v1 : Value} {v2 : Value} {b3 : Nat} {c4 : List Value} {x5 : (List ((List Int) × (Int × Int × Int × Int) × Int × Int))} {x6 : (List Int)} {x7 : ((List Int) × Int)} {x8 : Int} (H : Hp C w ρ (hs)) (gle : GErrs ρ 394 errIds gV) (gl18 : GTab ρ 18 .u8 tab_math_bits_deBruijn64tab) (r9 : RdSl ρ (eP (eL (eI .i64)) (eP (eP (eI .u64) (eP (eI .u64) (eP (eI .u64) (eI .u64)))) (eP (eI .i64) (eI .i64)))) v1 x5) (r10 : RdSl ρ (eI .i64) v2 x6) (hc11 : (eP (eL (eI .u64)) (eI .i64)).rd ρ x7 c4) (ha12 : cellsAt ρ b3 0 c4) {r : (List Int)} (hF : F_95 N x5 x6 x7 x8 = some r) :
  Calls Tryz.prog 37 [.agg #[v1, v2], pV b3 0, .int .u8 x8].toArray w (Rets (fun v w' => (∃ (b13 : Nat) (v14 : Value) (c15 : (List Value)) (x16 : (List Int)), x16 = r ∧ pV b13 0 = v ∧ rdL (eI .u64) ρ x16 c15 ∧ Hp C w' ρ (Box b13 [v14, iV (x5.length : Int)] :: Arr v14 1 c15 :: hs)))) := by
 unfold F_95 at hF
 have h0 : Tryz.f37.body = some _ := rfl
 refine fn_calls' Tryz.func37 h0 (n := 15) rfl (by simp) <| sr <| ne (E_box H (vs := [v1, v2]) J J) J J ?_
 rintro _ wd17 ⟨b18, rfl, H⟩
 refine qa J J <| C_seq <| sr <| nq (v := .agg #[v1, v2]) (Q_ldB (k := 0) (cs := [v1, v2]) H.ok J ty25 J J J (fun h => nomatch h) J) J J ?_
 obtain ⟨q19, hq19, hF⟩ := bnd hF
 refine ne (E_call fn18 J (c_18 H gle  r9 r10 hq19)) J J ?_
 rintro _ wd20 ⟨x21, rfl, rfl, H⟩
 try dsimp only at hF
 refine nq (Q_not J) J J <| WL_nil <| x_then ?_
 refine C_cond J (fun hb => ?_) (fun hb => ?_)
 ·replace hF := itT hb hF
  refine sr <| qa J J <| C_ret <| x_then_ret ?_
  cases hF
 ·replace hF := itF hb hF
  refine C_skip <| xs <| nq (v := .agg #[v1, v2]) (Q_ldB (k := 0) (cs := [v1, v2]) H.ok rfl ty25 J J rfl (fun h => nomatch h) J) J J <| nq (v := .agg #[v1, v2]) (Q_buildS st135.choose_spec (ps := [(0, [v1, v2])]) rfl ⟨rfl, rfl, by simp, trivial⟩ J) J J <| qm J J <| qm J J ?_
  obtain ⟨q22, hq22, hF⟩ := bnd hF
  refine ne (E_call fn86 J (c_86_1 H gle gl18 r9 r10 hc11 ha12 hq22)) J J ?_
  rintro _ wd23 ⟨b24, v25, c26, x27, rfl, rfl, r28, H⟩
  try dsimp only at hF
  refine qa J J <| C_ret ?_
  replace H := H.e2
  obtain rfl := oi hF
  exact fn_ret (l := [.tmp 6]) (vs := [pV b24 0]) J J J ⟨b24, v25, c26, x27, J, J, r28, H⟩
theorem c_140 {N : Nat} {C : Cx} {w : World} {ρ : View} {hs : List Hl} {gV : Nat → Value} {x1 : Int} {x2 : Int} {x3 : Int} {x4 : Int} (H : Hp C w ρ (hs)) (gle : GErrs ρ 394 errIds gV) (gl18 : GTab ρ 18 .u8 tab_math_bits_deBruijn64tab) {r : (List Int)} (hF : F_17 N x1 x2 x3 x4 = some r) :
  Calls Tryz.prog 140 [.agg #[uV x1, uV x2, uV x3, uV x4]].toArray w (Rets (fun v w' => (∃ (ρ' : View) (v5 : Value) (c6 : (List Value)) (x7 : (List Int)), x7 = r ∧ v5 = v ∧ View.le ρ ρ' ∧ rdL (eI .u8) ρ' x7 c6 ∧ Hp C w' ρ' (Arr v5 1 c6 :: hs)))) := by
 unfold F_17 at hF
 have h0 : Tryz.f140.body = some _ := rfl
 refine fn_callsM Tryz.func140 h0 (n := 14) rfl (by simp) <| sr <| ne (E_box H (vs := [uV x1, uV x2, uV x3, uV x4]) J J) J J ?_
 rintro _ wd8 ⟨b9, rfl, H⟩
 refine qa J J <| sr <| ne (E_alloc H ty42 (zs := [.slice none 0 0]) J) J J ?_
 rintro _ wd10 ⟨b11, rfl, H⟩
 refine WL_nil <| x_then <| C_seq <| sr <| nq (v := .agg #[uV x1, uV x2, uV x3, uV x4]) (Q_ldB (k := 1) (cs := [uV x1, uV x2, uV x3, uV x4]) H.ok J ty39 J J J (fun h => nomatch h) J) J J ?_
 obtain ⟨q12, hq12, hF⟩ := bnd hF
 refine ne (E_call fn169 J (c_169 H gle   hq12)) J J ?_
 rintro _ wd13 ⟨b14, rfl, rfl, H⟩
 try dsimp only at hF
 refine WL_nil <| x_then <| C_block ?_
 have H := H.nilArr 1
 replace H := H.e3.f2
 obtain ⟨q15, hq15, hF⟩ := bnd hF
 obtain ⟨q1051_, b16⟩ := q15
 refine C_range (σ := (List Int)) (α := Int) (s0 := []) (r := (q1051_, b16)) (I := (fun ρ (s : (List Int)) A => ∃ (v17 : Value) (c18 : (List Value)) (x19 : (List Int)), x19 = s ∧ A = Star [Box b11 [v17], Arr v17 1 c18] ∧ rdL (eI .u8) ρ x19 c18)) (R := (fun _ x args => args = #[iV x])) (Y := (fun x s => F_40 N x s)) [Box b14 [uV x1, uV x2, uV x3, uV x4]] (fun _ => .ret) J fn197 (Hp.star (L := [Box b11 [.slice none 0 0], Arr (.slice none 0 0) 1 ([])]) H) ⟨(.slice none 0 0), [], [], J, J, rdL.nil⟩ J ?_ ?_ ?_
 ·intro a_ hfa l fn_ D
  refine ⟨?_⟩
  intro C w ρ hs s A x20 args r21 hle hIx hA22 H hF23
  obtain ⟨v17, c18, x19, rfl, rfl, r24⟩ := hIx
  obtain rfl := hA22
  replace gle := GErrs.up hle gle
  replace gl18 := GTab.up hle gl18
  replace hF23 : F_40 N x20 x19 = some r21 := hF23
  unfold F_40 at hF23
  refine yieldAt (n := 14) (E := ((7, iV x20) :: [(2, .slice none 0 0), (3, pV b11 0)])) (ps := [7]) (vs := [iV x20]) H J J J J J J J ?_ (Fr.params (E := [(2, .slice none 0 0), (3, pV b11 0)]) ⟨hfa.size, rfl, (hfa.sub (E' := [(2, .slice none 0 0), (3, pV b11 0)]) ⟨rfl, rfl, trivial⟩).slots⟩ (by decide) rfl)
  obtain ⟨o, ho, H⟩ := H.ydOpen
  dsimp only [List.cons_append, List.nil_append] at H
  refine R_nd <| nq (Q_assign J) J J <| WL_nil <| x_begin (by rw [ho]; rfl) H ?_
  intro wd25 H
  refine C_block <| R_nd <| nq (v := v17) (Q_ldB (k := 1) (cs := [v17]) H.ok rfl ty42 J J rfl (fun _ => J) J) J J <| qm J J <| nq (Q_cvI ⟨_, Tryz.underlying3⟩ Tryz.underlying5 J) J J <| ne (E_bslice (xs := [.tmp 10]) (vs := [.int .u8 (IntKind.wrap .u8 x20)]) H Tryz.underlying42 ty5 (by decide) (cs := [.int .u8 (IntKind.wrap .u8 x20)]) rfl (sz_cons rfl sz_nil) rfl (by simp) (by simp) J J) J J ?_
  rintro _ wd26 ⟨b27, rfl, H⟩
  obtain ⟨x28, hx28, hF23⟩ := bnd hF23
  obtain ⟨ha114a, ha114b⟩ := app_some hx28
  have r29 : rdL (eI .u8) ρ x28 (c18 ++ ([.int .u8 (IntKind.wrap .u8 x20)])) := ha114b ▸ rdL.app r24 (show rdL (eI .u8) ρ ([IntKind.wrap .u8 x20]) ([.int .u8 (IntKind.wrap .u8 x20)]) from ⟨([.int .u8 (IntKind.wrap .u8 x20)]), _, rfl, rfl, rdL.nil⟩)
  refine ne (E_append (k := 3) H rfl Tryz.underlying42 ty5 rfl (by decide) (by decide) J rfl (Src.ofArr (k := 0) H.ok rfl) (rdL.one (show rdL (eI .u8) ρ ([IntKind.wrap .u8 x20]) ([.int .u8 (IntKind.wrap .u8 x20)]) from ⟨([.int .u8 (IntKind.wrap .u8 x20)]), _, rfl, rfl, rdL.nil⟩)) (app_fit r24 (show rdL (eI .u8) ρ ([IntKind.wrap .u8 x20]) ([.int .u8 (IntKind.wrap .u8 x20)]) from ⟨([.int .u8 (IntKind.wrap .u8 x20)]), _, rfl, rfl, rdL.nil⟩) ha114a)) J J ?_
  rintro v30 wd31 ⟨H, hc32⟩
  dsimp only [List.set] at H
  refine ne (E_stB (k := 2) (cs := [v30]) (vs' := [v30]) H rfl ty42 J rfl (arr_cells (H.ok.get (k := 3) rfl)).1 rfl (one_cons (arr_cells (H.ok.get (k := 3) rfl)).2 one_nil) (by simp) J) J J ?_
  rintro _ wd33 H
  dsimp only [List.set] at H
  refine WL_nil <| x_block ?_
  replace H := H.e0.f2.f2.f2
  obtain rfl := oi hF23
  subst ho
  refine x_round H (fun w_ H => ?_)
  exact ⟨J, ρ, _, (View.le_refl _), ⟨v30, (c18 ++ ([.int .u8 (IntKind.wrap .u8 x20)])), x28, J, J, r29⟩, Hp.ydClose (L := [Box b11 [v30], Arr v30 1 (c18 ++ ([.int .u8 (IntKind.wrap .u8 x20)]))]) H⟩
 ·intro l rec W hs' hY H
  refine (c_197 H gle gl18 hY ⟨(.slice none 0 0), [], [], rfl, rfl, rdL.nil⟩ (fun hl h => by obtain ⟨v17, c18, x19, e1_, e2_, r24⟩ := h; exact ⟨v17, c18, x19, e1_, e2_, rdL.up hl r24⟩)  hq15).mono fun e w' he => ?_
  obtain ⟨v, rfl, ρ', A', x, b, hr_, _, h1, h2, h3⟩ := he
  cases hr_
  exact ⟨_, J, ρ', A', h1, h2, h3⟩
 ·intro D120 wd34 ρ A' lw35 hIx H
  obtain ⟨v17, c18, x19, rfl, rfl, r24⟩ := hIx
  replace H := Hp.unstar H
  dsimp only [List.cons_append, List.nil_append] at H
  replace gle := GErrs.up lw35 gle
  replace gl18 := GTab.up lw35 gl18
  refine ⟨fun hb => ?_, fun hb => ?_⟩
  ·subst hb
   try dsimp only at hF
   refine x_block <| xs <| nq (v := v17) (Q_ldB (k := 0) (cs := [v17]) H.ok J ty42 J J J (fun _ => J) J) J J <| qa J J <| C_ret ?_
   replace H := H.f2
   refine x_take H ?_
   intro wd36 H
   have hRV : RV Tryz.prog wd36 [(2, v17)] [.tmp 2] [v17] := ⟨rfl, trivial⟩
   replace H := H.e0
   obtain rfl := oi hF
   exact fn_retM (rs := [.tmp 2]) (vs := [v17]) J hRV ⟨ρ, v17, c18, x19, J, J, lw35, r24, H⟩
  ·subst hb
   try dsimp only at hF
   cases hF
theorem c_111_1 {N : Nat} {C : Cx} {w : World} {ρ : View} {hs : List Hl} {gV : Nat → Value} {b1 : Nat} {c2 : List Value} {v3 : Value} {c4 : List Value} {v5 : Value} {c6 : List Value} {v7 : Value} {v8 : Value} {v9 : Value} {b10 : Nat} {c11 : List Value} {v12 : Value} {c13 : List Value} {v14 : Value} {x15 : (List (List Int))} {x16 : (List Int)} {x17 : (List Int)} {x18 : (List ((List Int) × (Int × Int × Int × Int) × Int × Int))} {x19 : (List Int)} {x20 : (List (ByteArray × Int))} {x21 : (List ((List Int) × Int))} {x22 : Int} {x23 : Int} {x24 : (List (Int × Int × Int × Int))} (H : Hp C w ρ (Box b1 [v3, v5, v7, v8, v9, .map (some b10), v12, errV errIds gV x22] :: Arr v3 256 c2 :: Arr v5 1 c4 :: Arr v7 1 c6 :: Mp kS (Value.int .i64) b10 x20 :: Arr v12 1 c11 :: Arr v14 4 c13 :: hs)) (gle : GErrs ρ 394 errIds gV) (gl18 : GTab ρ 18 .u8 tab_math_bits_deBruijn64tab) (r25 : rdL (eA 256 (eI .i64)) ρ x15 c2) (r26 : rdL (eI .i64) ρ x16 c4) (r27 : rdL (eI .i64) ρ x17 c6) (r28 : RdSl ρ (eP (eL (eI .i64)) (eP (eP (eI .u64) (eP (eI .u64) (eP (eI .u64) (eI .u64)))) (eP (eI .i64) (eI .i64)))) v8 x18) (r29 : RdSl ρ (eI .i64) v9 x19) (r30 : rdL (eQ (eP (eL (eI .u64)) (eI .i64))) ρ x21 c11) (r31 : rdL (eP (eI .u64) (eP (eI .u64) (eP (eI .u64) (eI .u64)))) ρ x24 c13) {r : ((List (List Int)) × (List Int) × (List (ByteArray × Int)) × (List ((List Int) × Int)) × Int)} (hF : F_11 N x15 x16 x17 x18 x19 x20 x21 x22 x23 x24 = some r) :
  Calls Tryz.prog 111 [pV b1 0, iV x23, v14].toArray w (Rets (fun v w' => (∃ (ρ' : View) (v32 : Value) (c33 : (List Value)) (v34 : Value) (c35 : (List Value)) (v36 : Value) (c37 : (List Value)) (x38 : (List (List Int))) (x39 : (List Int)) (x40 : (List (ByteArray × Int))) (x41 : (List ((List Int) × Int))) (x42 : Int), (x38, x39, x40, x41, x42) = r ∧ .tuple [].toArray = v ∧ View.le ρ ρ' ∧ rdL (eA 256 (eI .i64)) ρ' x38 c33 ∧ rdL (eI .i64) ρ' x39 c35 ∧ rdL (eQ (eP (eL (eI .u64)) (eI .i64))) ρ' x41 c37 ∧ Hp C w' ρ' (Box b1 [v32, v34, v7, v8, v9, .map (some b10), v36, errV errIds gV x42] :: Arr v32 256 c33 :: Arr v34 1 c35 :: Arr v7 1 c6 :: Mp kS (Value.int .i64) b10 x40 :: Arr v36 1 c37 :: Arr v14 4 c13 :: hs)))) := by
 unfold F_11 at hF
 have h0 : Tryz.f111.body = some _ := rfl
 refine fn_calls' Tryz.func111 h0 (n := 53) rfl (by simp) <| sr <| qm J J <| nq (Q_lenA (k := 6) H.ok rfl r31 (by decide) Tryz.underlying72 J) J J <| qm J J <| WL_nil <| x_then ?_
 obtain ⟨o43, ho43, hF⟩ := bnd hF
 refine C_cutQ (fun a w' => ∃ (ρ' : View) (v44 : Value) (c45 : (List Value)) (v46 : Value) (c47 : (List Value)) (v48 : Value) (c49 : (List Value)) (x50 : (List (List Int))) (x51 : (List Int)) (x52 : (List (ByteArray × Int))) (x53 : (List ((List Int) × Int))) (x54 : Int), View.le ρ ρ' ∧ (x50, x51, x52, x53, x54) = o43 ∧ rdL (eA 256 (eI .i64)) ρ' x50 c45 ∧ rdL (eI .i64) ρ' x51 c47 ∧ rdL (eQ (eP (eL (eI .u64)) (eI .i64))) ρ' x53 c49 ∧ Fr 53 a [] ∧ Hp C w' ρ' (Box b1 [v44, v46, v7, v8, v9, .map (some b10), v48, errV errIds gV x54] :: Arr v44 256 c45 :: Arr v46 1 c47 :: Arr v7 1 c6 :: Mp kS (Value.int .i64) b10 x52 :: Arr v48 1 c49 :: Arr v14 4 c13 :: hs)) ?_ ?_
 ·refine C_block ?_
  refine C_iter (f := fun s => F_58 N x17 x18 x19 x23 x24 s.1 s.2.1 s.2.2.1 s.2.2.2.1 s.2.2.2.2.1 s.2.2.2.2.2) ho43 (fun s a w' => ∃ (ρ' : View) (v55 : Value) (c56 : (List Value)) (v57 : Value) (c58 : (List Value)) (v59 : Value) (c60 : (List Value)) (x61 : (List (List Int))) (x62 : (List Int)) (x63 : (List (ByteArray × Int))) (x64 : (List ((List Int) × Int))) (x65 : Int) (x66 : Int), View.le ρ ρ' ∧ (x61, x62, x63, x64, x65, x66) = s ∧ rdL (eA 256 (eI .i64)) ρ' x61 c56 ∧ rdL (eI .i64) ρ' x62 c58 ∧ rdL (eQ (eP (eL (eI .u64)) (eI .i64))) ρ' x64 c60 ∧ Fr 53 a [(0, pV b1 0), (1, iV x23), (11, v14), (12, iV (x24.length : Int)), (13, iV x66)] ∧ Hp C w' ρ' (Box b1 [v55, v57, v7, v8, v9, .map (some b10), v59, errV errIds gV x65] :: Arr v55 256 c56 :: Arr v57 1 c58 :: Arr v7 1 c6 :: Mp kS (Value.int .i64) b10 x63 :: Arr v59 1 c60 :: Arr v14 4 c13 :: hs)) ?_ ?_
  ·exact fun a hf => ⟨ρ, v3, c2, v5, c4, v12, c11, x15, x16, x20, x21, x22, 0, (View.le_refl _), J, r25, r26, r30, hf.sub ⟨J, J, J, J, J, trivial⟩, H⟩
  ·rintro s o67 a wd68 ⟨ρ, v55, c56, v57, c58, v59, c60, x61, x62, x63, x64, x65, x66, lw69, rfl, r70, r71, r72, hf, H⟩ hB73 hO74
   replace hB73 : F_58 N x17 x18 x19 x23 x24 x61 x62 x63 x64 x65 x66 = some o67 := hB73
   unfold F_58 at hB73
   refine CW.at hf ?_
   replace r27 := rdL.up lw69 r27
   replace r28 := RdSl.up lw69 r28
   replace r29 := RdSl.up lw69 r29
   replace r31 := rdL.up lw69 r31
   replace gle := GErrs.up lw69 gle
   replace gl18 := GTab.up lw69 gl18
   refine sr <| nq (Q_lss J J) J J <| WL_nil <| x_then <| C_seq ?_
   refine C_cond J (fun hb => ?_) (fun hb => ?_)
   ·replace hB73 := itT hb hB73
    refine C_skip <| x_then <| C_seq <| C_block <| C_seq <| R_nd ?_
    obtain ⟨x75, hx75, hB73⟩ := bnd hB73
    obtain ⟨b76, o77, hi78, hc79, ha80⟩ := arr_at (hs := [Arr v14 4 c13]) (k := 0) (by decide) (H.okS (by simp)) rfl r31 hx75
    refine nq (Q_idx hi78 Tryz.underlying72 ty39 J J) J J ?_
    obtain ⟨c81, c82, he83, hc84, hc85⟩ := (id hc79)
    obtain ⟨c86, c87, he88, hc89, hc90⟩ := hc85
    obtain ⟨c91, c92, he93, hc94, hc95⟩ := hc90
    refine nq (v := .agg #[uV x75.1, uV x75.2.1, uV x75.2.2.1, uV x75.2.2.2]) (Q_ld (show cellsAt _ _ _ [uV x75.1, uV x75.2.1, uV x75.2.2.1, uV x75.2.2.2] from cellsAt.cg (cat2 he83 (rdI hc84) (cat2 he88 (rdI hc89) (cat2 he93 (rdI hc94) (rdI hc95)))) (ha80 _ (Ok.subS (by simp) H.ok))) ty39 rfl (fun h => nomatch h) J J) J J <| ne (E_alloc H ty39 (zs := [uV 0, uV 0, uV 0, uV 0]) J) J J ?_
    rintro _ wd96 ⟨b97, rfl, H⟩
    refine ne (E_stB (k := 0) (cs := [uV x75.1, uV x75.2.1, uV x75.2.2.1, uV x75.2.2.2]) (vs' := [uV x75.1, uV x75.2.1, uV x75.2.2.1, uV x75.2.2.2]) H rfl ty39 J J J rfl (one_cons rfl (one_cons rfl (one_cons rfl (one_cons rfl one_nil)))) (by simp) J) J J ?_
    rintro _ wd98 H
    dsimp only [List.set] at H
    refine WL_nil <| x_then <| C_seq <| R_dr (.take 0 (.take 1 (.take 2 (.take 3 (.take 4 (.take 5 (.take 6 (.take 7 (.take 8 (.take 9 (.take 10 (.take 11 (.take 12 (.one 13 (.take 14 (.one 15 (.bar 16 none (.take 17 .done)))))))))))))))))) (some 16) (S := fun w' => Ok w' ρ [Box b97 [uV x75.1, uV x75.2.1, uV x75.2.2.1, uV x75.2.2.2], Box b1 [v55, v57, v7, v8, v9, .map (some b10), v59, errV errIds gV x65], Arr v55 256 c56, Arr v57 1 c58, Arr v7 1 c6, Mp kS (Value.int .i64) b10 x63, Arr v59 1 c60, Arr v14 4 c13]) hm0 (by kernel_rfl) (H.drew.okS (by simp)) ?_
    replace H := H.drew
    refine dq rfl (fun _ _ => Q_move J) J J <| dq rfl (fun _ _ => Q_move J) J J <| dq rfl (fun _ _ => Q_nilP J) J J <| dq (v := pV b1 3) rfl (fun _ _ => Q_fld Tryz.underlying178 rfl ty25 (by decide) J J) J J <| dq (v := .agg #[v8, v9]) rfl (fun _ hw => Q_ldB (k := 1) (cs := [v8, v9]) hw rfl ty25 J J rfl (fun h => nomatch h) J) J J <| dq rfl (fun _ _ => Q_move J) J J <| dq rfl (fun _ _ => Q_nilP J) J J <| dq (v := pV b1 6) rfl (fun _ _ => Q_fld Tryz.underlying178 rfl ty176 (by decide) J J) J J <| dq (v := v59) rfl (fun _ hw => Q_ldB (k := 1) (cs := [v59]) hw rfl ty176 J J rfl (fun _ => J) J) J J <| dq rfl (fun _ _ => Q_move J) J J ?_
    obtain ⟨x99, hx99, hB73⟩ := bnd hB73
    obtain ⟨b100, o101, hi102, hc103, ha104⟩ := arr_at (hs := [Arr v59 1 c60]) (k := 0) (by decide) (H.okS (by simp)) rfl r72 hx99
    refine dq J (fun _ _ => Q_idx hi102 Tryz.underlying176 ty51 J J) J J ?_
    obtain ⟨b105, c106, he107, ha108, hc109⟩ := (id hc103)
    refine dq (v := pV b105 0) rfl (fun _ hw => Q_ld (show cellsAt _ _ _ [pV b105 0] from he107 ▸ (ha104 _ (Ok.subS (by simp) hw))) ty51 rfl (fun _ => J) J J) J J <| dq (v := .agg #[uV x75.1, uV x75.2.1, uV x75.2.2.1, uV x75.2.2.2]) rfl (fun _ hw => Q_ldB (k := 0) (cs := [uV x75.1, uV x75.2.1, uV x75.2.2.1, uV x75.2.2.2]) hw rfl ty39 J J rfl (fun h => nomatch h) J) J J ?_
    obtain ⟨q110, hq110, hB73⟩ := bnd hB73
    refine d1 (de J (E_call fn94 J (c_94 H gle gl18  hq110)) J J ?_)
    rintro _ wd111 ⟨ρ, x112, rfl, rfl, lw113, H⟩
    try dsimp only at hB73
    replace r70 := rdL.up lw113 r70
    replace r71 := rdL.up lw113 r71
    replace r27 := rdL.up lw113 r27
    replace r28 := RdSl.up lw113 r28
    replace r29 := RdSl.up lw113 r29
    replace r72 := rdL.up lw113 r72
    replace r31 := rdL.up lw113 r31
    replace hc103 := Enc.up _ lw113 hc103
    replace ha104 := fun w ok => ha104 w (Ok.low lw113 ok)
    replace hc109 := Enc.up _ lw113 hc109
    replace ha108 := cellsAt.up lw113 ha108
    replace gle := GErrs.up lw113 gle
    replace gl18 := GTab.up lw113 gl18
    refine ⟨(H.okS (by simp)).low lw113, ?_⟩
    refine dq J (fun _ _ => Q_cvI ⟨_, Tryz.underlying3⟩ Tryz.underlying5 J) J J ?_
    obtain ⟨q114, hq114, hB73⟩ := bnd hB73
    refine d1 (de J (E_call fn37 J (c_37_1 H gle gl18 r28 r29 hc109 ha108 hq114)) J J ?_)
    rintro _ wd115 ⟨b116, v117, c118, x119, rfl, rfl, r120, H⟩
    try dsimp only at hB73
    refine ⟨(H.okS (by simp)).low lw113, ?_⟩
    replace H := H.f8.f8.f8.f8.f8.f8
    obtain ⟨q121, hq121, hB73⟩ := bnd hB73
    refine db J (E_call fn110 J (c_110_1 H gle gl18 r70 r71 r27 r28 r29 r72 r120 hq121)) J J ?_
    rintro _ wd122 ⟨ρ, v123, c124, v125, c126, v127, c128, x129, x130, x131, x132, x133, x134, rfl, rfl, lw135, r136, r137, r138, H⟩
    try dsimp only at hB73
    replace r70 := rdL.up lw135 r70
    replace r71 := rdL.up lw135 r71
    replace r27 := rdL.up lw135 r27
    replace r28 := RdSl.up lw135 r28
    replace r29 := RdSl.up lw135 r29
    replace r72 := rdL.up lw135 r72
    replace r31 := rdL.up lw135 r31
    replace hc103 := Enc.up _ lw135 hc103
    replace ha104 := fun w ok => ha104 w (Ok.low lw135 ok)
    replace hc109 := Enc.up _ lw135 hc109
    replace ha108 := cellsAt.up lw135 ha108
    replace r120 := rdL.up lw135 r120
    replace gle := GErrs.up lw135 gle
    replace gl18 := GTab.up lw135 gl18
    refine H.okF <| dq J (fun _ _ => Q_assign J) J J <| DL_nil <| xs <| nq (v := .agg #[uV x75.1, uV x75.2.1, uV x75.2.2.1, uV x75.2.2.2]) (Q_ldB (k := 6) (cs := [uV x75.1, uV x75.2.1, uV x75.2.2.1, uV x75.2.2.2]) H.ok J ty39 J J J (fun h => nomatch h) J) J J ?_
    obtain ⟨q139, hq139, hB73⟩ := bnd hB73
    refine ne (E_call fn140 J (c_140 H gle gl18  hq139)) J J ?_
    rintro _ wd140 ⟨ρ, v141, c142, x143, rfl, rfl, lw144, r145, H⟩
    try dsimp only at hB73
    replace r136 := rdL.up lw144 r136
    replace r137 := rdL.up lw144 r137
    replace r27 := rdL.up lw144 r27
    replace r28 := RdSl.up lw144 r28
    replace r29 := RdSl.up lw144 r29
    replace r138 := rdL.up lw144 r138
    replace r31 := rdL.up lw144 r31
    replace gle := GErrs.up lw144 gle
    replace gl18 := GTab.up lw144 gl18
    refine nq (Q_lenA (k := 0) H.ok rfl r145 (by decide) Tryz.underlying42 J) J J <| qm J J <| WL_nil <| x_then ?_
    obtain ⟨o146, ho146, hB73⟩ := bnd hB73
    refine C_cutQ (fun a w' => ∃ (c147 : (List Value)) (x148 : (List (List Int))), x148 = o146 ∧ rdL (eA 256 (eI .i64)) ρ x148 c147 ∧ Fr 53 a [(0, pV b1 0), (1, iV x23), (11, v14), (12, iV (x24.length : Int)), (13, iV x66)] ∧ Hp C w' ρ (Box b1 [v123, v125, v7, v8, v9, .map (some b10), v127, errV errIds gV x133] :: Arr v123 256 c147 :: Arr v125 1 c126 :: Arr v7 1 c6 :: Mp kS (Value.int .i64) b10 x131 :: Arr v127 1 c128 :: Arr v14 4 c13 :: hs)) ?_ ?_
    ·refine C_block ?_
     replace H := H.e7.f7.f7.f7.f7.f7.f7.f7
     refine C_iter (f := fun s => F_45 N x23 x134 x143 s.1 s.2) ho146 (fun s a w' => ∃ (c149 : (List Value)) (x150 : (List (List Int))) (x151 : Int), (x150, x151) = s ∧ rdL (eA 256 (eI .i64)) ρ x150 c149 ∧ Fr 53 a [(0, pV b1 0), (1, iV x23), (8, iV x134), (11, v14), (12, iV (x24.length : Int)), (13, iV x66), (35, v141), (36, iV (x143.length : Int)), (37, iV x151)] ∧ Hp C w' ρ (Box b1 [v123, v125, v7, v8, v9, .map (some b10), v127, errV errIds gV x133] :: Arr v123 256 c149 :: Arr v125 1 c126 :: Arr v7 1 c6 :: Mp kS (Value.int .i64) b10 x131 :: Arr v127 1 c128 :: Arr v14 4 c13 :: Arr v141 1 c142 :: hs)) ?_ ?_
     ·exact fun a hf => ⟨c124, x129, 0, J, r136, hf.sub ⟨J, J, J, J, J, J, J, J, J, trivial⟩, H⟩
     ·rintro s o152 a wd153 ⟨c149, x150, x151, rfl, r154, hf, H⟩ hB155 hO156
      replace hB155 : F_45 N x23 x134 x143 x150 x151 = some o152 := hB155
      unfold F_45 at hB155
      refine CW.at hf <| sr <| nq (Q_lss J J) J J <| WL_nil <| x_then <| C_seq ?_
      refine C_cond J (fun hb => ?_) (fun hb => ?_)
      ·replace hB155 := itT hb hB155
       refine C_skip <| x_then <| C_seq <| C_block <| C_seq <| R_nd ?_
       obtain ⟨x157, hx157, hB155⟩ := bnd hB155
       obtain ⟨b158, o159, hi160, hc161, ha162⟩ := arr_at (hs := [Arr v141 1 c142]) (k := 0) (by decide) (H.okS (by simp)) rfl r145 hx157
       refine nq (Q_idx hi160 Tryz.underlying42 ty5 J J) J J <| nq (v := .int .u8 x157) (Q_ld (show cellsAt _ _ _ [.int .u8 x157] from (show _ = [_] from hc161) ▸ (ha162 _ (Ok.subS (by simp) H.ok))) ty5 rfl (fun _ => J) J J) J J <| qa J J <| R_nd <| qm J J <| nq (Q_nilP J) J J <| nq (v := pV b1 0) (Q_fld Tryz.underlying178 rfl ty78 (by decide) J J) J J <| nq (v := pV b1 0) (Q_fld Tryz.underlying78 rfl ty76 (by decide) J J) J J <| nq (v := v123) (Q_ldB (k := 0) (cs := [v123]) H.ok rfl ty76 J J rfl (fun _ => J) J) J J <| qm J J <| qm J J <| qm J J ?_
       obtain ⟨x163, hx163, hB155⟩ := bnd hB155
       obtain ⟨b164, o165, hi166, hc167, ha168⟩ := arr_at (hs := [Arr v123 256 c149]) (k := 0) (by decide) (H.okS (by simp)) rfl r154 hx163
       refine nq (Q_idx hi166 Tryz.underlying76 ty88 J J) J J ?_
       obtain ⟨x169, hx169, hB155⟩ := bnd hB155
       have hn170 := idx_lt hc167.1 hx169
       refine nq (Q_idxA hn170.1 hn170.2 Tryz.underlying88 ty3 J J) J J ?_
       obtain ⟨x171, hx171, hB155⟩ := bnd hB155
       obtain ⟨x172, hx172, hB155⟩ := bnd hB155
       have r173 : rdL (eA 256 (eI .i64)) ρ x172 (setC c149 (x23.toNat * 256 + x157.toNat * 1) [iV x134]) := rdL_set2 (e := (eI .i64)) (N := 256) r154 hc167 hx171 hx172 (rfl)
       refine ne (E_stA (k := 1) (j := x157.toNat * 1) (c := [iV x134]) H J ty3 hi166 J J J J (one_cons J one_nil) (idx_fit (N := 256) (m := 1) (idx_lt hc167.1 hx169))) J J ?_
       rintro _ wd174 H
       dsimp only [List.set] at H
       refine WL_nil <| x_block <| x_then <| R_nd <| nq (Q_add J J) J J <| qm J J <| WL_nil ?_
       obtain rfl := oi hB155
       refine x_A fun a hf => ⟨_, J, (setC c149 (x23.toNat * 256 + x157.toNat * 1) [iV x134]), x172, w64 (x151 + 1), J, r173, hf.sub ⟨J, J, J, J, J, J, J, J, J, trivial⟩, H⟩
      ·replace hB155 := itF hb hB155
       refine C_exit <| x_then_exit <| x_then_exit <| x_block_exit ?_
       replace H := H.e7
       obtain rfl := oi hB155
       obtain rfl := hO156 _ rfl
       refine x_A fun a hf => ⟨c149, x150, J, r154, hf.sub ⟨J, J, J, J, J, trivial⟩, H⟩
    ·rintro a wd175 ⟨c147, x148, rfl, r176, hf, H⟩
     try dsimp only at hB73
     refine XX.at hf <| x_block <| x_then <| R_nd <| nq (Q_add J J) J J <| qm J J <| WL_nil ?_
     obtain rfl := oi hB73
     refine x_A fun a hf => ⟨_, J, ρ, v123, c147, v125, c126, v127, c128, x148, x130, x131, x132, x133, w64 (x66 + 1), (View.le_trans lw69 (View.le_trans lw113 (View.le_trans lw135 lw144))), J, r176, r137, r138, hf.sub ⟨J, J, J, J, J, trivial⟩, H⟩
   ·replace hB73 := itF hb hB73
    refine C_exit <| x_then_exit <| x_then_exit <| x_block_exit ?_
    obtain rfl := oi hB73
    obtain rfl := hO74 _ rfl
    refine x_A fun a hf => ⟨ρ, v55, c56, v57, c58, v59, c60, x61, x62, x63, x64, x65, lw69, J, r70, r71, r72, hf.sub trivial, H⟩
 ·rintro a wd177 ⟨ρ, v44, c45, v46, c47, v48, c49, x50, x51, x52, x53, x54, lw178, rfl, r179, r180, r181, hf, H⟩
  try dsimp only at hF
  replace r27 := rdL.up lw178 r27
  replace r28 := RdSl.up lw178 r28
  replace r29 := RdSl.up lw178 r29
  replace r31 := rdL.up lw178 r31
  replace gle := GErrs.up lw178 gle
  replace gl18 := GTab.up lw178 gl18
  refine XX.at hf ?_
  obtain rfl := oi hF
  exact fn_end (l := []) (vs := []) J J J ⟨ρ, v44, c45, v46, c47, v48, c49, x50, x51, x52, x53, x54, J, J, lw178, r179, r180, r181, H⟩
theorem c_63 {N : Nat} {C : Cx} {w : World} {ρ : View} {hs : List Hl} {gV : Nat → Value} {v1 : Value} {v2 : Value} {x3 : (List ((List Int) × (Int × Int × Int × Int) × Int × Int))} {x4 : (List Int)} (H : Hp C w ρ (hs)) (gle : GErrs ρ 394 errIds gV) (gl18 : GTab ρ 18 .u8 tab_math_bits_deBruijn64tab) (r5 : RdSl ρ (eP (eL (eI .i64)) (eP (eP (eI .u64) (eP (eI .u64) (eP (eI .u64) (eI .u64)))) (eP (eI .i64) (eI .i64)))) v1 x3) (r6 : RdSl ρ (eI .i64) v2 x4) {r : ((List (List Int)) × (List Int) × (List Int) × Int)} (hF : F_6 N x3 x4 = some r) :
  Calls Tryz.prog 63 [.agg #[v1, v2]].toArray w (Rets (fun v w' => (∃ (ρ' : View) (v7 : Value) (c8 : (List Value)) (v9 : Value) (c10 : (List Value)) (v11 : Value) (c12 : (List Value)) (x13 : (List (List Int))) (x14 : (List Int)) (x15 : (List Int)) (x16 : Int), (x13, x14, x15, x16) = r ∧ .tuple [.agg #[v7, v9, v11], errV errIds gV x16].toArray = v ∧ View.le ρ ρ' ∧ rdL (eA 256 (eI .i64)) ρ' x13 c8 ∧ rdL (eI .i64) ρ' x14 c10 ∧ rdL (eI .i64) ρ' x15 c12 ∧ Hp C w' ρ' (Arr v7 256 c8 :: Arr v9 1 c10 :: Arr v11 1 c12 :: hs)))) := by
 unfold F_6 at hF
 have h0 : Tryz.f63.body = some _ := rfl
 refine fn_calls' Tryz.func63 h0 (n := 80) rfl (by simp) <| sr <| ne (E_box H (vs := [v1, v2]) J J) J J ?_
 rintro _ wd17 ⟨b18, rfl, H⟩
 refine ne (E_alloc H ty78 (zs := [.slice none 0 0, .slice none 0 0, .slice none 0 0]) J) J J ?_
 rintro _ wd19 ⟨b20, rfl, H⟩
 refine qa J J <| C_seq <| sr <| nq (v := .agg #[v1, v2]) (Q_ldB (k := 1) (cs := [v1, v2]) H.ok J ty25 J J J (fun h => nomatch h) J) J J ?_
 obtain ⟨q21, hq21, hF⟩ := bnd hF
 refine ne (E_call fn18 J (c_18 H gle  r5 r6 hq21)) J J ?_
 rintro _ wd22 ⟨x23, rfl, rfl, H⟩
 try dsimp only at hF
 refine nq (Q_not J) J J <| WL_nil <| x_then ?_
 refine C_cond J (fun hb => ?_) (fun hb => ?_)
 ·replace hF := itT hb hF
  obtain ⟨o24, ho24, hF⟩ := bnd hF
  refine C_cut (fun a w' => Fr 80 a [(2, pV b20 0), (3, errV errIds gV 2)] ∧ Hp C w' ρ (Box b20 [.slice none 0 0, .slice none 0 0, .slice none 0 0] :: hs)) ?_ ?_
  ·refine R_dr (.take 0 (.take 1 (.one 2 (.take 3 .done)))) none (S := fun w' => Ok w' ρ [Box b20 [.slice none 0 0, .slice none 0 0, .slice none 0 0], Box b18 [v1, v2]]) hm0 (by kernel_rfl) (H.drew.okS (by simp)) ?_
   replace H := H.drew
   refine dq (v := .agg #[.slice none 0 0, .slice none 0 0, .slice none 0 0]) rfl (fun _ _ => Q_buildS st78.choose_spec (ps := []) rfl trivial J) J J <| dq (v := errV errIds gV 2) rfl (fun _ hw => Q_ldV hw gle (by decide) ty53) J J ?_
   refine d1 (de rfl (E_stB (k := 0) (cs := [.slice none 0 0, .slice none 0 0, .slice none 0 0]) (vs' := [.slice none 0 0, .slice none 0 0, .slice none 0 0]) H rfl ty78 J J J rfl (one_cons rfl (one_cons rfl (one_cons rfl one_nil))) (by simp) J) J J ?_)
   rintro _ wd25 H
   dsimp only [List.set] at H
   refine ⟨H.okS (by simp), ?_⟩
   refine dq J (fun _ _ => Q_assign J) J J <| DL_nil ?_
   replace H := H.e1
   obtain rfl := oi ho24
   refine x_A fun a hf => ⟨hf.sub ⟨J, J, trivial⟩, H⟩
  ·rintro a wd26 ⟨hf, H⟩
   try dsimp only at hF
   refine CW.at hf <| C_ret <| x_then_ret ?_
   have H := H.nilArr 256
   have H := H.nilArr 1
   have H := H.nilArr 1
   have hRV : RV Tryz.prog wd26 [(2, pV b20 0), (3, errV errIds gV 2)] [.cell 2 78, .tmp 3] [.agg #[(.slice none 0 0), (.slice none 0 0), (.slice none 0 0)], errV errIds gV 2] := ⟨⟨_, rfl, run_ldv ty78 rfl (fun h => nomatch h) (box_at (H.ok.get (k := 3) rfl) 0 3)⟩, rfl, trivial⟩
   replace H := H.e3.f1.f2
   obtain rfl := oi hF
   exact fn_retV (rs := [.cell 2 78, .tmp 3]) (vs := [.agg #[(.slice none 0 0), (.slice none 0 0), (.slice none 0 0)], errV errIds gV 2]) J hRV ⟨ρ, (.slice none 0 0), [], (.slice none 0 0), [], (.slice none 0 0), [], [], [], [], 2, J, J, (View.le_refl _), rdL.nil, rdL.nil, rdL.nil, H⟩
 ·replace hF := itF hb hF
  refine C_skip <| xs <| nq (v := .agg #[v1, v2]) (Q_ldB (k := 1) (cs := [v1, v2]) H.ok J ty25 J J J (fun h => nomatch h) J) J J <| ne (E_makeMap kS (Value.int .i64) H) J J ?_
  rintro _ wd27 ⟨b28, rfl, H⟩
  refine nq (v := .agg #[.slice none 0 0, .slice none 0 0, .slice none 0 0, v1, v2, .map (some b28), .slice none 0 0, .nilIface]) (Q_buildS st178.choose_spec (ps := [(3, [v1, v2]), (5, [.map (some b28)])]) rfl ⟨rfl, rfl, by simp, ⟨rfl, rfl, by simp, trivial⟩⟩ J) J J <| ne (E_box H (vs := [.slice none 0 0, .slice none 0 0, .slice none 0 0, v1, v2, .map (some b28), .slice none 0 0, .nilIface]) J J) J J ?_
  rintro _ wd29 ⟨b30, rfl, H⟩
  refine qa J J <| sr <| qm J J <| nq (v := .agg #[v1, v2]) (Q_ldB (k := 3) (cs := [v1, v2]) H.ok J ty25 J J J (fun h => nomatch h) J) J J ?_
  obtain ⟨q31, hq31, hF⟩ := bnd hF
  refine ne (E_call fn35 J (c_35 H gle  r5 r6 hq31)) J J ?_
  rintro _ wd32 ⟨b33, v34, c35, x36, rfl, rfl, r37, H⟩
  try dsimp only at hF
  have H := H.nilArr 256
  have H := H.nilArr 1
  have H := H.nilArr 1
  have H := H.nilArr 1
  replace H := H.f7.f2.f3.f4.f7
  obtain ⟨q38, hq38, hF⟩ := bnd hF
  refine ne (E_call fn110 J (c_110 H gle gl18 rdL.nil rdL.nil rdL.nil r5 r6 rdL.nil r37 hq38)) J J ?_
  rintro _ wd39 ⟨ρ, v40, c41, v42, c43, v44, c45, x46, x47, x48, x49, x50, x51, rfl, rfl, lw52, r53, r54, r55, H⟩
  try dsimp only at hF
  replace r5 := RdSl.up lw52 r5
  replace r6 := RdSl.up lw52 r6
  replace r37 := rdL.up lw52 r37
  replace gle := GErrs.up lw52 gle
  replace gl18 := GTab.up lw52 gl18
  refine WL_nil <| x_then <| C_seq <| sr <| nq (v := pV b18 1) (Q_fld Tryz.underlying25 rfl ty23 (by decide) J J) J J <| nq (v := v2) (Q_ldB (k := 7) (cs := [v2]) H.ok rfl ty23 J J rfl (fun _ => J) J) J J <| nq (Q_len Tryz.underlying23 rfl r6) J J <| qm J J <| WL_nil <| x_then ?_
  obtain ⟨o56, ho56, hF⟩ := bnd hF
  refine C_cutQ (fun a w' => ∃ (ρ' : View) (v57 : Value) (c58 : (List Value)) (v59 : Value) (c60 : (List Value)) (v61 : Value) (c62 : (List Value)) (v63 : Value) (c64 : (List Value)) (x65 : (List (List Int))) (x66 : (List Int)) (x67 : (List Int)) (x68 : (List (ByteArray × Int))) (x69 : (List ((List Int) × Int))) (x70 : Int), View.le ρ ρ' ∧ (x65, x66, x67, x68, x69, x70) = o56 ∧ rdL (eA 256 (eI .i64)) ρ' x65 c58 ∧ rdL (eI .i64) ρ' x66 c60 ∧ rdL (eI .i64) ρ' x67 c62 ∧ rdL (eQ (eP (eL (eI .u64)) (eI .i64))) ρ' x69 c64 ∧ Fr 80 a [(1, pV b18 0), (2, pV b20 0), (4, pV b30 0)] ∧ Hp C w' ρ' (Box b18 [v1, v2] :: Box b20 [.slice none 0 0, .slice none 0 0, .slice none 0 0] :: Box b30 [v57, v59, v61, v1, v2, .map (some b28), v63, errV errIds gV x70] :: Arr v57 256 c58 :: Arr v59 1 c60 :: Arr v61 1 c62 :: Mp kS (Value.int .i64) b28 x68 :: Arr v63 1 c64 :: hs)) ?_ ?_
  ·refine C_block ?_
   replace H := H.f6.f7
   refine C_iter (f := fun s => F_35 N x3 x4 s.1 s.2.1 s.2.2.1 s.2.2.2.1 s.2.2.2.2.1 s.2.2.2.2.2.1 s.2.2.2.2.2.2) ho56 (fun s a w' => ∃ (ρ' : View) (v71 : Value) (c72 : (List Value)) (v73 : Value) (c74 : (List Value)) (v75 : Value) (c76 : (List Value)) (v77 : Value) (c78 : (List Value)) (x79 : Int) (x80 : (List (List Int))) (x81 : (List Int)) (x82 : (List Int)) (x83 : (List (ByteArray × Int))) (x84 : (List ((List Int) × Int))) (x85 : Int), View.le ρ ρ' ∧ (x79, x80, x81, x82, x83, x84, x85) = s ∧ rdL (eA 256 (eI .i64)) ρ' x80 c72 ∧ rdL (eI .i64) ρ' x81 c74 ∧ rdL (eI .i64) ρ' x82 c76 ∧ rdL (eQ (eP (eL (eI .u64)) (eI .i64))) ρ' x84 c78 ∧ Fr 80 a [(1, pV b18 0), (2, pV b20 0), (4, pV b30 0), (23, iV (x4.length : Int)), (24, iV x79)] ∧ Hp C w' ρ' (Box b18 [v1, v2] :: Box b20 [.slice none 0 0, .slice none 0 0, .slice none 0 0] :: Box b30 [v71, v73, v75, v1, v2, .map (some b28), v77, errV errIds gV x85] :: Arr v71 256 c72 :: Arr v73 1 c74 :: Arr v75 1 c76 :: Mp kS (Value.int .i64) b28 x83 :: Arr v77 1 c78 :: hs)) ?_ ?_
   ·exact fun a hf => ⟨ρ, v40, c41, v42, c43, (.slice none 0 0), ([]), v44, c45, 0, x46, x47, ([]), x48, x49, x50, (View.le_refl _), J, r53, r54, rdL.nil, r55, hf.sub ⟨J, J, J, J, J, trivial⟩, H⟩
   ·rintro s o86 a wd87 ⟨ρ, v71, c72, v73, c74, v75, c76, v77, c78, x79, x80, x81, x82, x83, x84, x85, lw88, rfl, r89, r90, r91, r92, hf, H⟩ hB93 hO94
    replace hB93 : F_35 N x3 x4 x79 x80 x81 x82 x83 x84 x85 = some o86 := hB93
    unfold F_35 at hB93
    refine CW.at hf ?_
    replace r5 := RdSl.up lw88 r5
    replace r6 := RdSl.up lw88 r6
    replace gle := GErrs.up lw88 gle
    replace gl18 := GTab.up lw88 gl18
    refine sr <| nq (Q_lss J J) J J <| WL_nil <| x_then <| C_seq ?_
    refine C_cond J (fun hb => ?_) (fun hb => ?_)
    ·replace hB93 := itT hb hB93
     refine C_skip <| x_then <| C_seq <| C_block <| sr <| qm J J <| qa J J ?_
     obtain ⟨o95, ho95, hB93⟩ := bnd hB93
     refine C_cutQ (fun a w' => ∃ (ρ' : View) (v96 : Value) (c97 : (List Value)) (v98 : Value) (c99 : (List Value)) (v100 : Value) (c101 : (List Value)) (v102 : Value) (c103 : (List Value)) (x104 : (List (List Int))) (x105 : (List Int)) (x106 : (List Int)) (x107 : (List (ByteArray × Int))) (x108 : (List ((List Int) × Int))) (x109 : Int), View.le ρ ρ' ∧ (x104, x105, x106, x107, x108, x109) = o95 ∧ rdL (eA 256 (eI .i64)) ρ' x104 c97 ∧ rdL (eI .i64) ρ' x105 c99 ∧ rdL (eI .i64) ρ' x106 c101 ∧ rdL (eQ (eP (eL (eI .u64)) (eI .i64))) ρ' x108 c103 ∧ Fr 80 a [(1, pV b18 0), (2, pV b20 0), (4, pV b30 0), (23, iV (x4.length : Int)), (24, iV x79)] ∧ Hp C w' ρ' (Box b18 [v1, v2] :: Box b20 [.slice none 0 0, .slice none 0 0, .slice none 0 0] :: Box b30 [v96, v98, v100, v1, v2, .map (some b28), v102, errV errIds gV x109] :: Arr v96 256 c97 :: Arr v98 1 c99 :: Arr v100 1 c101 :: Mp kS (Value.int .i64) b28 x107 :: Arr v102 1 c103 :: hs)) ?_ ?_
     ·refine R_dr (.take 0 (.take 1 (.take 2 (.take 3 (.take 4 (.take 6 (.take 7 (.take 8 (.two 5 9 (.one 9 (.one 10 (.one 11 (.one 12 (.take 13 (.take 14 (.take 15 (.bar 16 none .done)))))))) (.two 5 10 (.one 10 (.one 11 (.one 12 (.take 13 (.take 14 (.take 15 (.bar 16 none .done))))))) (.two 5 11 (.one 11 (.one 12 (.take 13 (.take 14 (.take 15 (.bar 16 none .done)))))) (.one 5 (.one 12 (.take 13 (.take 14 (.take 15 (.bar 16 none .done))))))))))))))))) (some 16) (S := fun w' => Ok w' ρ [Box b18 [v1, v2], Box b20 [.slice none 0 0, .slice none 0 0, .slice none 0 0]]) hm0 (by kernel_rfl) (H.drew.okS (by simp)) ?_
      replace H := H.drew
      refine dq rfl (fun _ _ => Q_move J) J J <| dq rfl (fun _ _ => Q_move J) J J <| dq rfl (fun _ _ => Q_nilP J) J J <| dq (v := pV b30 0) rfl (fun _ _ => Q_fld Tryz.underlying178 rfl ty78 (by decide) J J) J J <| dq (v := pV b30 2) rfl (fun _ _ => Q_fld Tryz.underlying78 rfl ty23 (by decide) J J) J J <| dq rfl (fun _ _ => Q_move J) J J <| dq (v := .agg #[v1, v2]) rfl (fun _ hw => Q_ldB (k := 0) (cs := [v1, v2]) hw rfl ty25 J J rfl (fun h => nomatch h) J) J J <| dq rfl (fun _ _ => Q_move J) J J ?_
      refine d2 ?_ ?_
      ·refine de J (Eff.quiet (v := v75) (Q_ldB (k := 2) (cs := [v75]) H.ok J ty23 J J J (fun _ => J) J)) J J ?_
       rintro _ _ ⟨rfl, rfl⟩
       refine ⟨H.okS (by simp), ?_⟩
       obtain ⟨q110, hq110, ho95⟩ := bnd ho95
       refine d1 (de J (E_call fn35 J (c_35 H gle  r5 r6 hq110)) J J ?_)
       rintro _ wd111 ⟨b112, v113, c114, x115, rfl, rfl, r116, H⟩
       try dsimp only at ho95
       refine ⟨H.okS (by simp), ?_⟩
       replace H := H.f9.f9.f9.f9.f9.f9
       obtain ⟨q117, hq117, ho95⟩ := bnd ho95
       refine d1 (de J (E_call fn110 J (c_110_1 H gle gl18 r89 r90 r91 r5 r6 r92 r116 hq117)) J J ?_)
       rintro _ wd118 ⟨ρ, v119, c120, v121, c122, v123, c124, x125, x126, x127, x128, x129, x130, rfl, rfl, lw131, r132, r133, r134, H⟩
       try dsimp only at ho95
       replace r5 := RdSl.up lw131 r5
       replace r6 := RdSl.up lw131 r6
       replace r89 := rdL.up lw131 r89
       replace r90 := rdL.up lw131 r90
       replace r91 := rdL.up lw131 r91
       replace r92 := rdL.up lw131 r92
       replace r116 := rdL.up lw131 r116
       replace gle := GErrs.up lw131 gle
       replace gl18 := GTab.up lw131 gl18
       refine ⟨(H.okS (by simp)).low lw131, ?_⟩
       refine d1 (de rfl (E_bslice (xs := [.tmp 37]) (vs := [iV x130]) H Tryz.underlying23 ty3 (by decide) (cs := [iV x130]) rfl (sz_cons rfl sz_nil) rfl (by simp) (by simp) J J) J J ?_)
       rintro _ wd135 ⟨b136, rfl, H⟩
       refine ⟨(H.okS (by simp)).low lw131, ?_⟩
       obtain ⟨x137, hx137, ho95⟩ := bnd ho95
       obtain ⟨ha3436a, ha3436b⟩ := app_some hx137
       have r138 : rdL (eI .i64) ρ x137 (c76 ++ ([iV x130])) := ha3436b ▸ rdL.app r91 (show rdL (eI .i64) ρ ([x130]) ([iV x130]) from ⟨([iV x130]), _, rfl, rfl, rdL.nil⟩)
       refine d1 (de rfl (E_append (k := 4) H rfl Tryz.underlying23 ty3 rfl (by decide) (by decide) J rfl (Src.ofArr (k := 0) H.ok rfl) (rdL.one (show rdL (eI .i64) ρ ([x130]) ([iV x130]) from ⟨([iV x130]), _, rfl, rfl, rdL.nil⟩)) (app_fit r91 (show rdL (eI .i64) ρ ([x130]) ([iV x130]) from ⟨([iV x130]), _, rfl, rfl, rdL.nil⟩) ha3436a)) J J ?_)
       rintro v139 wd140 ⟨H, hc141⟩
       dsimp only [List.set] at H
       refine ⟨(H.okS (by simp)).low lw131, ?_⟩
       refine dq rfl (fun _ _ => Q_nilP J) J J <| dq (v := pV b30 0) rfl (fun _ _ => Q_fld Tryz.underlying178 rfl ty78 (by decide) J J) J J <| dq (v := pV b30 2) rfl (fun _ _ => Q_fld Tryz.underlying78 rfl ty23 (by decide) J J) J J <| db rfl (E_stB (k := 1) (cs := [v139]) (vs' := [v119, v121, v139, v1, v2, .map (some b28), v123, errV errIds gV x129]) H rfl ty23 J rfl (arr_cells (H.ok.get (k := 4) rfl)).1 rfl (one_cons (arr_cells (H.ok.get (k := 4) rfl)).2 one_nil) (by simp) J) J J ?_
       rintro _ wd142 H
       dsimp only [List.set] at H
       refine H.okF <| DL_nil ?_
       replace H := H.e0.f7.f7
       obtain rfl := oi ho95
       refine x_A fun a hf => ⟨ρ, v119, c120, v121, c122, v139, (c76 ++ ([iV x130])), v123, c124, x125, x126, x137, x127, x128, x129, lw131, J, r132, r133, r138, r134, hf.sub ⟨J, J, J, J, J, trivial⟩, H⟩
      ·obtain ⟨q143, hq143, ho95⟩ := bnd ho95
       refine de J (E_call fn35 J (c_35 H gle  r5 r6 hq143)) J J ?_
       rintro _ wd144 ⟨b145, v146, c147, x148, rfl, rfl, r149, H⟩
       try dsimp only at ho95
       refine ⟨H.okS (by simp), ?_⟩
       refine d2 ?_ ?_
       ·refine de J (Eff.quiet (v := v75) (Q_ldB (k := 4) (cs := [v75]) H.ok J ty23 J J J (fun _ => J) J)) J J ?_
        rintro _ _ ⟨rfl, rfl⟩
        refine ⟨H.okS (by simp), ?_⟩
        replace H := H.f9.f9.f9.f9.f9.f9
        obtain ⟨q150, hq150, ho95⟩ := bnd ho95
        refine d1 (de J (E_call fn110 J (c_110_1 H gle gl18 r89 r90 r91 r5 r6 r92 r149 hq150)) J J ?_)
        rintro _ wd151 ⟨ρ, v152, c153, v154, c155, v156, c157, x158, x159, x160, x161, x162, x163, rfl, rfl, lw164, r165, r166, r167, H⟩
        try dsimp only at ho95
        replace r5 := RdSl.up lw164 r5
        replace r6 := RdSl.up lw164 r6
        replace r89 := rdL.up lw164 r89
        replace r90 := rdL.up lw164 r90
        replace r91 := rdL.up lw164 r91
        replace r92 := rdL.up lw164 r92
        replace r149 := rdL.up lw164 r149
        replace gle := GErrs.up lw164 gle
        replace gl18 := GTab.up lw164 gl18
        refine ⟨(H.okS (by simp)).low lw164, ?_⟩
        refine d1 (de rfl (E_bslice (xs := [.tmp 37]) (vs := [iV x163]) H Tryz.underlying23 ty3 (by decide) (cs := [iV x163]) rfl (sz_cons rfl sz_nil) rfl (by simp) (by simp) J J) J J ?_)
        rintro _ wd168 ⟨b169, rfl, H⟩
        refine ⟨(H.okS (by simp)).low lw164, ?_⟩
        obtain ⟨x170, hx170, ho95⟩ := bnd ho95
        obtain ⟨ha3472a, ha3472b⟩ := app_some hx170
        have r171 : rdL (eI .i64) ρ x170 (c76 ++ ([iV x163])) := ha3472b ▸ rdL.app r91 (show rdL (eI .i64) ρ ([x163]) ([iV x163]) from ⟨([iV x163]), _, rfl, rfl, rdL.nil⟩)
        refine d1 (de rfl (E_append (k := 4) H rfl Tryz.underlying23 ty3 rfl (by decide) (by decide) J rfl (Src.ofArr (k := 0) H.ok rfl) (rdL.one (show rdL (eI .i64) ρ ([x163]) ([iV x163]) from ⟨([iV x163]), _, rfl, rfl, rdL.nil⟩)) (app_fit r91 (show rdL (eI .i64) ρ ([x163]) ([iV x163]) from ⟨([iV x163]), _, rfl, rfl, rdL.nil⟩) ha3472a)) J J ?_)
        rintro v172 wd173 ⟨H, hc174⟩
        dsimp only [List.set] at H
        refine ⟨(H.okS (by simp)).low lw164, ?_⟩
        refine dq rfl (fun _ _ => Q_nilP J) J J <| dq (v := pV b30 0) rfl (fun _ _ => Q_fld Tryz.underlying178 rfl ty78 (by decide) J J) J J <| dq (v := pV b30 2) rfl (fun _ _ => Q_fld Tryz.underlying78 rfl ty23 (by decide) J J) J J <| db rfl (E_stB (k := 1) (cs := [v172]) (vs' := [v152, v154, v172, v1, v2, .map (some b28), v156, errV errIds gV x162]) H rfl ty23 J rfl (arr_cells (H.ok.get (k := 4) rfl)).1 rfl (one_cons (arr_cells (H.ok.get (k := 4) rfl)).2 one_nil) (by simp) J) J J ?_
        rintro _ wd175 H
        dsimp only [List.set] at H
        refine H.okF <| DL_nil ?_
        replace H := H.e0.f7.f7
        obtain rfl := oi ho95
        refine x_A fun a hf => ⟨ρ, v152, c153, v154, c155, v172, (c76 ++ ([iV x163])), v156, c157, x158, x159, x170, x160, x161, x162, lw164, J, r165, r166, r171, r167, hf.sub ⟨J, J, J, J, J, trivial⟩, H⟩
       ·replace H := H.f9.f9.f9.f9.f9.f9
        obtain ⟨q176, hq176, ho95⟩ := bnd ho95
        refine de J (E_call fn110 J (c_110_1 H gle gl18 r89 r90 r91 r5 r6 r92 r149 hq176)) J J ?_
        rintro _ wd177 ⟨ρ, v178, c179, v180, c181, v182, c183, x184, x185, x186, x187, x188, x189, rfl, rfl, lw190, r191, r192, r193, H⟩
        try dsimp only at ho95
        replace r5 := RdSl.up lw190 r5
        replace r6 := RdSl.up lw190 r6
        replace r89 := rdL.up lw190 r89
        replace r90 := rdL.up lw190 r90
        replace r91 := rdL.up lw190 r91
        replace r92 := rdL.up lw190 r92
        replace r149 := rdL.up lw190 r149
        replace gle := GErrs.up lw190 gle
        replace gl18 := GTab.up lw190 gl18
        refine ⟨(H.okS (by simp)).low lw190, ?_⟩
        refine d2 ?_ ?_
        ·refine de J (Eff.quiet (v := v75) (Q_ldB (k := 0) (cs := [v75]) H.ok J ty23 J J J (fun _ => J) J)) J J ?_
         rintro _ _ ⟨rfl, rfl⟩
         refine ⟨(H.okS (by simp)).low lw190, ?_⟩
         refine d1 (de rfl (E_bslice (xs := [.tmp 37]) (vs := [iV x189]) H Tryz.underlying23 ty3 (by decide) (cs := [iV x189]) rfl (sz_cons rfl sz_nil) rfl (by simp) (by simp) J J) J J ?_)
         rintro _ wd194 ⟨b195, rfl, H⟩
         refine ⟨(H.okS (by simp)).low lw190, ?_⟩
         obtain ⟨x196, hx196, ho95⟩ := bnd ho95
         obtain ⟨ha3500a, ha3500b⟩ := app_some hx196
         have r197 : rdL (eI .i64) ρ x196 (c76 ++ ([iV x189])) := ha3500b ▸ rdL.app r91 (show rdL (eI .i64) ρ ([x189]) ([iV x189]) from ⟨([iV x189]), _, rfl, rfl, rdL.nil⟩)
         refine d1 (de rfl (E_append (k := 4) H rfl Tryz.underlying23 ty3 rfl (by decide) (by decide) J rfl (Src.ofArr (k := 0) H.ok rfl) (rdL.one (show rdL (eI .i64) ρ ([x189]) ([iV x189]) from ⟨([iV x189]), _, rfl, rfl, rdL.nil⟩)) (app_fit r91 (show rdL (eI .i64) ρ ([x189]) ([iV x189]) from ⟨([iV x189]), _, rfl, rfl, rdL.nil⟩) ha3500a)) J J ?_)
         rintro v198 wd199 ⟨H, hc200⟩
         dsimp only [List.set] at H
         refine ⟨(H.okS (by simp)).low lw190, ?_⟩
         refine dq rfl (fun _ _ => Q_nilP J) J J <| dq (v := pV b30 0) rfl (fun _ _ => Q_fld Tryz.underlying178 rfl ty78 (by decide) J J) J J <| dq (v := pV b30 2) rfl (fun _ _ => Q_fld Tryz.underlying78 rfl ty23 (by decide) J J) J J <| db rfl (E_stB (k := 1) (cs := [v198]) (vs' := [v178, v180, v198, v1, v2, .map (some b28), v182, errV errIds gV x188]) H rfl ty23 J rfl (arr_cells (H.ok.get (k := 4) rfl)).1 rfl (one_cons (arr_cells (H.ok.get (k := 4) rfl)).2 one_nil) (by simp) J) J J ?_
         rintro _ wd201 H
         dsimp only [List.set] at H
         refine H.okF <| DL_nil ?_
         replace H := H.e0.f7.f7
         obtain rfl := oi ho95
         refine x_A fun a hf => ⟨ρ, v178, c179, v180, c181, v198, (c76 ++ ([iV x189])), v182, c183, x184, x185, x196, x186, x187, x188, lw190, J, r191, r192, r197, r193, hf.sub ⟨J, J, J, J, J, trivial⟩, H⟩
        ·refine de rfl (E_bslice (xs := [.tmp 37]) (vs := [iV x189]) H Tryz.underlying23 ty3 (by decide) (cs := [iV x189]) rfl (sz_cons rfl sz_nil) rfl (by simp) (by simp) J J) J J ?_
         rintro _ wd202 ⟨b203, rfl, H⟩
         refine ⟨(H.okS (by simp)).low lw190, ?_⟩
         refine d1 (de J (Eff.quiet (v := v75) (Q_ldB (k := 1) (cs := [v75]) H.ok J ty23 J J J (fun _ => J) J)) J J ?_)
         rintro _ _ ⟨rfl, rfl⟩
         refine ⟨(H.okS (by simp)).low lw190, ?_⟩
         obtain ⟨x204, hx204, ho95⟩ := bnd ho95
         obtain ⟨ha3509a, ha3509b⟩ := app_some hx204
         have r205 : rdL (eI .i64) ρ x204 (c76 ++ ([iV x189])) := ha3509b ▸ rdL.app r91 (show rdL (eI .i64) ρ ([x189]) ([iV x189]) from ⟨([iV x189]), _, rfl, rfl, rdL.nil⟩)
         refine d1 (de rfl (E_append (k := 4) H rfl Tryz.underlying23 ty3 rfl (by decide) (by decide) J rfl (Src.ofArr (k := 0) H.ok rfl) (rdL.one (show rdL (eI .i64) ρ ([x189]) ([iV x189]) from ⟨([iV x189]), _, rfl, rfl, rdL.nil⟩)) (app_fit r91 (show rdL (eI .i64) ρ ([x189]) ([iV x189]) from ⟨([iV x189]), _, rfl, rfl, rdL.nil⟩) ha3509a)) J J ?_)
         rintro v206 wd207 ⟨H, hc208⟩
         dsimp only [List.set] at H
         refine ⟨(H.okS (by simp)).low lw190, ?_⟩
         refine dq rfl (fun _ _ => Q_nilP J) J J <| dq (v := pV b30 0) rfl (fun _ _ => Q_fld Tryz.underlying178 rfl ty78 (by decide) J J) J J <| dq (v := pV b30 2) rfl (fun _ _ => Q_fld Tryz.underlying78 rfl ty23 (by decide) J J) J J <| db rfl (E_stB (k := 1) (cs := [v206]) (vs' := [v178, v180, v206, v1, v2, .map (some b28), v182, errV errIds gV x188]) H rfl ty23 J rfl (arr_cells (H.ok.get (k := 4) rfl)).1 rfl (one_cons (arr_cells (H.ok.get (k := 4) rfl)).2 one_nil) (by simp) J) J J ?_
         rintro _ wd209 H
         dsimp only [List.set] at H
         refine H.okF <| DL_nil ?_
         replace H := H.e0.f7.f7
         obtain rfl := oi ho95
         refine x_A fun a hf => ⟨ρ, v178, c179, v180, c181, v206, (c76 ++ ([iV x189])), v182, c183, x184, x185, x204, x186, x187, x188, lw190, J, r191, r192, r205, r193, hf.sub ⟨J, J, J, J, J, trivial⟩, H⟩
     ·rintro a wd210 ⟨ρ, v96, c97, v98, c99, v100, c101, v102, c103, x104, x105, x106, x107, x108, x109, lw211, rfl, r212, r213, r214, r215, hf, H⟩
      try dsimp only at hB93
      replace r5 := RdSl.up lw211 r5
      replace r6 := RdSl.up lw211 r6
      replace gle := GErrs.up lw211 gle
      replace gl18 := GTab.up lw211 gl18
      refine XX.at hf <| x_block <| x_then <| R_nd <| nq (Q_add J J) J J <| qm J J <| WL_nil ?_
      obtain rfl := oi hB93
      refine x_A fun a hf => ⟨_, J, ρ, v96, c97, v98, c99, v100, c101, v102, c103, w64 (x79 + 1), x104, x105, x106, x107, x108, x109, (View.le_trans lw88 lw211), J, r212, r213, r214, r215, hf.sub ⟨J, J, J, J, J, trivial⟩, H⟩
    ·replace hB93 := itF hb hB93
     refine C_exit <| x_then_exit <| x_then_exit <| x_block_exit ?_
     obtain rfl := oi hB93
     obtain rfl := hO94 _ rfl
     refine x_A fun a hf => ⟨ρ, v71, c72, v73, c74, v75, c76, v77, c78, x80, x81, x82, x83, x84, x85, lw88, J, r89, r90, r91, r92, hf.sub ⟨J, J, J, trivial⟩, H⟩
  ·rintro a wd216 ⟨ρ, v57, c58, v59, c60, v61, c62, v63, c64, x65, x66, x67, x68, x69, x70, lw217, rfl, r218, r219, r220, r221, hf, H⟩
   try dsimp only at hF
   replace r5 := RdSl.up lw217 r5
   replace r6 := RdSl.up lw217 r6
   replace gle := GErrs.up lw217 gle
   replace gl18 := GTab.up lw217 gl18
   refine XX.at hf <| xs <| nq (v := .agg #[v1, v2]) (Q_ldB (k := 0) (cs := [v1, v2]) H.ok J ty25 J J J (fun h => nomatch h) J) J J ?_
   obtain ⟨q222, hq222, hF⟩ := bnd hF
   refine ne (E_call fn43 J (c_43 H gle gl18 r5 r6 hq222)) J J ?_
   rintro _ wd223 ⟨v224, c225, x226, rfl, rfl, r227, H⟩
   try dsimp only at hF
   refine qa J J <| C_seq <| sr <| qa J J ?_
   obtain ⟨o228, ho228, hF⟩ := bnd hF
   refine C_cutQ (fun a w' => ∃ (ρ' : View) (v229 : Value) (c230 : (List Value)) (v231 : Value) (c232 : (List Value)) (v233 : Value) (c234 : (List Value)) (x235 : (List (List Int))) (x236 : (List Int)) (x237 : (List (ByteArray × Int))) (x238 : (List ((List Int) × Int))) (x239 : Int), View.le ρ ρ' ∧ (x235, x236, x237, x238, x239) = o228 ∧ rdL (eA 256 (eI .i64)) ρ' x235 c230 ∧ rdL (eI .i64) ρ' x236 c232 ∧ rdL (eQ (eP (eL (eI .u64)) (eI .i64))) ρ' x238 c234 ∧ Fr 80 a [(2, pV b20 0), (4, pV b30 0)] ∧ Hp C w' ρ' (Box b20 [.slice none 0 0, .slice none 0 0, .slice none 0 0] :: Box b30 [v229, v231, v61, v1, v2, .map (some b28), v233, errV errIds gV x239] :: Arr v229 256 c230 :: Arr v231 1 c232 :: Arr v61 1 c62 :: Mp kS (Value.int .i64) b28 x237 :: Arr v233 1 c234 :: hs)) ?_ ?_
   ·refine C_block ?_
    replace H := H.e1.f7.f7.f7.f7.f7.f7.f7
    refine C_iter (f := fun s => F_26 N x3 x4 x67 x226 s.1 s.2.1 s.2.2.1 s.2.2.2.1 s.2.2.2.2.1 s.2.2.2.2.2) ho228 (fun s a w' => ∃ (ρ' : View) (v240 : Value) (c241 : (List Value)) (v242 : Value) (c243 : (List Value)) (v244 : Value) (c245 : (List Value)) (x246 : (List (List Int))) (x247 : (List Int)) (x248 : (List (ByteArray × Int))) (x249 : (List ((List Int) × Int))) (x250 : Int) (x251 : Int), View.le ρ ρ' ∧ (x246, x247, x248, x249, x250, x251) = s ∧ rdL (eA 256 (eI .i64)) ρ' x246 c241 ∧ rdL (eI .i64) ρ' x247 c243 ∧ rdL (eQ (eP (eL (eI .u64)) (eI .i64))) ρ' x249 c245 ∧ Fr 80 a [(2, pV b20 0), (4, pV b30 0), (6, v224), (7, iV x251)] ∧ Hp C w' ρ' (Box b20 [.slice none 0 0, .slice none 0 0, .slice none 0 0] :: Box b30 [v240, v242, v61, v1, v2, .map (some b28), v244, errV errIds gV x250] :: Arr v240 256 c241 :: Arr v242 1 c243 :: Arr v61 1 c62 :: Mp kS (Value.int .i64) b28 x248 :: Arr v244 1 c245 :: Arr v224 4 c225 :: hs)) ?_ ?_
    ·exact fun a hf => ⟨ρ, v57, c58, v59, c60, v63, c64, x65, x66, x68, x69, x70, 0, (View.le_refl _), J, r218, r219, r221, hf.sub ⟨J, J, J, J, trivial⟩, H⟩
    ·rintro s o252 a wd253 ⟨ρ, v240, c241, v242, c243, v244, c245, x246, x247, x248, x249, x250, x251, lw254, rfl, r255, r256, r257, hf, H⟩ hB258 hO259
     replace hB258 : F_26 N x3 x4 x67 x226 x246 x247 x248 x249 x250 x251 = some o252 := hB258
     unfold F_26 at hB258
     refine CW.at hf ?_
     replace r220 := rdL.up lw254 r220
     replace r5 := RdSl.up lw254 r5
     replace r6 := RdSl.up lw254 r6
     replace r227 := rdL.up lw254 r227
     replace gle := GErrs.up lw254 gle
     replace gl18 := GTab.up lw254 gl18
     refine C_seq ?_
     obtain ⟨o260, ho260, hB258⟩ := bnd hB258
     refine C_cut (fun a w' => ∃ (x261 : Bool), x261 = o260 ∧ Fr 80 a [(2, pV b20 0), (4, pV b30 0), (6, v224), (7, iV x251), (59, .bool x261)] ∧ Hp C w' ρ (Box b20 [.slice none 0 0, .slice none 0 0, .slice none 0 0] :: Box b30 [v240, v242, v61, v1, v2, .map (some b28), v244, errV errIds gV x250] :: Arr v240 256 c241 :: Arr v242 1 c243 :: Arr v61 1 c62 :: Mp kS (Value.int .i64) b28 x248 :: Arr v244 1 c245 :: Arr v224 4 c225 :: hs)) ?_ ?_
     ·refine R_nd <| qm J J <| qm J J <| nq (Q_nilP J) J J <| nq (v := pV b30 6) (Q_fld Tryz.underlying178 rfl ty176 (by decide) J J) J J <| nq (v := v244) (Q_ldB (k := 1) (cs := [v244]) H.ok rfl ty176 J J rfl (fun _ => J) J) J J <| nq (Q_lenA (k := 6) H.ok rfl r257 (by decide) Tryz.underlying176 J) J J <| nq (Q_lss J J) J J <| qm J J ?_
      rcases Bool.eq_false_or_eq_true (decide (x251 < (x249.length : Int))) with hb | hb
      ·rw [hb]
       replace ho260 := itT hb ho260
       refine gq (Q_move J) J J J <| gq (Q_nilP J) J J J <| gq (v := pV b30 7) (Q_fld Tryz.underlying178 rfl ty53 (by decide) J J) J J J <| gq (v := errV errIds gV x250) (Q_ldB (k := 1) (cs := [errV errIds gV x250]) H.ok rfl ty53 J J rfl (fun _ => J) J) J J J <| gq (v := .bool (!(eOk errIds x250))) (Q_eqlV Tryz.underlying53 gle J) J J J <| nq (Q_pickT J J) J J <| WL_nil ?_
       obtain rfl := oi ho260
       refine x_A fun a hf => ⟨!(eOk errIds x250), J, hf.sub ⟨J, J, J, J, J, trivial⟩, H⟩
      ·rw [hb]
       replace ho260 := itF hb ho260
       refine gs J J J J <| gs J J J J <| gs J J J J <| gs J J J J <| gs J J J J <| nq (Q_pickF J J) J J <| WL_nil ?_
       obtain rfl := oi ho260
       refine x_A fun a hf => ⟨false, J, hf.sub ⟨J, J, J, J, J, trivial⟩, H⟩
     ·rintro a wd262 ⟨x261, rfl, hf, H⟩
      try dsimp only at hB258
      refine CW.at hf ?_
      refine C_cond J (fun hb => ?_) (fun hb => ?_)
      ·replace hB258 := itT hb hB258
       refine C_skip <| x_then <| C_seq <| C_block <| R_nd <| qm J J <| qm J J <| qm J J ?_
       replace H := H.f7.f7.f7.f7.f7.f7.f7
       obtain ⟨q263, hq263, hB258⟩ := bnd hB258
       refine ne (E_call fn111 J (c_111_1 H gle gl18 r255 r256 r220 r5 r6 r257 r227 hq263)) J J ?_
       rintro _ wd264 ⟨ρ, v265, c266, v267, c268, v269, c270, x271, x272, x273, x274, x275, rfl, rfl, lw276, r277, r278, r279, H⟩
       try dsimp only at hB258
       replace r255 := rdL.up lw276 r255
       replace r256 := rdL.up lw276 r256
       replace r220 := rdL.up lw276 r220
       replace r5 := RdSl.up lw276 r5
       replace r6 := RdSl.up lw276 r6
       replace r257 := rdL.up lw276 r257
       replace r227 := rdL.up lw276 r227
       replace gle := GErrs.up lw276 gle
       replace gl18 := GTab.up lw276 gl18
       refine WL_nil <| x_block <| x_then <| R_nd <| qm J J <| nq (Q_add J J) J J <| nq (Q_assign J) J J <| WL_nil ?_
       replace H := H.f7
       obtain rfl := oi hB258
       refine x_A fun a hf => ⟨_, J, ρ, v265, c266, v267, c268, v269, c270, x271, x272, x273, x274, x275, w64 (x251 + 1), (View.le_trans lw254 lw276), J, r277, r278, r279, hf.sub ⟨J, J, J, J, trivial⟩, H⟩
      ·replace hB258 := itF hb hB258
       refine C_exit <| x_then_exit <| x_then_exit <| x_block_exit ?_
       replace H := H.e7
       obtain rfl := oi hB258
       obtain rfl := hO259 _ rfl
       refine x_A fun a hf => ⟨ρ, v240, c241, v242, c243, v244, c245, x246, x247, x248, x249, x250, lw254, J, r255, r256, r257, hf.sub ⟨J, J, trivial⟩, H⟩
   ·rintro a wd280 ⟨ρ, v229, c230, v231, c232, v233, c234, x235, x236, x237, x238, x239, lw281, rfl, r282, r283, r284, hf, H⟩
    try dsimp only at hF
    replace r220 := rdL.up lw281 r220
    replace r5 := RdSl.up lw281 r5
    replace r6 := RdSl.up lw281 r6
    replace gle := GErrs.up lw281 gle
    replace gl18 := GTab.up lw281 gl18
    refine XX.at hf <| x_then <| C_seq <| sr <| qm J J <| nq (Q_nilP J) J J <| nq (v := pV b30 7) (Q_fld Tryz.underlying178 rfl ty53 (by decide) J J) J J <| nq (v := errV errIds gV x239) (Q_ldB (k := 1) (cs := [errV errIds gV x239]) H.ok rfl ty53 J J rfl (fun _ => J) J) J J <| nq (v := .bool (eOk errIds x239)) (Q_neqV Tryz.underlying53 gle J) J J <| WL_nil <| x_then ?_
    refine C_cond J (fun hb => ?_) (fun hb => ?_)
    ·replace hF := itT hb hF
     obtain ⟨o285, ho285, hF⟩ := bnd hF
     refine C_cut (fun a w' => Fr 80 a [(2, pV b20 0), (3, errV errIds gV x239)] ∧ Hp C w' ρ (Box b20 [.slice none 0 0, .slice none 0 0, .slice none 0 0] :: hs)) ?_ ?_
     ·refine R_dr (.take 0 (.take 1 (.take 2 (.take 3 (.take 4 (.one 5 (.take 6 .done))))))) none (S := fun w' => Ok w' ρ [Box b20 [.slice none 0 0, .slice none 0 0, .slice none 0 0], Box b30 [v229, v231, v61, v1, v2, .map (some b28), v233, errV errIds gV x239], Arr v229 256 c230, Arr v231 1 c232, Arr v61 1 c62, Mp kS (Value.int .i64) b28 x237, Arr v233 1 c234]) hm0 (by kernel_rfl) (H.drew.okS (by simp)) ?_
      replace H := H.drew
      refine dq (v := .agg #[.slice none 0 0, .slice none 0 0, .slice none 0 0]) rfl (fun _ _ => Q_buildS st78.choose_spec (ps := []) rfl trivial J) J J <| dq rfl (fun _ _ => Q_move J) J J <| dq rfl (fun _ _ => Q_nilP J) J J <| dq (v := pV b30 7) rfl (fun _ _ => Q_fld Tryz.underlying178 rfl ty53 (by decide) J J) J J <| dq (v := errV errIds gV x239) rfl (fun _ hw => Q_ldB (k := 1) (cs := [errV errIds gV x239]) hw rfl ty53 J J rfl (fun _ => J) J) J J ?_
      refine d1 (de rfl (E_stB (k := 0) (cs := [.slice none 0 0, .slice none 0 0, .slice none 0 0]) (vs' := [.slice none 0 0, .slice none 0 0, .slice none 0 0]) H rfl ty78 J J J rfl (one_cons rfl (one_cons rfl (one_cons rfl one_nil))) (by simp) J) J J ?_)
      rintro _ wd286 H
      dsimp only [List.set] at H
      refine ⟨H.okS (by simp), ?_⟩
      refine dq J (fun _ _ => Q_assign J) J J <| DL_nil ?_
      replace H := H.e6.e5.e4.e3.e2.e1
      obtain rfl := oi ho285
      refine x_A fun a hf => ⟨hf.sub ⟨J, J, trivial⟩, H⟩
     ·rintro a wd287 ⟨hf, H⟩
      try dsimp only at hF
      refine CW.at hf <| C_ret <| x_then_ret ?_
      have H := H.nilArr 256
      have H := H.nilArr 1
      have H := H.nilArr 1
      have hRV : RV Tryz.prog wd287 [(2, pV b20 0), (3, errV errIds gV x239)] [.cell 2 78, .tmp 3] [.agg #[(.slice none 0 0), (.slice none 0 0), (.slice none 0 0)], errV errIds gV x239] := ⟨⟨_, rfl, run_ldv ty78 rfl (fun h => nomatch h) (box_at (H.ok.get (k := 3) rfl) 0 3)⟩, rfl, trivial⟩
      replace H := H.e3.f1.f2
      obtain rfl := oi hF
      exact fn_retV (rs := [.cell 2 78, .tmp 3]) (vs := [.agg #[(.slice none 0 0), (.slice none 0 0), (.slice none 0 0)], errV errIds gV x239]) J hRV ⟨ρ, (.slice none 0 0), [], (.slice none 0 0), [], (.slice none 0 0), [], [], [], [], x239, J, J, (View.le_trans lw52 (View.le_trans lw217 lw281)), rdL.nil, rdL.nil, rdL.nil, H⟩
    ·replace hF := itF hb hF
     refine C_skip <| xs <| qm J J <| nq (Q_nilP J) J J <| nq (v := pV b30 0) (Q_fld Tryz.underlying178 rfl ty78 (by decide) J J) J J <| nq (v := .agg #[v229, v231, v61]) (Q_ldB (k := 1) (cs := [v229, v231, v61]) H.ok rfl ty78 J J rfl (fun h => nomatch h) J) J J <| ne (E_stB (k := 0) (cs := [v229, v231, v61]) (vs' := [v229, v231, v61]) H rfl ty78 J J J rfl (one_cons (arr_cells (H.ok.get (k := 2) rfl)).2 (one_cons (arr_cells (H.ok.get (k := 3) rfl)).2 (one_cons (arr_cells (H.ok.get (k := 4) rfl)).2 one_nil))) (by simp) J) J J ?_
     rintro _ wd288 H
     dsimp only [List.set] at H
     refine qa J J <| C_ret ?_
     have hRV : RV Tryz.prog wd288 [(2, pV b20 0), (3, .nilIface)] [.cell 2 78, .tmp 3] [.agg #[v229, v231, v61], errV errIds gV 0] := ⟨⟨_, rfl, run_ldv ty78 rfl (fun h => nomatch h) (box_at (H.ok.get (k := 0) rfl) 0 3)⟩, rfl, trivial⟩
     replace H := H.e6.e5.e1.e0
     obtain rfl := oi hF
     exact fn_retV (rs := [.cell 2 78, .tmp 3]) (vs := [.agg #[v229, v231, v61], errV errIds gV 0]) J hRV ⟨ρ, v229, c230, v231, c232, v61, c62, x235, x236, x67, 0, J, J, (View.le_trans lw52 (View.le_trans lw217 lw281)), r282, r283, r220, H⟩
theorem c_65 {N : Nat} {C : Cx} {w : World} {ρ : View} {hs : List Hl} {gV : Nat → Value} {x1 : Int} (H : Hp C w ρ (hs)) (gle : GErrs ρ 394 errIds gV) {r : Int} (hF : F_28 N x1 = some r) :
  Calls Tryz.prog 65 [errV errIds gV x1].toArray w (Rets (fun v w' => (∃ (x2 : Int), x2 = r ∧ iV x2 = v ∧ Hp C w' ρ (hs)))) := by
 unfold F_28 at hF
 have h0 : Tryz.f65.body = some _ := rfl
 refine fn_calls' Tryz.func65 h0 (n := 40) rfl (by simp) <| sr <| qa J J <| C_seq <| sr <| qm J J <| nq (v := .bool (!(eOk errIds x1))) (Q_eqlV Tryz.underlying53 gle J) J J <| WL_nil <| x_then ?_
 refine C_cond J (fun hb => ?_) (fun hb => ?_)
 ·replace hF := itT hb hF
  refine sr <| qa J J <| C_ret <| x_then_ret ?_
  obtain rfl := oi hF
  exact fn_ret (l := [.tmp 2]) (vs := [iV 0]) J J J ⟨0, J, J, H⟩
 ·replace hF := itF hb hF
  refine C_skip <| xs <| nq (v := errV errIds gV 1) (Q_ldV H.ok gle (by decide) ty53) J J <| nq (v := errV errIds gV 3) (Q_ldV H.ok gle (by decide) ty53) J J <| nq (v := errV errIds gV 4) (Q_ldV H.ok gle (by decide) ty53) J J <| nq (v := errV errIds gV 2) (Q_ldV H.ok gle (by decide) ty53) J J <| nq (v := errV errIds gV 5) (Q_ldV H.ok gle (by decide) ty53) J J <| nq (v := errV errIds gV 6) (Q_ldV H.ok gle (by decide) ty53) J J <| nq (v := errV errIds gV 7) (Q_ldV H.ok gle (by decide) ty53) J J <| nq (v := errV errIds gV 8) (Q_ldV H.ok gle (by decide) ty53) J J <| nq (v := errV errIds gV 9) (Q_ldV H.ok gle (by decide) ty53) J J <| nq (v := errV errIds gV 10) (Q_ldV H.ok gle (by decide) ty53) J J ?_
  refine nq (v := errV errIds gV 11) (Q_ldV H.ok gle (by decide) ty53) J J <| nq (v := errV errIds gV 12) (Q_ldV H.ok gle (by decide) ty53) J J <| nq (v := errV errIds gV 13) (Q_ldV H.ok gle (by decide) ty53) J J <| nq (v := errV errIds gV 14) (Q_ldV H.ok gle (by decide) ty53) J J <| nq (v := errV errIds gV 15) (Q_ldV H.ok gle (by decide) ty53) J J <| nq (v := errV errIds gV 16) (Q_ldV H.ok gle (by decide) ty53) J J <| nq (v := errV errIds gV 17) (Q_ldV H.ok gle (by decide) ty53) J J <| nq (v := errV errIds gV 18) (Q_ldV H.ok gle (by decide) ty53) J J <| ne (E_bslice (xs := [.tmp 8, .tmp 9, .tmp 10, .tmp 11, .tmp 12, .tmp 13, .tmp 14, .tmp 15, .tmp 16, .tmp 17, .tmp 18, .tmp 19, .tmp 20, .tmp 21, .tmp 22, .tmp 23, .tmp 24, .tmp 25]) (vs := [errV errIds gV 1, errV errIds gV 3, errV errIds gV 4, errV errIds gV 2, errV errIds gV 5, errV errIds gV 6, errV errIds gV 7, errV errIds gV 8, errV errIds gV 9, errV errIds gV 10, errV errIds gV 11, errV errIds gV 12, errV errIds gV 13, errV errIds gV 14, errV errIds gV 15, errV errIds gV 16, errV errIds gV 17, errV errIds gV 18]) H Tryz.underlying181 ty53 (by decide) (cs := [errV errIds gV 1, errV errIds gV 3, errV errIds gV 4, errV errIds gV 2, errV errIds gV 5, errV errIds gV 6, errV errIds gV 7, errV errIds gV 8, errV errIds gV 9, errV errIds gV 10, errV errIds gV 11, errV errIds gV 12, errV errIds gV 13, errV errIds gV 14, errV errIds gV 15, errV errIds gV 16, errV errIds gV 17, errV errIds gV 18]) rfl (sz_cons (by rw [errV_cells gle]; rfl) (sz_cons (by rw [errV_cells gle]; rfl) (sz_cons (by rw [errV_cells gle]; rfl) (sz_cons (by rw [errV_cells gle]; rfl) (sz_cons (by rw [errV_cells gle]; rfl) (sz_cons (by rw [errV_cells gle]; rfl) (sz_cons (by rw [errV_cells gle]; rfl) (sz_cons (by rw [errV_cells gle]; rfl) (sz_cons (by rw [errV_cells gle]; rfl) (sz_cons (by rw [errV_cells gle]; rfl) (sz_cons (by rw [errV_cells gle]; rfl) (sz_cons (by rw [errV_cells gle]; rfl) (sz_cons (by rw [errV_cells gle]; rfl) (sz_cons (by rw [errV_cells gle]; rfl) (sz_cons (by rw [errV_cells gle]; rfl) (sz_cons (by rw [errV_cells gle]; rfl) (sz_cons (by rw [errV_cells gle]; rfl) (sz_cons (by rw [errV_cells gle]; rfl) sz_nil)))))))))))))))))) (by simp [errV_cells gle]) (by simp) (by simp) J J) J J ?_
  rintro _ wd3 ⟨b4, rfl, H⟩
  refine qa J J <| C_seq <| sr <| qm J J <| nq (Q_lenA (en := (eE errIds gV)) (k := 0) H.ok J (show rdL (eE errIds gV) ρ ([1, 3, 4, 2, 5, 6, 7, 8, 9, 10, 11, 12, 13, 14, 15, 16, 17, 18]) ([errV errIds gV 1, errV errIds gV 3, errV errIds gV 4, errV errIds gV 2, errV errIds gV 5, errV errIds gV 6, errV errIds gV 7, errV errIds gV 8, errV errIds gV 9, errV errIds gV 10, errV errIds gV 11, errV errIds gV 12, errV errIds gV 13, errV errIds gV 14, errV errIds gV 15, errV errIds gV 16, errV errIds gV 17, errV errIds gV 18]) from ⟨([errV errIds gV 1]), _, J, ⟨J, errV_one gle 1⟩, ⟨([errV errIds gV 3]), _, J, ⟨J, errV_one gle 3⟩, ⟨([errV errIds gV 4]), _, J, ⟨J, errV_one gle 4⟩, ⟨([errV errIds gV 2]), _, J, ⟨J, errV_one gle 2⟩, ⟨([errV errIds gV 5]), _, J, ⟨J, errV_one gle 5⟩, ⟨([errV errIds gV 6]), _, J, ⟨J, errV_one gle 6⟩, ⟨([errV errIds gV 7]), _, J, ⟨J, errV_one gle 7⟩, ⟨([errV errIds gV 8]), _, J, ⟨J, errV_one gle 8⟩, ⟨([errV errIds gV 9]), _, J, ⟨J, errV_one gle 9⟩, ⟨([errV errIds gV 10]), _, J, ⟨J, errV_one gle 10⟩, ⟨([errV errIds gV 11]), _, J, ⟨J, errV_one gle 11⟩, ⟨([errV errIds gV 12]), _, J, ⟨J, errV_one gle 12⟩, ⟨([errV errIds gV 13]), _, J, ⟨J, errV_one gle 13⟩, ⟨([errV errIds gV 14]), _, J, ⟨J, errV_one gle 14⟩, ⟨([errV errIds gV 15]), _, J, ⟨J, errV_one gle 15⟩, ⟨([errV errIds gV 16]), _, J, ⟨J, errV_one gle 16⟩, ⟨([errV errIds gV 17]), _, J, ⟨J, errV_one gle 17⟩, ⟨([errV errIds gV 18]), _, J, ⟨J, errV_one gle 18⟩, rdL.nil⟩⟩⟩⟩⟩⟩⟩⟩⟩⟩⟩⟩⟩⟩⟩⟩⟩⟩) Nat.one_pos Tryz.underlying181 J) J J <| qm J J <| WL_nil <| x_then ?_
  obtain ⟨o5, ho5, hF⟩ := bnd hF
  refine C_cutQ (fun a w' => .inl () = o5 ∧ Fr 40 a [] ∧ Hp C w' ρ (hs)) ?_ ?_
  ·refine C_block ?_
   refine C_iter (f := fun s => F_67 N x1 s) ho5 (fun s a w' => ∃ (x6 : Int), x6 = s ∧ Fr 40 a [(0, errV errIds gV x1), (27, (.slice (some ⟨b4, 0, none⟩) 18 18)), (28, iV (([1, 3, 4, 2, 5, 6, 7, 8, 9, 10, 11, 12, 13, 14, 15, 16, 17, 18]).length : Int)), (29, iV x6)] ∧ Hp C w' ρ (Arr (.slice (some ⟨b4, 0, none⟩) 18 18) 1 ([errV errIds gV 1, errV errIds gV 3, errV errIds gV 4, errV errIds gV 2, errV errIds gV 5, errV errIds gV 6, errV errIds gV 7, errV errIds gV 8, errV errIds gV 9, errV errIds gV 10, errV errIds gV 11, errV errIds gV 12, errV errIds gV 13, errV errIds gV 14, errV errIds gV 15, errV errIds gV 16, errV errIds gV 17, errV errIds gV 18]) :: hs)) ?_ ?_
   ·exact fun a hf => ⟨0, J, hf.sub ⟨J, J, J, J, trivial⟩, H⟩
   ·rintro s o7 a wd8 ⟨x6, rfl, hf, H⟩ hB9 hO10
    replace hB9 : F_67 N x1 x6 = some o7 := hB9
    unfold F_67 at hB9
    refine CW.at hf <| sr <| nq (Q_lss J J) J J <| WL_nil <| x_then <| C_seq ?_
    refine C_cond J (fun hb => ?_) (fun hb => ?_)
    ·replace hB9 := itT hb hB9
     refine C_skip <| x_then <| C_seq <| C_block <| sr <| qm J J ?_
     obtain ⟨x11, hx11, hB9⟩ := bnd hB9
     obtain ⟨b12, o13, hi14, hc15, ha16⟩ := arr_at (en := (eE errIds gV)) (hs := [Arr (.slice (some ⟨b4, 0, none⟩) 18 18) 1 ([errV errIds gV 1, errV errIds gV 3, errV errIds gV 4, errV errIds gV 2, errV errIds gV 5, errV errIds gV 6, errV errIds gV 7, errV errIds gV 8, errV errIds gV 9, errV errIds gV 10, errV errIds gV 11, errV errIds gV 12, errV errIds gV 13, errV errIds gV 14, errV errIds gV 15, errV errIds gV 16, errV errIds gV 17, errV errIds gV 18])]) (k := 0) Nat.one_pos (H.okS (by simp)) rfl (show rdL (eE errIds gV) ρ ([1, 3, 4, 2, 5, 6, 7, 8, 9, 10, 11, 12, 13, 14, 15, 16, 17, 18]) ([errV errIds gV 1, errV errIds gV 3, errV errIds gV 4, errV errIds gV 2, errV errIds gV 5, errV errIds gV 6, errV errIds gV 7, errV errIds gV 8, errV errIds gV 9, errV errIds gV 10, errV errIds gV 11, errV errIds gV 12, errV errIds gV 13, errV errIds gV 14, errV errIds gV 15, errV errIds gV 16, errV errIds gV 17, errV errIds gV 18]) from ⟨([errV errIds gV 1]), _, rfl, ⟨rfl, errV_one gle 1⟩, ⟨([errV errIds gV 3]), _, rfl, ⟨rfl, errV_one gle 3⟩, ⟨([errV errIds gV 4]), _, rfl, ⟨rfl, errV_one gle 4⟩, ⟨([errV errIds gV 2]), _, rfl, ⟨rfl, errV_one gle 2⟩, ⟨([errV errIds gV 5]), _, rfl, ⟨rfl, errV_one gle 5⟩, ⟨([errV errIds gV 6]), _, rfl, ⟨rfl, errV_one gle 6⟩, ⟨([errV errIds gV 7]), _, rfl, ⟨rfl, errV_one gle 7⟩, ⟨([errV errIds gV 8]), _, rfl, ⟨rfl, errV_one gle 8⟩, ⟨([errV errIds gV 9]), _, rfl, ⟨rfl, errV_one gle 9⟩, ⟨([errV errIds gV 10]), _, rfl, ⟨rfl, errV_one gle 10⟩, ⟨([errV errIds gV 11]), _, rfl, ⟨rfl, errV_one gle 11⟩, ⟨([errV errIds gV 12]), _, rfl, ⟨rfl, errV_one gle 12⟩, ⟨([errV errIds gV 13]), _, rfl, ⟨rfl, errV_one gle 13⟩, ⟨([errV errIds gV 14]), _, rfl, ⟨rfl, errV_one gle 14⟩, ⟨([errV errIds gV 15]), _, rfl, ⟨rfl, errV_one gle 15⟩, ⟨([errV errIds gV 16]), _, rfl, ⟨rfl, errV_one gle 16⟩, ⟨([errV errIds gV 17]), _, rfl, ⟨rfl, errV_one gle 17⟩, ⟨([errV errIds gV 18]), _, rfl, ⟨rfl, errV_one gle 18⟩, rdL.nil⟩⟩⟩⟩⟩⟩⟩⟩⟩⟩⟩⟩⟩⟩⟩⟩⟩⟩) hx11
     refine nq (Q_idx hi14 Tryz.underlying181 ty53 J J) J J <| nq (v := errV errIds gV x11) (Q_ld (show cellsAt _ _ _ [errV errIds gV x11] from rdE hc15 ▸ (ha16 _ (Ok.subS (by simp) H.ok))) ty53 rfl (fun _ => J) J J) J J <| nq (Q_assign J) J J <| qa J J <| sr <| qm J J <| qm J J ?_
     obtain ⟨x17, hx17, hB9⟩ := bnd hB9
     refine ne (E_call fn113 J (c_is isC gle H hx17)) J J ?_
     rintro _ wd18 ⟨rfl, H⟩
     refine WL_nil <| x_then ?_
     refine C_cond J (fun hb => ?_) (fun hb => ?_)
     ·replace hB9 := itT hb hB9
      refine sr <| qm J J <| nq (Q_add J J) J J <| qa J J <| C_ret <| x_block_ret <| x_then_ret <| x_then_ret <| x_block_ret <| x_then_ret <| x_then_ret ?_
      replace H := H.e0
      obtain rfl := oi hB9
      obtain rfl := hO10 _ rfl
      obtain rfl := oi (show some _ = some _ from hF)
      exact fn_ret (l := [.tmp 2]) (vs := [iV (w64 (x6 + 1))]) J J J ⟨w64 (x6 + 1), J, J, H⟩
     ·replace hB9 := itF hb hB9
      refine C_skip <| x_block <| x_then <| R_nd <| nq (Q_add J J) J J <| qm J J <| WL_nil ?_
      obtain rfl := oi hB9
      refine x_A fun a hf => ⟨_, J, w64 (x6 + 1), J, hf.sub ⟨J, J, J, J, trivial⟩, H⟩
    ·replace hB9 := itF hb hB9
     refine C_exit <| x_then_exit <| x_then_exit <| x_block_exit ?_
     replace H := H.e0
     obtain rfl := oi hB9
     obtain rfl := hO10 _ rfl
     refine x_A fun a hf => ⟨J, hf.sub trivial, H⟩
  ·rintro a wd19 ⟨rfl, hf, H⟩
   try dsimp only at hF
   refine XX.at hf <| xs <| qa J J <| C_ret ?_
   obtain rfl := oi hF
   exact fn_ret (l := [.tmp 2]) (vs := [iV (-1)]) J J J ⟨(-1), J, J, H⟩
theorem c_12 {N : Nat} {C : Cx} {w : World} {ρ : View} {hs : List Hl} {gV : Nat → Value} {v1 : Value} {v2 : Value} {v3 : Value} {x4 : (List ((List Int) × (Int × Int × Int × Int) × Int × Int))} {x5 : (List Int)} {x6 : (List Int)} {x7 : Int} (H : Hp C w ρ (hs)) (gle : GErrs ρ 394 errIds gV) (gl18 : GTab ρ 18 .u8 tab_math_bits_deBruijn64tab) (r8 : RdSl ρ (eP (eL (eI .i64)) (eP (eP (eI .u64) (eP (eI .u64) (eP (eI .u64) (eI .u64)))) (eP (eI .i64) (eI .i64)))) v1 x4) (r9 : RdSl ρ (eI .i64) v2 x5) (r10 : RdSl ρ (eI .u8) v3 x6) {r : Bool} (hF : F_19 N x4 x5 x6 x7 = some r) :
  Calls Tryz.prog 12 [.agg #[v1, v2], v3, iV x7].toArray w (Rets (fun v w' => (∃ (ρ' : View) (x11 : Bool), x11 = r ∧ .bool x11 = v ∧ View.le ρ ρ' ∧ Hp C w' ρ' (hs)))) := by
 unfold F_19 at hF
 have h0 : Tryz.f12.body = some _ := rfl
 refine fn_calls' Tryz.func12 h0 (n := 61) rfl (by simp) <| sr <| ne (E_box H (vs := [v1, v2]) J J) J J ?_
 rintro _ wd12 ⟨b13, rfl, H⟩
 refine qa J J <| C_seq <| sr <| ne (E_call fn45 J (Cr.c_run runC45 (fun hl => GTab.up hl gl18) H)) J J ?_
 rintro _ wd14 ⟨rfl, H⟩
 refine nq (Q_not J) J J <| WL_nil <| x_then ?_
 refine C_cond J (fun h => nomatch h) (fun _ => ?_)
 refine C_skip <| xs <| nq (v := .agg #[v1, v2]) (Q_ldB (k := 0) (cs := [v1, v2]) H.ok J ty25 J J J (fun h => nomatch h) J) J J ?_
 obtain ⟨q15, hq15, hF⟩ := bnd hF
 refine ne (E_call fn16 J (c_16 H gle  r8 r9 hq15)) J J ?_
 rintro _ wd16 ⟨v17, c18, x19, x20, rfl, rfl, r21, H⟩
 try dsimp only at hF
 refine qm J J <| nq (Q_extract J J) J J <| nq (Q_extract J J) J J <| ne (E_alloc H ty29 (zs := [.slice none 0 0, .slice none 0 0]) J) J J ?_
 rintro _ wd22 ⟨b23, rfl, H⟩
 refine ne (E_stB (k := 0) (cs := [v17, v2]) (vs' := [v17, v2]) H rfl ty29 J J J rfl (one_cons (arr_cells (H.ok.get (k := 1) rfl)).2 (one_cons (RdSl.one r9) one_nil)) (by simp) J) J J ?_
 rintro _ wd24 H
 dsimp only [List.set] at H
 refine qa J J <| C_seq ?_
 obtain ⟨o25, ho25, hF⟩ := bnd hF
 refine C_cut (fun a w' => ∃ (x26 : Bool), x26 = o25 ∧ Fr 61 a [(1, v3), (2, iV x7), (3, pV b13 0), (7, pV b23 0), (31, .bool x26)] ∧ Hp C w' ρ (Box b13 [v1, v2] :: Box b23 [v17, v2] :: Arr v17 7 c18 :: hs)) ?_ ?_
 ·refine R_nd <| qm J J <| nq (Q_not J) J J <| qm J J ?_
  rcases Bool.eq_false_or_eq_true (!x20) with hb | hb
  ·rw [hb]
   replace ho25 := itT hb ho25
   refine gs J J J J <| gs J J J J <| gs J J J J <| nq (Q_pickT J J) J J <| qm J J <| gs J J J J <| gs J J J J <| gs J J J J <| nq (Q_pickT J J) J J <| WL_nil ?_
   replace H := H.f2
   obtain rfl := oi ho25
   refine x_A fun a hf => ⟨true, J, hf.sub ⟨J, J, J, J, J, trivial⟩, H⟩
  ·rw [hb]
   replace ho25 := itF hb ho25
   refine gq (Q_move J) J J J <| gq (Q_len Tryz.underlying42 J r10) J J J <| gq (Q_gtr J J) J J J <| nq (Q_pickF J J) J J <| qm J J ?_
   rcases Bool.eq_false_or_eq_true (decide ((x6.length : Int) > 30)) with hb | hb
   ·rw [hb]
    replace ho25 := itT hb ho25
    refine gs J J J J <| gs J J J J <| gs J J J J <| nq (Q_pickT J J) J J <| WL_nil ?_
    replace H := H.f2
    obtain rfl := oi ho25
    refine x_A fun a hf => ⟨true, J, hf.sub ⟨J, J, J, J, J, trivial⟩, H⟩
   ·rw [hb]
    replace ho25 := itF hb ho25
    refine gq (v := .agg #[v17, v2]) (Q_ldB (k := 0) (cs := [v17, v2]) H.ok J ty29 J J J (fun h => nomatch h) J) J J J ?_
    replace H := H.f1
    obtain ⟨q27, hq27, ho25⟩ := bnd ho25
    obtain ⟨C', ρ', hl28, HA, hL, hback⟩ := Hp.lend (A := []) (L := [Arr v17 7 c18]) (F := Box b23 [v17, v2] :: Box b13 [v1, v2] :: hs) H
    refine ge (E_call fn19 rfl (c_19 HA (gle.up hl28)  (arr_rd (by decide) hl28 (hL (Arr v17 7 c18) (by simp)) r21) (r9.up hl28) hq27)) J J J ?_
    rintro _ wd29 ⟨x30, rfl, rfl, H⟩
    try dsimp only at ho25
    replace H := hback H
    dsimp only [List.cons_append, List.nil_append] at H
    refine gq (Q_not J) J J J <| nq (Q_pickF J J) J J <| WL_nil ?_
    replace H := H.f1.f2
    obtain rfl := oi ho25
    refine x_A fun a hf => ⟨!x30, J, hf.sub ⟨J, J, J, J, J, trivial⟩, H⟩
 ·rintro a wd31 ⟨x26, rfl, hf, H⟩
  try dsimp only at hF
  refine CW.at hf ?_
  refine C_cond J (fun hb => ?_) (fun hb => ?_)
  ·replace hF := itT hb hF
   refine sr <| qa J J <| C_ret <| x_then_ret ?_
   replace H := H.e2.e1.e0
   obtain rfl := oi hF
   exact fn_ret (l := [.tmp 6]) (vs := [.bool true]) J J J ⟨ρ, true, J, J, (View.le_refl _), H⟩
  ·replace hF := itF hb hF
   refine C_skip <| xs <| nq (v := .agg #[v1, v2]) (Q_ldB (k := 0) (cs := [v1, v2]) H.ok J ty25 J J J (fun h => nomatch h) J) J J ?_
   obtain ⟨q32, hq32, hF⟩ := bnd hF
   refine ne (E_call fn63 J (c_63 H gle gl18 r8 r9 hq32)) J J ?_
   rintro _ wd33 ⟨ρ, v34, c35, v36, c37, v38, c39, x40, x41, x42, x43, rfl, rfl, lw44, r45, r46, r47, H⟩
   try dsimp only at hF
   replace r10 := RdSl.up lw44 r10
   replace r8 := RdSl.up lw44 r8
   replace r9 := RdSl.up lw44 r9
   replace r21 := rdL.up lw44 r21
   replace gle := GErrs.up lw44 gle
   replace gl18 := GTab.up lw44 gl18
   refine qm J J <| nq (Q_extract J J) J J <| nq (Q_extract J J) J J <| ne (E_alloc H ty78 (zs := [.slice none 0 0, .slice none 0 0, .slice none 0 0]) J) J J ?_
   rintro _ wd48 ⟨b49, rfl, H⟩
   refine ne (E_stB (k := 0) (cs := [v34, v36, v38]) (vs' := [v34, v36, v38]) H rfl ty78 J J J rfl (one_cons (arr_cells (H.ok.get (k := 1) rfl)).2 (one_cons (arr_cells (H.ok.get (k := 2) rfl)).2 (one_cons (arr_cells (H.ok.get (k := 3) rfl)).2 one_nil))) (by simp) J) J J ?_
   rintro _ wd50 H
   dsimp only [List.set] at H
   refine qa J J <| C_seq <| sr <| qm J J <| nq (v := .bool (eOk errIds x43)) (Q_neqV Tryz.underlying53 gle J) J J <| WL_nil <| x_then ?_
   refine C_cond J (fun hb => ?_) (fun hb => ?_)
   ·replace hF := itT hb hF
    refine sr <| qm J J ?_
    obtain ⟨q51, hq51, hF⟩ := bnd hF
    refine ne (E_call fn65 J (c_65 H gle   hq51)) J J ?_
    rintro _ wd52 ⟨x53, rfl, rfl, H⟩
    try dsimp only at hF
    refine nq (Q_eql J J) J J <| qa J J <| C_ret <| x_then_ret ?_
    replace H := H.e6.e5.e4.e3.e2.e1.e0
    obtain rfl := oi hF
    exact fn_ret (l := [.tmp 6]) (vs := [.bool (x53 == 9)]) J J J ⟨ρ, x53 == 9, J, J, lw44, H⟩
   ·replace hF := itF hb hF
    refine C_skip <| x_then <| C_seq <| sr <| nq (v := .agg #[v17, v2]) (Q_ldB (k := 5) (cs := [v17, v2]) H.ok J ty29 J J J (fun h => nomatch h) J) J J <| qm J J <| qm J J ?_
    replace H := H.f6
    obtain ⟨q54, hq54, hF⟩ := bnd hF
    obtain ⟨C', ρ', hl55, HA, hL, hback⟩ := Hp.lend (A := []) (L := [Arr v17 7 c18]) (F := Box b49 [v34, v36, v38] :: Arr v34 256 c35 :: Arr v36 1 c37 :: Arr v38 1 c39 :: Box b13 [v1, v2] :: Box b23 [v17, v2] :: hs) H
    refine ne (E_call fn24 rfl (c_24 HA (gle.up hl55)  (arr_rd (by decide) hl55 (hL (Arr v17 7 c18) (by simp)) r21) (r9.up hl55) (r10.up hl55) hq54)) J J ?_
    rintro _ wd56 ⟨v57, c58, x59, rfl, rfl, r60, H⟩
    try dsimp only at hF
    replace H := hback H
    replace r60 := rdL.flat (ρ := ρ') (ρ' := ρ) (flat_I _) r60
    dsimp only [List.cons_append, List.nil_append] at H
    refine nq (Q_lenA (k := 0) H.ok rfl r60 (by decide) Tryz.underlying23 J) J J <| qm J J <| WL_nil <| x_then ?_
    obtain ⟨o61, ho61, hF⟩ := bnd hF
    refine C_cutQ (fun a w' => .inl () = o61 ∧ Fr 61 a [] ∧ Hp C w' ρ (hs)) ?_ ?_
    ·refine C_block ?_
     replace H := H.e7.e6.e1
     refine C_iter (f := fun s => F_66 N x6 x7 x40 x41 x42 x59 s) ho61 (fun s a w' => ∃ (x62 : Int), x62 = s ∧ Fr 61 a [(1, v3), (2, iV x7), (9, pV b49 0), (45, v57), (46, iV (x59.length : Int)), (47, iV x62)] ∧ Hp C w' ρ (Arr v57 1 c58 :: Box b49 [v34, v36, v38] :: Arr v34 256 c35 :: Arr v36 1 c37 :: Arr v38 1 c39 :: hs)) ?_ ?_
     ·exact fun a hf => ⟨0, J, hf.sub ⟨J, J, J, J, J, J, trivial⟩, H⟩
     ·rintro s o63 a wd64 ⟨x62, rfl, hf, H⟩ hB65 hO66
      replace hB65 : F_66 N x6 x7 x40 x41 x42 x59 x62 = some o63 := hB65
      unfold F_66 at hB65
      refine CW.at hf <| sr <| nq (Q_lss J J) J J <| WL_nil <| x_then <| C_seq ?_
      refine C_cond J (fun hb => ?_) (fun hb => ?_)
      ·replace hB65 := itT hb hB65
       refine C_skip <| x_then <| C_seq <| C_block <| sr <| qm J J ?_
       obtain ⟨x67, hx67, hB65⟩ := bnd hB65
       obtain ⟨b68, o69, hi70, hc71, ha72⟩ := arr_at (hs := [Arr v57 1 c58]) (k := 0) (by decide) (H.okS (by simp)) rfl r60 hx67
       refine nq (Q_idx hi70 Tryz.underlying23 ty3 J J) J J <| nq (v := iV x67) (Q_ld (show cellsAt _ _ _ [iV x67] from (show _ = [_] from hc71) ▸ (ha72 _ (Ok.subS (by simp) H.ok))) ty3 rfl (fun _ => J) J J) J J <| nq (Q_assign J) J J <| qa J J <| C_seq <| R_dr (.take 0 (.take 1 (.take 2 (.take 3 (.take 4 (.take 6 (.one 5 (.take 7 .done)))))))) none (S := fun w' => Ok w' ρ [Arr v57 1 c58, Box b49 [v34, v36, v38], Arr v34 256 c35, Arr v36 1 c37, Arr v38 1 c39]) hm0 (by kernel_rfl) (H.drew.okS (by simp)) ?_
       replace H := H.drew
       refine dq (v := .agg #[v34, v36, v38]) J (fun _ hw => Q_ldB (k := 1) (cs := [v34, v36, v38]) hw J ty78 J J J (fun h => nomatch h) J) J J <| dq J (fun _ _ => Q_move J) J J <| dq J (fun _ _ => Q_move J) J J <| dq J (fun _ _ => Q_move J) J J ?_
       obtain ⟨x73, hx73, hB65⟩ := bnd hB65
       obtain ⟨hs339a, hs339b, hs339c, hs339d⟩ := slc_some hx73
       obtain ⟨v74, r75, hq76⟩ := sliceR r10 hs339a hs339b hs339c
       rw [← hs339d] at r75
       refine dq (v := v74) J (fun _ _ => hq76 _ _ _ _ _ _ _ _ _ _ _ _ _ _ _ Tryz.underlying42 ty5 J J ⟨_, J⟩) J J <| dq J (fun _ _ => Q_move J) J J ?_
       replace H := H.f4.f4.f4
       obtain ⟨q77, hq77, hB65⟩ := bnd hB65
       obtain ⟨C', ρ', hl78, HA, hL, hback⟩ := Hp.lend (A := []) (L := [Arr v34 256 c35, Arr v36 1 c37, Arr v38 1 c39]) (F := Arr v57 1 c58 :: Box b49 [v34, v36, v38] :: hs) H
       refine d1 (de rfl (E_call fn58 rfl (c_58 HA (gle.up hl78)  (arr_rd (by decide) hl78 (hL (Arr v34 256 c35) (by simp)) r45) (arr_rd (by decide) hl78 (hL (Arr v36 1 c37) (by simp)) r46) (arr_rd (by decide) hl78 (hL (Arr v38 1 c39) (by simp)) r47) (r75.up hl78) hq77)) J J ?_)
       rintro _ wd79 ⟨x80, rfl, rfl, H⟩
       try dsimp only at hB65
       replace H := hback H
       dsimp only [List.cons_append, List.nil_append] at H
       refine ⟨H.okS (by simp), ?_⟩
       refine dq J (fun _ _ => Q_neq J J) J J <| DL_nil <| x_then ?_
       refine C_cond J (fun hb => ?_) (fun hb => ?_)
       ·replace hB65 := itT hb hB65
        refine sr <| qa J J <| C_ret <| x_block_ret <| x_then_ret <| x_then_ret <| x_block_ret <| x_then_ret <| x_then_ret ?_
        replace H := H.e4.e3.e2.e1.e0
        obtain rfl := oi hB65
        obtain rfl := hO66 _ rfl
        obtain rfl := oi (show some _ = some _ from hF)
        exact fn_ret (l := [.tmp 6]) (vs := [.bool false]) J J J ⟨ρ, false, J, J, lw44, H⟩
       ·replace hB65 := itF hb hB65
        refine C_skip <| x_block <| x_then <| R_nd <| nq (Q_add J J) J J <| qm J J <| WL_nil ?_
        replace H := H.f4.f4
        obtain rfl := oi hB65
        refine x_A fun a hf => ⟨_, J, w64 (x62 + 1), J, hf.sub ⟨J, J, J, J, J, J, trivial⟩, H⟩
      ·replace hB65 := itF hb hB65
       refine C_exit <| x_then_exit <| x_then_exit <| x_block_exit ?_
       replace H := H.e4.e3.e2.e1.e0
       obtain rfl := oi hB65
       obtain rfl := hO66 _ rfl
       refine x_A fun a hf => ⟨J, hf.sub trivial, H⟩
    ·rintro a wd81 ⟨rfl, hf, H⟩
     try dsimp only at hF
     refine XX.at hf <| xs <| qa J J <| C_ret ?_
     obtain rfl := oi hF
     exact fn_ret (l := [.tmp 6]) (vs := [.bool true]) J J J ⟨ρ, true, J, J, lw44, H⟩
end Go.Proofs.YtealkahefalaeaaGreatDoor
