/-
  The walks of the law HopcroftApart, printed by my program, part 1: each function of the code computes its pure function.
-/
import Derived.Test.YteiaphkejkgfkaaHopcroftApartD1
import Derived.Test.YteiaphkejkgfkaaProg
namespace Go.Proofs.Yteiaphkejkgfkaa
open Go Go.Eng
set_option maxRecDepth 100000
theorem ty3 : Ty Try.prog 3 1 8 (.int .i64 0) false := ⟨by kernel_rfl, by kernel_rfl⟩
theorem ty4 : Ty Try.prog 4 1 1 (.bool false) false := ⟨by kernel_rfl, by kernel_rfl⟩
theorem ty5 : Ty Try.prog 5 1 1 (.int .u8 0) false := ⟨by kernel_rfl, by kernel_rfl⟩
theorem ty22 : Ty Try.prog 22 1 24 (.slice none 0 0) false := ⟨by kernel_rfl, by kernel_rfl⟩
theorem ty23 : Ty Try.prog 23 1 24 (.slice none 0 0) false := ⟨by kernel_rfl, by kernel_rfl⟩
theorem ty25 : Ty Try.prog 25 3 72 (.agg ([.slice none 0 0, .slice none 0 0, .slice none 0 0]).toArray) true := ⟨by kernel_rfl, by kernel_rfl⟩
theorem ty27 : Ty Try.prog 27 1 24 (.slice none 0 0) false := ⟨by kernel_rfl, by kernel_rfl⟩
theorem ty29 : Ty Try.prog 29 3 72 (.agg ([.slice none 0 0, .slice none 0 0, .slice none 0 0]).toArray) true := ⟨by kernel_rfl, by kernel_rfl⟩
theorem ty32 : Ty Try.prog 32 1 24 (.slice none 0 0) false := ⟨by kernel_rfl, by kernel_rfl⟩
theorem ty41 : Ty Try.prog 41 256 2048 (.agg (repC 256 [.int .i64 0]).toArray) true := ⟨by kernel_rfl, by kernel_rfl⟩
theorem ty42 : Ty Try.prog 42 256 2048 (.agg (repC 256 [.int .i64 0]).toArray) true := ⟨by kernel_rfl, by kernel_rfl⟩
theorem ty45 : Ty Try.prog 45 2 16 (.agg (repC 2 [.int .i64 0]).toArray) true := ⟨by kernel_rfl, by kernel_rfl⟩
theorem ty48 : Ty Try.prog 48 3 40 (.agg ([.int .i64 0, .int .i64 0, .slice none 0 0]).toArray) true := ⟨by kernel_rfl, by kernel_rfl⟩
theorem ty51 : Ty Try.prog 51 1 24 (.slice none 0 0) false := ⟨by kernel_rfl, by kernel_rfl⟩
theorem ty57 : Ty Try.prog 57 1 24 (.slice none 0 0) false := ⟨by kernel_rfl, by kernel_rfl⟩
theorem ty58 : Ty Try.prog 58 1 24 (.slice none 0 0) false := ⟨by kernel_rfl, by kernel_rfl⟩
theorem ty60 : Ty Try.prog 60 7 168 (.agg ([.slice none 0 0, .slice none 0 0, .slice none 0 0, .slice none 0 0, .slice none 0 0, .slice none 0 0, .slice none 0 0]).toArray) true := ⟨by kernel_rfl, by kernel_rfl⟩
theorem ty64 : Ty Try.prog 64 256 6144 (.agg (repC 256 [.slice none 0 0]).toArray) true := ⟨by kernel_rfl, by kernel_rfl⟩
theorem ty67 : Ty Try.prog 67 2 16 (.agg ([.int .i64 0, .int .u8 0]).toArray) true := ⟨by kernel_rfl, by kernel_rfl⟩
theorem st25 : ∃ fs, St Try.prog 25 fs [(0, 1), (1, 1), (2, 1)] [.slice none 0 0, .slice none 0 0, .slice none 0 0] := ⟨_, Try.underlying25, by kernel_rfl, _, _, _, _, ty25, rfl⟩
theorem st29 : ∃ fs, St Try.prog 29 fs [(0, 1), (1, 1), (2, 1)] [.slice none 0 0, .slice none 0 0, .slice none 0 0] := ⟨_, Try.underlying29, by kernel_rfl, _, _, _, _, ty29, rfl⟩
theorem st48 : ∃ fs, St Try.prog 48 fs [(0, 1), (1, 1), (2, 1)] [.int .i64 0, .int .i64 0, .slice none 0 0] := ⟨_, Try.underlying48, by kernel_rfl, _, _, _, _, ty48, rfl⟩
theorem st60 : ∃ fs, St Try.prog 60 fs [(0, 3), (3, 1), (4, 1), (5, 1), (6, 1)] [.slice none 0 0, .slice none 0 0, .slice none 0 0, .slice none 0 0, .slice none 0 0, .slice none 0 0, .slice none 0 0] := ⟨_, Try.underlying60, by kernel_rfl, _, _, _, _, ty60, rfl⟩
theorem st67 : ∃ fs, St Try.prog 67 fs [(0, 1), (1, 1)] [.int .i64 0, .int .u8 0] := ⟨_, Try.underlying67, by kernel_rfl, _, _, _, _, ty67, rfl⟩
theorem fn4 : HasFn Try.prog 4 := ⟨_, _, Try.func4, by kernel_rfl, rfl⟩
theorem fn5 : HasFn Try.prog 5 := ⟨_, _, Try.func5, by kernel_rfl, rfl⟩
theorem fn6 : HasFn Try.prog 6 := ⟨_, _, Try.func6, by kernel_rfl, rfl⟩
theorem fn7 : HasFn Try.prog 7 := ⟨_, _, Try.func7, by kernel_rfl, rfl⟩
theorem fn8 : HasFn Try.prog 8 := ⟨_, _, Try.func8, by kernel_rfl, rfl⟩
theorem fn9 : HasFn Try.prog 9 := ⟨_, _, Try.func9, by kernel_rfl, rfl⟩
theorem fn10 : HasFn Try.prog 10 := ⟨_, _, Try.func10, by kernel_rfl, rfl⟩
theorem fn11 : HasFn Try.prog 11 := ⟨_, _, Try.func11, by kernel_rfl, rfl⟩
theorem fn12 : HasFn Try.prog 12 := ⟨_, _, Try.func12, by kernel_rfl, rfl⟩
theorem fn13 : HasFn Try.prog 13 := ⟨_, _, Try.func13, by kernel_rfl, rfl⟩
theorem fn14 : HasFn Try.prog 14 := ⟨_, _, Try.func14, by kernel_rfl, rfl⟩
theorem fn15 : HasFn Try.prog 15 := ⟨_, _, Try.func15, by kernel_rfl, rfl⟩
theorem fn16 : HasFn Try.prog 16 := ⟨_, _, Try.func16, by kernel_rfl, rfl⟩
theorem fn17 : HasFn Try.prog 17 := ⟨_, _, Try.func17, by kernel_rfl, rfl⟩
theorem fn18 : HasFn Try.prog 18 := ⟨_, _, Try.func18, by kernel_rfl, rfl⟩
theorem fn19 : HasFn Try.prog 19 := ⟨_, _, Try.func19, by kernel_rfl, rfl⟩
theorem fn20 : HasFn Try.prog 20 := ⟨_, _, Try.func20, by kernel_rfl, rfl⟩
theorem fn21 : HasFn Try.prog 21 := ⟨_, _, Try.func21, by kernel_rfl, rfl⟩
theorem fn22 : HasFn Try.prog 22 := ⟨_, _, Try.func22, by kernel_rfl, rfl⟩
theorem fn23 : HasFn Try.prog 23 := ⟨_, _, Try.func23, by kernel_rfl, rfl⟩
theorem fn24 : HasFn Try.prog 24 := ⟨_, _, Try.func24, by kernel_rfl, rfl⟩
theorem fn25 : HasFn Try.prog 25 := ⟨_, _, Try.func25, by kernel_rfl, rfl⟩
theorem fn26 : HasFn Try.prog 26 := ⟨_, _, Try.func26, by kernel_rfl, rfl⟩
theorem c_11 {N : Nat} {C : Cx} {w : World} {ρ : View} {hs : List Hl} (H : Hp C w ρ (hs)) {r : (List (List Int))} (hF : F_dofferlaw19_pairs N = some r) :
    Calls Try.prog 11 [].toArray w (Rets (fun v w' => (∃ (v464 : Value) (c465 : (List Value)) (v468 : Value) (c469 : (List Value)) (v471 : Value) (c472 : (List Value)) (x466 : (List (List Int))), x466 = r ∧ .agg #[v464, v468, v471] = v ∧ rdL (eA 256 (eI .i64)) ρ x466 c465 ∧ rdL (eI .i64) ρ ([(-1), 0, 0]) c469 ∧ rdL (eI .i64) ρ ([1]) c472 ∧ Hp C w' ρ (Arr v464 256 c465 :: Arr v468 1 c469 :: Arr v471 1 c472 :: hs)))) := by
  unfold F_dofferlaw19_pairs at hF
  have h0 : Try.f11.body = some _ := rfl
  refine fn_calls' Try.func11 h0 (n := 22) rfl (by simp) <| C_seq <| R_nd <| ne (E_alloc H ty25 (zs := [.slice none 0 0, .slice none 0 0, .slice none 0 0]) rfl) rfl rfl ?_
  rintro _ wd475 ⟨b474, rfl, H⟩
  refine WL_nil <| x_then <| C_seq <| R_nd ?_
  obtain ⟨x476, hx476, hF⟩ := bnd hF
  obtain ⟨hm478a, hm478b, hm478c⟩ := mk_some hx476
  refine ne (E_make H Try.underlying22 ty42 (zs := (repC 256 [.int .i64 0])) rfl (by simp [repC_length]) (by decide) (by decide) rfl hm478a hm478b) rfl rfl ?_
  rintro _ wd479 ⟨b477, rfl, H⟩
  refine ne (E_bslice (xs := [.const (.int .i64 (-1)), .const (.int .i64 0), .const (.int .i64 0)]) (vs := [.int .i64 (-1), .int .i64 0, .int .i64 0]) H Try.underlying23 ty3 (by decide) (cs := [.int .i64 (-1), .int .i64 0, .int .i64 0]) rfl (sz_cons rfl (sz_cons rfl (sz_cons rfl sz_nil))) rfl (by simp) (by simp) rfl rfl) rfl rfl ?_
  rintro _ wd481 ⟨b480, rfl, H⟩
  refine ne (E_bslice (xs := [.const (.int .i64 1)]) (vs := [.int .i64 1]) H Try.underlying23 ty3 (by decide) (cs := [.int .i64 1]) rfl (sz_cons rfl sz_nil) rfl (by simp) (by simp) rfl rfl) rfl rfl ?_
  rintro _ wd483 ⟨b482, rfl, H⟩
  refine nq (v := .agg #[(.slice (some ⟨b477, 0, none⟩) (3 : Int).toNat (3 : Int).toNat), (.slice (some ⟨b480, 0, none⟩) 3 3), (.slice (some ⟨b482, 0, none⟩) 1 1)]) (Q_buildS st25.choose_spec (ps := [(0, [(.slice (some ⟨b477, 0, none⟩) (3 : Int).toNat (3 : Int).toNat)]), (1, [(.slice (some ⟨b480, 0, none⟩) 3 3)]), (2, [(.slice (some ⟨b482, 0, none⟩) 1 1)])]) rfl ⟨rfl, (arr_cells (H.ok.get (k := 2) rfl)).1, by simp, ⟨rfl, (arr_cells (H.ok.get (k := 1) rfl)).1, by simp, ⟨rfl, (arr_cells (H.ok.get (k := 0) rfl)).1, by simp, trivial⟩⟩⟩ rfl) rfl rfl <| ne (E_alloc H ty25 (zs := [.slice none 0 0, .slice none 0 0, .slice none 0 0]) rfl) rfl rfl ?_
  rintro _ wd485 ⟨b484, rfl, H⟩
  refine ne (E_stB (k := 0) (cs := [(.slice (some ⟨b477, 0, none⟩) (3 : Int).toNat (3 : Int).toNat), (.slice (some ⟨b480, 0, none⟩) 3 3), (.slice (some ⟨b482, 0, none⟩) 1 1)]) (vs' := [(.slice (some ⟨b477, 0, none⟩) (3 : Int).toNat (3 : Int).toNat), (.slice (some ⟨b480, 0, none⟩) 3 3), (.slice (some ⟨b482, 0, none⟩) 1 1)]) H rfl ty25 rfl rfl rfl rfl (one_cons (arr_cells (H.ok.get (k := 3) rfl)).2 (one_cons (arr_cells (H.ok.get (k := 2) rfl)).2 (one_cons (arr_cells (H.ok.get (k := 1) rfl)).2 one_nil))) (by simp) rfl) rfl rfl ?_
  rintro _ wd486 H
  dsimp only [List.set] at H
  refine WL_nil <| x_then <| C_seq <| C_seq <| R_nd <| nq (Q_move rfl) rfl rfl <| WL_nil <| x_then ?_
  obtain ⟨o701, ho701, hF⟩ := bnd hF
  refine C_cutQ (fun a w' => ∃ (c698 : (List Value)) (x699 : (List (List Int))), x699 = o701 ∧ rdL (eA 256 (eI .i64)) ρ x699 c698 ∧ Fr 22 a [(0, .pointer (some ⟨b474, 0, none⟩)), (1, .pointer (some ⟨b484, 0, none⟩))] ∧ Hp C w' ρ (Box b474 [.slice none 0 0, .slice none 0 0, .slice none 0 0] :: Box b484 [(.slice (some ⟨b477, 0, none⟩) (3 : Int).toNat (3 : Int).toNat), (.slice (some ⟨b480, 0, none⟩) 3 3), (.slice (some ⟨b482, 0, none⟩) 1 1)] :: Arr (.slice (some ⟨b477, 0, none⟩) (3 : Int).toNat (3 : Int).toNat) 256 c698 :: Arr (.slice (some ⟨b480, 0, none⟩) 3 3) 1 ([.int .i64 (-1), .int .i64 0, .int .i64 0]) :: Arr (.slice (some ⟨b482, 0, none⟩) 1 1) 1 ([.int .i64 1]) :: hs)) ?_ ?_
  · refine C_block ?_
    replace H := H.front 1 rfl
    dsimp only [List.eraseIdx] at H
    replace H := H.front 2 rfl
    dsimp only [List.eraseIdx] at H
    replace H := H.front 3 rfl
    dsimp only [List.eraseIdx] at H
    replace H := H.front 3 rfl
    dsimp only [List.eraseIdx] at H
    replace H := H.front 4 rfl
    dsimp only [List.eraseIdx] at H
    refine C_iter (f := fun s => F_dofferlaw19_pairs_l0 N s.1 s.2) ho701 (fun s a w' => ∃ (c771 : (List Value)) (x772 : (List (List Int))) (x774 : Int), (x772, x774) = s ∧ rdL (eA 256 (eI .i64)) ρ x772 c771 ∧ Fr 22 a [(0, .pointer (some ⟨b474, 0, none⟩)), (1, .pointer (some ⟨b484, 0, none⟩)), (7, .int .i64 x774)] ∧ Hp C w' ρ (Box b474 [.slice none 0 0, .slice none 0 0, .slice none 0 0] :: Box b484 [(.slice (some ⟨b477, 0, none⟩) (3 : Int).toNat (3 : Int).toNat), (.slice (some ⟨b480, 0, none⟩) 3 3), (.slice (some ⟨b482, 0, none⟩) 1 1)] :: Arr (.slice (some ⟨b477, 0, none⟩) (3 : Int).toNat (3 : Int).toNat) 256 c771 :: Arr (.slice (some ⟨b480, 0, none⟩) 3 3) 1 ([.int .i64 (-1), .int .i64 0, .int .i64 0]) :: Arr (.slice (some ⟨b482, 0, none⟩) 1 1) 1 ([.int .i64 1]) :: hs)) ?_ ?_
    · exact fun a hf => ⟨(repC (3 : Int).toNat (repC 256 [.int .i64 0])), x476, 0, rfl, (hm478c ▸ rdL_rep (e := (eA 256 (eI .i64))) (ρ := ρ) (⟨by simp, rdL_rep (e:=(eI .i64)) (ρ:=ρ) (rfl) 256⟩) _), hf.sub ⟨rfl, rfl, rfl, trivial⟩, H⟩
    · rintro s o844 a wd847 ⟨c771, x772, x774, rfl, r773, hf, H⟩ hB845 hO846
      replace hB845 : F_dofferlaw19_pairs_l0 N x772 x774 = some o844 := hB845
      unfold F_dofferlaw19_pairs_l0 at hB845
      refine CW.at hf <| C_seq <| R_nd <| nq (Q_lss rfl rfl) rfl rfl <| WL_nil <| x_then <| C_seq ?_
      refine C_cond rfl (fun hb => ?_) (fun hb => ?_)
      · replace hB845 := itT hb hB845
        refine C_skip <| x_then <| C_seq <| C_block <| C_seq <| R_nd <| nq (Q_move rfl) rfl rfl <| nq (Q_assign rfl) rfl rfl <| WL_nil <| x_then ?_
        obtain ⟨o881, ho881, hB845⟩ := bnd hB845
        refine C_cutQ (fun a w' => ∃ (c878 : (List Value)) (x879 : (List (List Int))), x879 = o881 ∧ rdL (eA 256 (eI .i64)) ρ x879 c878 ∧ Fr 22 a [(0, .pointer (some ⟨b474, 0, none⟩)), (1, .pointer (some ⟨b484, 0, none⟩)), (7, .int .i64 x774)] ∧ Hp C w' ρ (Box b474 [.slice none 0 0, .slice none 0 0, .slice none 0 0] :: Box b484 [(.slice (some ⟨b477, 0, none⟩) (3 : Int).toNat (3 : Int).toNat), (.slice (some ⟨b480, 0, none⟩) 3 3), (.slice (some ⟨b482, 0, none⟩) 1 1)] :: Arr (.slice (some ⟨b477, 0, none⟩) (3 : Int).toNat (3 : Int).toNat) 256 c878 :: Arr (.slice (some ⟨b480, 0, none⟩) 3 3) 1 ([.int .i64 (-1), .int .i64 0, .int .i64 0]) :: Arr (.slice (some ⟨b482, 0, none⟩) 1 1) 1 ([.int .i64 1]) :: hs)) ?_ ?_
        · refine R_dr (.take 0 (.take 1 (.take 2 (.take 3 (.take 4 (.take 5 (.take 6 (.take 7 (.take 9 (.one 8 (.take 10 (.one 11 .done)))))))))))) (fun w' => Ok w' ρ [Box b474 [.slice none 0 0, .slice none 0 0, .slice none 0 0], Box b484 [(.slice (some ⟨b477, 0, none⟩) (3 : Int).toNat (3 : Int).toNat), (.slice (some ⟨b480, 0, none⟩) 3 3), (.slice (some ⟨b482, 0, none⟩) 1 1)], Arr (.slice (some ⟨b480, 0, none⟩) 3 3) 1 ([.int .i64 (-1), .int .i64 0, .int .i64 0]), Arr (.slice (some ⟨b482, 0, none⟩) 1 1) 1 ([.int .i64 1])]) (by kernel_rfl) (by kernel_rfl) (by kernel_rfl) (H.drew.okS (by simp)) ?_
          replace H := H.drew
          refine dq (v := .pointer (some ⟨b484, 0, none⟩)) rfl (fun _ _ => Q_fld Try.underlying25 rfl ty22 (by decide) rfl rfl) rfl rfl <| dq (v := (.slice (some ⟨b477, 0, none⟩) (3 : Int).toNat (3 : Int).toNat)) rfl (fun _ hw => Q_ldB (k := 1) (cs := [(.slice (some ⟨b477, 0, none⟩) (3 : Int).toNat (3 : Int).toNat)]) hw rfl ty22 rfl rfl rfl (fun _ => rfl) rfl) rfl rfl <| dq rfl (fun _ _ => Q_move rfl) rfl rfl <| dq (v := .pointer (some ⟨b484, 0, none⟩)) rfl (fun _ _ => Q_fld Try.underlying25 rfl ty22 (by decide) rfl rfl) rfl rfl <| dq (v := (.slice (some ⟨b477, 0, none⟩) (3 : Int).toNat (3 : Int).toNat)) rfl (fun _ hw => Q_ldB (k := 1) (cs := [(.slice (some ⟨b477, 0, none⟩) (3 : Int).toNat (3 : Int).toNat)]) hw rfl ty22 rfl rfl rfl (fun _ => rfl) rfl) rfl rfl <| dq rfl (fun _ _ => Q_move rfl) rfl rfl ?_
          obtain ⟨x882, hx882, ho881⟩ := bnd ho881
          obtain ⟨b883, o884, hi888, hc886, ha887⟩ := arr_at (hs := [Arr (.slice (some ⟨b477, 0, none⟩) (3 : Int).toNat (3 : Int).toNat) 256 c771]) (k := 0) (by decide) (H.okS (by simp)) rfl r773 hx882
          refine dq rfl (fun _ _ => Q_idx hi888 Try.underlying22 ty42 rfl rfl) rfl rfl ?_
          obtain ⟨x889, hx889, ho881⟩ := bnd ho881
          have hn890 := idx_lt hc886.1 hx889
          refine dq rfl (fun _ _ => Q_idxA hn890.1 hn890.2 Try.underlying42 ty3 rfl rfl) rfl rfl ?_
          obtain ⟨x891, hx891, ho881⟩ := bnd ho881
          obtain ⟨b892, o893, hi897, hc895, ha896⟩ := arr_at (hs := [Arr (.slice (some ⟨b477, 0, none⟩) (3 : Int).toNat (3 : Int).toNat) 256 c771]) (k := 0) (by decide) (H.okS (by simp)) rfl r773 hx891
          refine dq rfl (fun _ _ => Q_idx hi897 Try.underlying22 ty42 rfl rfl) rfl rfl ?_
          obtain ⟨x898, hx898, ho881⟩ := bnd ho881
          obtain ⟨x899, hx899, ho881⟩ := bnd ho881
          have r900 : rdL (eA 256 (eI .i64)) ρ x899 (setC c771 ((1 : Int).toNat * 256 + x774.toNat * 1) [.int .i64 2]) := rdL_set2 (e := (eI .i64)) (N := 256) r773 hc886 hx898 hx899 (rfl)
          refine d1 (de rfl (E_stA (k := 2) (j := x774.toNat * 1) (c := [.int .i64 2]) H rfl ty3 hi888 rfl rfl rfl rfl (one_cons rfl one_nil) (idx_fit (N := 256) (m := 1) (idx_lt hc886.1 hx889))) rfl rfl ?_)
          rintro _ wd901 H
          dsimp only [List.set] at H
          refine ⟨H.okS (by simp), ?_⟩
          obtain ⟨x902, hx902, ho881⟩ := bnd ho881
          have hn903 := idx_lt hc895.1 hx902
          refine dq rfl (fun _ _ => Q_idxA hn903.1 hn903.2 Try.underlying42 ty3 rfl rfl) rfl rfl ?_
          obtain ⟨x904, hx904, ho881⟩ := bnd ho881
          obtain ⟨hc905, ha906⟩ := arr_re (by decide) (H.okS (l := [Arr (.slice (some ⟨b477, 0, none⟩) (3 : Int).toNat (3 : Int).toNat) 256 (setC c771 ((1 : Int).toNat * 256 + x774.toNat * 1) [.int .i64 2])]) (by simp)) r900 hx904 hi897
          obtain ⟨x907, hx907, ho881⟩ := bnd ho881
          obtain ⟨x908, hx908, ho881⟩ := bnd ho881
          obtain ⟨x909, hx909, ho881⟩ := bnd ho881
          have r910 : rdL (eA 256 (eI .i64)) ρ x909 (setC (setC c771 ((1 : Int).toNat * 256 + x774.toNat * 1) [.int .i64 2]) ((2 : Int).toNat * 256 + x774.toNat * 1) [.int .i64 1]) := rdL_set2 (e := (eI .i64)) (N := 256) r900 hc905 hx908 hx909 (rfl)
          refine d1 (de rfl (E_stA (k := 2) (j := x774.toNat * 1) (c := [.int .i64 1]) H rfl ty3 hi897 rfl rfl rfl rfl (one_cons rfl one_nil) (idx_fit (N := 256) (m := 1) (idx_lt hc905.1 hx907))) rfl rfl ?_)
          rintro _ wd911 H
          dsimp only [List.set] at H
          refine ⟨H.okS (by simp), ?_⟩
          refine DL_nil ?_
          replace H := H.front 4 rfl
          dsimp only [List.eraseIdx] at H
          replace H := H.front 4 rfl
          dsimp only [List.eraseIdx] at H
          replace H := H.front 4 rfl
          dsimp only [List.eraseIdx] at H
          replace H := H.front 4 rfl
          dsimp only [List.eraseIdx] at H
          replace H := H.front 4 rfl
          dsimp only [List.eraseIdx] at H
          obtain rfl := Option.some.inj ho881
          refine x_A fun a hf => ⟨(setC (setC c771 ((1 : Int).toNat * 256 + x774.toNat * 1) [.int .i64 2]) ((2 : Int).toNat * 256 + x774.toNat * 1) [.int .i64 1]), x909, rfl, r910, hf.sub ⟨rfl, rfl, rfl, trivial⟩, H⟩
        · rintro a wd912 ⟨c878, x879, rfl, r880, hf, H⟩
          try dsimp only at hB845
          refine XX.at hf <| x_block <| x_then <| R_nd <| nq (Q_add rfl rfl) rfl rfl <| nq (Q_move rfl) rfl rfl <| WL_nil ?_
          replace H := H.front 4 rfl
          dsimp only [List.eraseIdx] at H
          replace H := H.front 4 rfl
          dsimp only [List.eraseIdx] at H
          replace H := H.front 4 rfl
          dsimp only [List.eraseIdx] at H
          replace H := H.front 4 rfl
          dsimp only [List.eraseIdx] at H
          replace H := H.front 4 rfl
          dsimp only [List.eraseIdx] at H
          obtain rfl := Option.some.inj hB845
          refine x_A fun a hf => ⟨_, rfl, c878, x879, w64 (x774 + 1), rfl, r880, hf.sub ⟨rfl, rfl, rfl, trivial⟩, H⟩
      · replace hB845 := itF hb hB845
        refine C_exit <| x_then_exit <| x_then_exit <| x_block_exit ?_
        replace H := H.front 4 rfl
        dsimp only [List.eraseIdx] at H
        replace H := H.front 4 rfl
        dsimp only [List.eraseIdx] at H
        replace H := H.front 4 rfl
        dsimp only [List.eraseIdx] at H
        replace H := H.front 4 rfl
        dsimp only [List.eraseIdx] at H
        replace H := H.front 4 rfl
        dsimp only [List.eraseIdx] at H
        obtain rfl := Option.some.inj hB845
        obtain rfl := hO846 _ rfl
        refine x_A fun a hf => ⟨c771, x772, rfl, r773, hf.sub ⟨rfl, rfl, trivial⟩, H⟩
  · rintro a wd913 ⟨c698, x699, rfl, r700, hf, H⟩
    try dsimp only at hF
    refine XX.at hf <| x_then <| C_seq <| R_nd <| nq (v := .agg #[(.slice (some ⟨b477, 0, none⟩) (3 : Int).toNat (3 : Int).toNat), (.slice (some ⟨b480, 0, none⟩) 3 3), (.slice (some ⟨b482, 0, none⟩) 1 1)]) (Q_ldB (k := 1) (cs := [(.slice (some ⟨b477, 0, none⟩) (3 : Int).toNat (3 : Int).toNat), (.slice (some ⟨b480, 0, none⟩) 3 3), (.slice (some ⟨b482, 0, none⟩) 1 1)]) H.ok rfl ty25 rfl rfl rfl (fun h => nomatch h) rfl) rfl rfl <| ne (E_stB (k := 0) (cs := [(.slice (some ⟨b477, 0, none⟩) (3 : Int).toNat (3 : Int).toNat), (.slice (some ⟨b480, 0, none⟩) 3 3), (.slice (some ⟨b482, 0, none⟩) 1 1)]) (vs' := [(.slice (some ⟨b477, 0, none⟩) (3 : Int).toNat (3 : Int).toNat), (.slice (some ⟨b480, 0, none⟩) 3 3), (.slice (some ⟨b482, 0, none⟩) 1 1)]) H rfl ty25 rfl rfl rfl rfl (one_cons (arr_cells (H.ok.get (k := 2) rfl)).2 (one_cons (arr_cells (H.ok.get (k := 3) rfl)).2 (one_cons (arr_cells (H.ok.get (k := 4) rfl)).2 one_nil))) (by simp) rfl) rfl rfl ?_
    rintro _ wd914 H
    dsimp only [List.set] at H
    refine WL_nil <| x_then <| C_ret ?_
    have hRV : RV Try.prog wd914 [(0, .pointer (some ⟨b474, 0, none⟩))] [.cell 0 25] [.agg #[(.slice (some ⟨b477, 0, none⟩) (3 : Int).toNat (3 : Int).toNat), (.slice (some ⟨b480, 0, none⟩) 3 3), (.slice (some ⟨b482, 0, none⟩) 1 1)]] := ⟨⟨_, rfl, run_ldv ty25 rfl (fun h => nomatch h) (box_at (H.ok.get (k := 0) rfl) 0 3)⟩, trivial⟩
    replace H := H.front 4 rfl
    dsimp only [List.eraseIdx] at H
    replace H := H.front 4 rfl
    dsimp only [List.eraseIdx] at H
    replace H := H.front 4 rfl
    dsimp only [List.eraseIdx] at H
    replace H := H.drop 3 rfl
    dsimp only [List.eraseIdx] at H
    replace H := H.drop 3 rfl
    dsimp only [List.eraseIdx] at H
    obtain rfl := Option.some.inj hF
    exact fn_retV (rs := [.cell 0 25]) (vs := [.agg #[(.slice (some ⟨b477, 0, none⟩) (3 : Int).toNat (3 : Int).toNat), (.slice (some ⟨b480, 0, none⟩) 3 3), (.slice (some ⟨b482, 0, none⟩) 1 1)]]) rfl hRV ⟨(.slice (some ⟨b477, 0, none⟩) (3 : Int).toNat (3 : Int).toNat), c698, (.slice (some ⟨b480, 0, none⟩) 3 3), [.int .i64 (-1), .int .i64 0, .int .i64 0], (.slice (some ⟨b482, 0, none⟩) 1 1), [.int .i64 1], x699, rfl, rfl, r700, (show rdL (eI .i64) ρ ([(-1), 0, 0]) ([.int .i64 (-1), .int .i64 0, .int .i64 0]) from ⟨([.int .i64 (-1)]), _, rfl, rfl, ⟨([.int .i64 0]), _, rfl, rfl, ⟨([.int .i64 0]), _, rfl, rfl, rdL.nil⟩⟩⟩), (show rdL (eI .i64) ρ ([1]) ([.int .i64 1]) from ⟨([.int .i64 1]), _, rfl, rfl, rdL.nil⟩), H⟩
theorem c_17 {N : Nat} {C : Cx} {w : World} {ρ : View} {hs : List Hl} {b2 : Nat} {x1 : Int} {x3 : Int} (H : Hp C w ρ (Box b2 [.int .i64 x3] :: hs)) {r : Bool} (hF : F_subset_Right_1 N x1 x3 = some r) :
    Calls Try.prog 17 [.int .i64 x1, .pointer (some ⟨b2, 0, none⟩)].toArray w (Rets (fun v w' => (∃ (x7 : Bool), x7 = r ∧ .bool x7 = v ∧ Hp C w' ρ (Box b2 [.int .i64 x3] :: hs)))) := by
  unfold F_subset_Right_1 at hF
  have h0 : Try.f17.body = some _ := rfl
  refine fn_calls' Try.func17 h0 (n := 11) rfl (by simp) <| C_seq <| R_nd <| nq (Q_assign rfl) rfl rfl <| WL_nil <| x_then ?_
  obtain ⟨o9, ho9, hF⟩ := bnd hF
  refine C_cut (fun a w' => ∃ (x8 : Bool), x8 = o9 ∧ Fr 11 a [(3, .bool x8)] ∧ Hp C w' ρ (Box b2 [.int .i64 x3] :: hs)) ?_ ?_
  · refine R_nd <| nq (Q_move rfl) rfl rfl <| nq (Q_lss rfl rfl) rfl rfl <| nq (Q_move rfl) rfl rfl ?_
    rcases Bool.eq_false_or_eq_true (decide (x1 < 0)) with hb | hb
    · rw [hb]
      replace ho9 := itT hb ho9
      refine gs rfl rfl rfl rfl <| gs rfl rfl rfl rfl <| gs rfl rfl rfl rfl <| nq (Q_pickT rfl rfl) rfl rfl <| nq (Q_assign rfl) rfl rfl <| WL_nil ?_
      obtain rfl := Option.some.inj ho9
      refine x_A fun a hf => ⟨true, rfl, hf.sub ⟨rfl, trivial⟩, H⟩
    · rw [hb]
      replace ho9 := itF hb ho9
      refine gq (Q_move rfl) rfl rfl rfl <| gq (v := .int .i64 x3) (Q_ldB (k := 0) (cs := [.int .i64 x3]) H.ok rfl ty3 rfl rfl rfl (fun _ => rfl) rfl) rfl rfl rfl <| gq (Q_geq rfl rfl) rfl rfl rfl <| nq (Q_pickF rfl rfl) rfl rfl <| nq (Q_assign rfl) rfl rfl <| WL_nil ?_
      obtain rfl := Option.some.inj ho9
      refine x_A fun a hf => ⟨decide (x1 ≥ x3), rfl, hf.sub ⟨rfl, trivial⟩, H⟩
  · rintro a wd10 ⟨x8, rfl, hf, H⟩
    try dsimp only at hF
    refine CW.at hf <| C_ret ?_
    obtain rfl := Option.some.inj hF
    exact fn_ret (l := [.tmp 3]) (vs := [.bool x8]) rfl rfl rfl ⟨x8, rfl, rfl, H⟩
theorem c_22 {N : Nat} {C : Cx} {w : World} {ρ : View} {hs : List Hl} {v1 : Value} {b4 : Nat} {x2 : (List Int)} {x5 : Int} (H : Hp C w ρ (Box b4 [.int .i64 x5] :: hs)) (r3 : RdSl ρ (eI .i64) v1 x2) {r : Int} (hF : F_slices_IndexFunc_int_int N x2 x5 = some r) :
    Calls Try.prog 22 [v1, .func (.func 17) #[] [.pointer (some ⟨b4, 0, none⟩)].toArray].toArray w (Rets (fun v w' => (∃ (x88 : Int), x88 = r ∧ .int .i64 x88 = v ∧ Hp C w' ρ (Box b4 [.int .i64 x5] :: hs)))) := by
  unfold F_slices_IndexFunc_int_int at hF
  have h0 : Try.f22.body = some _ := rfl
  refine fn_calls' Try.func22 h0 (n := 19) rfl (by simp) <| C_seq <| R_nd <| nq (Q_assign rfl) rfl rfl <| WL_nil <| x_then <| C_seq <| C_seq <| R_nd <| nq (Q_move rfl) rfl rfl <| nq (Q_len Try.underlying23 rfl r3) rfl rfl <| nq (Q_move rfl) rfl rfl <| WL_nil <| x_then ?_
  obtain ⟨o129, ho129, hF⟩ := bnd hF
  refine C_cutQ (fun a w' => .inl () = o129 ∧ Fr 19 a [] ∧ Hp C w' ρ (Box b4 [.int .i64 x5] :: hs)) ?_ ?_
  · refine C_block ?_
    refine C_iter (f := fun s => F_slices_IndexFunc_int_int_l0 N x2 x5 s) ho129 (fun s a w' => ∃ (x142 : Int), x142 = s ∧ Fr 19 a [(0, v1), (1, .func (.func 17) #[] [.pointer (some ⟨b4, 0, none⟩)].toArray), (7, .int .i64 (x2.length : Int)), (8, .int .i64 x142)] ∧ Hp C w' ρ (Box b4 [.int .i64 x5] :: hs)) ?_ ?_
    · exact fun a hf => ⟨0, rfl, hf.sub ⟨rfl, rfl, rfl, rfl, trivial⟩, H⟩
    · rintro s o155 a wd158 ⟨x142, rfl, hf, H⟩ hB156 hO157
      replace hB156 : F_slices_IndexFunc_int_int_l0 N x2 x5 x142 = some o155 := hB156
      unfold F_slices_IndexFunc_int_int_l0 at hB156
      refine CW.at hf <| C_seq <| R_nd <| nq (Q_lss rfl rfl) rfl rfl <| WL_nil <| x_then <| C_seq ?_
      refine C_cond rfl (fun hb => ?_) (fun hb => ?_)
      · replace hB156 := itT hb hB156
        refine C_skip <| x_then <| C_seq <| C_block <| C_seq <| R_nd <| nq (Q_move rfl) rfl rfl <| nq (Q_assign rfl) rfl rfl <| WL_nil <| x_then <| C_seq <| R_nd <| nq (Q_move rfl) rfl rfl <| nq (Q_move rfl) rfl rfl ?_
        refine nq (Q_move rfl) rfl rfl ?_
        obtain ⟨x159, hx159, hB156⟩ := bnd hB156
        obtain ⟨b160, o161, c162, hc163, ha164, hi165⟩ := idxR r3 hx159
        refine nq (Q_idx hi165 Try.underlying23 ty3 rfl rfl) rfl rfl <| nq (v := .int .i64 x159) (Q_ld (show cellsAt _ _ _ [.int .i64 x159] from (show _ = [_] from hc163) ▸ (ha164.up H.ok.view)) ty3 rfl (fun _ => rfl) rfl rfl) rfl rfl ?_
        obtain ⟨q166, hq166, hB156⟩ := bnd hB156
        refine ne (E_callV fn17 rfl rfl (c_17 H   hq166)) rfl rfl ?_
        rintro _ wd169 ⟨x168, rfl, rfl, H⟩
        try dsimp only at hB156
        refine WL_nil <| x_then ?_
        refine C_cond rfl (fun hb => ?_) (fun hb => ?_)
        · replace hB156 := itT hb hB156
          refine C_seq <| R_nd <| nq (Q_move rfl) rfl rfl <| nq (Q_assign rfl) rfl rfl <| WL_nil <| x_then <| C_ret <| x_block_ret <| x_then_ret <| x_then_ret <| x_block_ret <| x_then_ret <| x_then_ret ?_
          obtain rfl := Option.some.inj hB156
          obtain rfl := hO157 _ rfl
          obtain rfl := Option.some.inj (show some _ = some _ from hF)
          exact fn_ret (l := [.tmp 4]) (vs := [.int .i64 x142]) rfl rfl rfl ⟨x142, rfl, rfl, H⟩
        · replace hB156 := itF hb hB156
          refine C_skip <| x_block <| x_then <| R_nd <| nq (Q_add rfl rfl) rfl rfl <| nq (Q_move rfl) rfl rfl <| WL_nil ?_
          obtain rfl := Option.some.inj hB156
          refine x_A fun a hf => ⟨_, rfl, w64 (x142 + 1), rfl, hf.sub ⟨rfl, rfl, rfl, rfl, trivial⟩, H⟩
      · replace hB156 := itF hb hB156
        refine C_exit <| x_then_exit <| x_then_exit <| x_block_exit ?_
        obtain rfl := Option.some.inj hB156
        obtain rfl := hO157 _ rfl
        refine x_A fun a hf => ⟨rfl, hf.sub trivial, H⟩
  · rintro a wd170 ⟨rfl, hf, H⟩
    try dsimp only at hF
    refine XX.at hf <| x_then <| C_seq <| R_nd <| nq (Q_assign rfl) rfl rfl <| WL_nil <| x_then <| C_ret ?_
    obtain rfl := Option.some.inj hF
    exact fn_ret (l := [.tmp 4]) (vs := [.int .i64 (-1)]) rfl rfl rfl ⟨(-1), rfl, rfl, H⟩
theorem c_18 {N : Nat} {C : Cx} {w : World} {ρ : View} {hs : List Hl} {v1 : Value} {b4 : Nat} {x2 : (List Int)} {x5 : Int} (H : Hp C w ρ (Box b4 [.int .i64 x5] :: hs)) (r3 : RdSl ρ (eI .i64) v1 x2) {r : Bool} (hF : F_slices_ContainsFunc_int_int N x2 x5 = some r) :
    Calls Try.prog 18 [v1, .func (.func 17) #[] [.pointer (some ⟨b4, 0, none⟩)].toArray].toArray w (Rets (fun v w' => (∃ (x10 : Bool), x10 = r ∧ .bool x10 = v ∧ Hp C w' ρ (Box b4 [.int .i64 x5] :: hs)))) := by
  unfold F_slices_ContainsFunc_int_int at hF
  have h0 : Try.f18.body = some _ := rfl
  refine fn_calls' Try.func18 h0 (n := 9) rfl (by simp) <| C_seq <| R_nd <| nq (Q_assign rfl) rfl rfl <| WL_nil <| x_then <| C_seq <| R_nd <| nq (Q_move rfl) rfl rfl <| nq (Q_move rfl) rfl rfl ?_
  obtain ⟨q11, hq11, hF⟩ := bnd hF
  refine ne (E_call fn22 rfl (c_22 H  r3 hq11)) rfl rfl ?_
  rintro _ wd14 ⟨x13, rfl, rfl, H⟩
  try dsimp only at hF
  refine nq (Q_geq rfl rfl) rfl rfl <| nq (Q_assign rfl) rfl rfl <| WL_nil <| x_then <| C_ret ?_
  obtain rfl := Option.some.inj hF
  exact fn_ret (l := [.tmp 4]) (vs := [.bool (decide (x13 ≥ 0))]) rfl rfl rfl ⟨decide (x13 ≥ 0), rfl, rfl, H⟩
theorem c_19 {N : Nat} {C : Cx} {w : World} {ρ : View} {hs : List Hl} {x1 : Int} (H : Hp C w ρ (hs)) {r : Bool} (hF : F_subset_Right_2 N x1 = some r) :
    Calls Try.prog 19 [.int .i64 x1].toArray w (Rets (fun v w' => (∃ (x5 : Bool), x5 = r ∧ .bool x5 = v ∧ Hp C w' ρ (hs)))) := by
  unfold F_subset_Right_2 at hF
  have h0 : Try.f19.body = some _ := rfl
  refine fn_calls' Try.func19 h0 (n := 9) rfl (by simp) <| C_seq <| R_nd <| nq (Q_assign rfl) rfl rfl <| WL_nil <| x_then ?_
  obtain ⟨o7, ho7, hF⟩ := bnd hF
  refine C_cut (fun a w' => ∃ (x6 : Bool), x6 = o7 ∧ Fr 9 a [(2, .bool x6)] ∧ Hp C w' ρ (hs)) ?_ ?_
  · refine R_nd <| nq (Q_move rfl) rfl rfl <| nq (Q_lss rfl rfl) rfl rfl <| nq (Q_move rfl) rfl rfl ?_
    rcases Bool.eq_false_or_eq_true (decide (x1 < (-1))) with hb | hb
    · rw [hb]
      replace ho7 := itT hb ho7
      refine gs rfl rfl rfl rfl <| gs rfl rfl rfl rfl <| nq (Q_pickT rfl rfl) rfl rfl <| nq (Q_assign rfl) rfl rfl <| WL_nil ?_
      obtain rfl := Option.some.inj ho7
      refine x_A fun a hf => ⟨true, rfl, hf.sub ⟨rfl, trivial⟩, H⟩
    · rw [hb]
      replace ho7 := itF hb ho7
      refine gq (Q_move rfl) rfl rfl rfl <| gq (Q_geq rfl rfl) rfl rfl rfl <| nq (Q_pickF rfl rfl) rfl rfl <| nq (Q_assign rfl) rfl rfl <| WL_nil ?_
      obtain rfl := Option.some.inj ho7
      refine x_A fun a hf => ⟨decide (x1 ≥ 48), rfl, hf.sub ⟨rfl, trivial⟩, H⟩
  · rintro a wd8 ⟨x6, rfl, hf, H⟩
    try dsimp only at hF
    refine CW.at hf <| C_ret ?_
    obtain rfl := Option.some.inj hF
    exact fn_ret (l := [.tmp 2]) (vs := [.bool x6]) rfl rfl rfl ⟨x6, rfl, rfl, H⟩
theorem c_22_1 {N : Nat} {C : Cx} {w : World} {ρ : View} {hs : List Hl} {v1 : Value} {x2 : (List Int)} (H : Hp C w ρ (hs)) (r3 : RdSl ρ (eI .i64) v1 x2) {r : Int} (hF : F_slices_IndexFunc_int_int_1 N x2 = some r) :
    Calls Try.prog 22 [v1, .func (.func 19) #[] [].toArray].toArray w (Rets (fun v w' => (∃ (x86 : Int), x86 = r ∧ .int .i64 x86 = v ∧ Hp C w' ρ (hs)))) := by
  unfold F_slices_IndexFunc_int_int_1 at hF
  have h0 : Try.f22.body = some _ := rfl
  refine fn_calls' Try.func22 h0 (n := 19) rfl (by simp) <| C_seq <| R_nd <| nq (Q_assign rfl) rfl rfl <| WL_nil <| x_then <| C_seq <| C_seq <| R_nd <| nq (Q_move rfl) rfl rfl <| nq (Q_len Try.underlying23 rfl r3) rfl rfl <| nq (Q_move rfl) rfl rfl <| WL_nil <| x_then ?_
  obtain ⟨o127, ho127, hF⟩ := bnd hF
  refine C_cutQ (fun a w' => .inl () = o127 ∧ Fr 19 a [] ∧ Hp C w' ρ (hs)) ?_ ?_
  · refine C_block ?_
    refine C_iter (f := fun s => F_slices_IndexFunc_int_int_1_l0 N x2 s) ho127 (fun s a w' => ∃ (x140 : Int), x140 = s ∧ Fr 19 a [(0, v1), (1, .func (.func 19) #[] [].toArray), (7, .int .i64 (x2.length : Int)), (8, .int .i64 x140)] ∧ Hp C w' ρ (hs)) ?_ ?_
    · exact fun a hf => ⟨0, rfl, hf.sub ⟨rfl, rfl, rfl, rfl, trivial⟩, H⟩
    · rintro s o153 a wd156 ⟨x140, rfl, hf, H⟩ hB154 hO155
      replace hB154 : F_slices_IndexFunc_int_int_1_l0 N x2 x140 = some o153 := hB154
      unfold F_slices_IndexFunc_int_int_1_l0 at hB154
      refine CW.at hf <| C_seq <| R_nd <| nq (Q_lss rfl rfl) rfl rfl <| WL_nil <| x_then <| C_seq ?_
      refine C_cond rfl (fun hb => ?_) (fun hb => ?_)
      · replace hB154 := itT hb hB154
        refine C_skip <| x_then <| C_seq <| C_block <| C_seq <| R_nd <| nq (Q_move rfl) rfl rfl <| nq (Q_assign rfl) rfl rfl <| WL_nil <| x_then <| C_seq <| R_nd <| nq (Q_move rfl) rfl rfl <| nq (Q_move rfl) rfl rfl ?_
        refine nq (Q_move rfl) rfl rfl ?_
        obtain ⟨x157, hx157, hB154⟩ := bnd hB154
        obtain ⟨b158, o159, c160, hc161, ha162, hi163⟩ := idxR r3 hx157
        refine nq (Q_idx hi163 Try.underlying23 ty3 rfl rfl) rfl rfl <| nq (v := .int .i64 x157) (Q_ld (show cellsAt _ _ _ [.int .i64 x157] from (show _ = [_] from hc161) ▸ (ha162.up H.ok.view)) ty3 rfl (fun _ => rfl) rfl rfl) rfl rfl ?_
        obtain ⟨q164, hq164, hB154⟩ := bnd hB154
        refine ne (E_callV fn19 rfl rfl (c_19 H   hq164)) rfl rfl ?_
        rintro _ wd167 ⟨x166, rfl, rfl, H⟩
        try dsimp only at hB154
        refine WL_nil <| x_then ?_
        refine C_cond rfl (fun hb => ?_) (fun hb => ?_)
        · replace hB154 := itT hb hB154
          refine C_seq <| R_nd <| nq (Q_move rfl) rfl rfl <| nq (Q_assign rfl) rfl rfl <| WL_nil <| x_then <| C_ret <| x_block_ret <| x_then_ret <| x_then_ret <| x_block_ret <| x_then_ret <| x_then_ret ?_
          obtain rfl := Option.some.inj hB154
          obtain rfl := hO155 _ rfl
          obtain rfl := Option.some.inj (show some _ = some _ from hF)
          exact fn_ret (l := [.tmp 4]) (vs := [.int .i64 x140]) rfl rfl rfl ⟨x140, rfl, rfl, H⟩
        · replace hB154 := itF hb hB154
          refine C_skip <| x_block <| x_then <| R_nd <| nq (Q_add rfl rfl) rfl rfl <| nq (Q_move rfl) rfl rfl <| WL_nil ?_
          obtain rfl := Option.some.inj hB154
          refine x_A fun a hf => ⟨_, rfl, w64 (x140 + 1), rfl, hf.sub ⟨rfl, rfl, rfl, rfl, trivial⟩, H⟩
      · replace hB154 := itF hb hB154
        refine C_exit <| x_then_exit <| x_then_exit <| x_block_exit ?_
        obtain rfl := Option.some.inj hB154
        obtain rfl := hO155 _ rfl
        refine x_A fun a hf => ⟨rfl, hf.sub trivial, H⟩
  · rintro a wd168 ⟨rfl, hf, H⟩
    try dsimp only at hF
    refine XX.at hf <| x_then <| C_seq <| R_nd <| nq (Q_assign rfl) rfl rfl <| WL_nil <| x_then <| C_ret ?_
    obtain rfl := Option.some.inj hF
    exact fn_ret (l := [.tmp 4]) (vs := [.int .i64 (-1)]) rfl rfl rfl ⟨(-1), rfl, rfl, H⟩
theorem c_18_1 {N : Nat} {C : Cx} {w : World} {ρ : View} {hs : List Hl} {v1 : Value} {x2 : (List Int)} (H : Hp C w ρ (hs)) (r3 : RdSl ρ (eI .i64) v1 x2) {r : Bool} (hF : F_slices_ContainsFunc_int_int_1 N x2 = some r) :
    Calls Try.prog 18 [v1, .func (.func 19) #[] [].toArray].toArray w (Rets (fun v w' => (∃ (x8 : Bool), x8 = r ∧ .bool x8 = v ∧ Hp C w' ρ (hs)))) := by
  unfold F_slices_ContainsFunc_int_int_1 at hF
  have h0 : Try.f18.body = some _ := rfl
  refine fn_calls' Try.func18 h0 (n := 9) rfl (by simp) <| C_seq <| R_nd <| nq (Q_assign rfl) rfl rfl <| WL_nil <| x_then <| C_seq <| R_nd <| nq (Q_move rfl) rfl rfl <| nq (Q_move rfl) rfl rfl ?_
  obtain ⟨q9, hq9, hF⟩ := bnd hF
  refine ne (E_call fn22 rfl (c_22_1 H  r3 hq9)) rfl rfl ?_
  rintro _ wd12 ⟨x11, rfl, rfl, H⟩
  try dsimp only at hF
  refine nq (Q_geq rfl rfl) rfl rfl <| nq (Q_assign rfl) rfl rfl <| WL_nil <| x_then <| C_ret ?_
  obtain rfl := Option.some.inj hF
  exact fn_ret (l := [.tmp 4]) (vs := [.bool (decide (x11 ≥ 0))]) rfl rfl rfl ⟨decide (x11 ≥ 0), rfl, rfl, H⟩
theorem c_13 {N : Nat} {C : Cx} {w : World} {ρ : View} {hs : List Hl} {v1 : Value} {v4 : Value} {v7 : Value} {x2 : (List (List Int))} {x5 : (List Int)} {x8 : (List Int)} (H : Hp C w ρ (hs)) (r3 : RdSl ρ (eA 256 (eI .i64)) v1 x2) (r6 : RdSl ρ (eI .i64) v4 x5) (r9 : RdSl ρ (eI .i64) v7 x8) {r : Bool} (hF : F_subset_Right N x2 x5 x8 = some r) :
    Calls Try.prog 13 [.agg #[v1, v4, v7]].toArray w (Rets (fun v w' => (∃ (x168 : Bool), x168 = r ∧ .bool x168 = v ∧ Hp C w' ρ (hs)))) := by
  unfold F_subset_Right at hF
  have h0 : Try.f13.body = some _ := rfl
  refine fn_calls' Try.func13 h0 (n := 71) rfl (by simp) <| C_seq <| R_nd <| ne (E_box H (vs := [v1, v4, v7]) rfl rfl) rfl rfl ?_
  rintro _ wd170 ⟨b169, rfl, H⟩
  refine nq (Q_assign rfl) rfl rfl <| WL_nil <| x_then <| C_seq <| R_nd <| nq (v := .pointer (some ⟨b169, 0, none⟩)) (Q_fld Try.underlying25 rfl ty22 (by decide) rfl rfl) rfl rfl <| nq (v := v1) (Q_ldB (k := 0) (cs := [v1]) H.ok rfl ty22 rfl rfl rfl (fun _ => rfl) rfl) rfl rfl <| nq (Q_len Try.underlying22 rfl r3) rfl rfl <| ne (E_alloc H ty3 (zs := [.int .i64 0]) rfl) rfl rfl ?_
  rintro _ wd172 ⟨b171, rfl, H⟩
  refine ne (E_stB (k := 0) (cs := [.int .i64 (x2.length : Int)]) (vs' := [.int .i64 (x2.length : Int)]) H rfl ty3 rfl rfl rfl rfl (one_cons rfl one_nil) (by simp) rfl) rfl rfl ?_
  rintro _ wd173 H
  dsimp only [List.set] at H
  refine WL_nil <| x_then <| C_seq ?_
  obtain ⟨o175, ho175, hF⟩ := bnd hF
  refine C_cut (fun a w' => ∃ (x174 : Bool), x174 = o175 ∧ Fr 71 a [(1, .pointer (some ⟨b169, 0, none⟩)), (3, .pointer (some ⟨b171, 0, none⟩)), (35, .bool x174)] ∧ Hp C w' ρ (Box b169 [v1, v4, v7] :: Box b171 [.int .i64 (x2.length : Int)] :: hs)) ?_ ?_
  · refine R_nd <| nq (v := .int .i64 (x2.length : Int)) (Q_ldB (k := 0) (cs := [.int .i64 (x2.length : Int)]) H.ok rfl ty3 rfl rfl rfl (fun _ => rfl) rfl) rfl rfl <| nq (Q_lss rfl rfl) rfl rfl <| nq (Q_move rfl) rfl rfl ?_
    rcases Bool.eq_false_or_eq_true (decide ((x2.length : Int) < 1)) with hb | hb
    · rw [hb]
      replace ho175 := itT hb ho175
      refine gs rfl rfl rfl rfl <| gs rfl rfl rfl rfl <| nq (Q_pickT rfl rfl) rfl rfl <| nq (Q_move rfl) rfl rfl <| gs rfl rfl rfl rfl <| gs rfl rfl rfl rfl <| gs rfl rfl rfl rfl <| gs rfl rfl rfl rfl <| gs rfl rfl rfl rfl <| nq (Q_pickT rfl rfl) rfl rfl <| nq (Q_move rfl) rfl rfl <| gs rfl rfl rfl rfl <| gs rfl rfl rfl rfl <| gs rfl rfl rfl rfl ?_
      refine gs rfl rfl rfl rfl <| nq (Q_pickT rfl rfl) rfl rfl <| nq (Q_move rfl) rfl rfl <| gs rfl rfl rfl rfl <| gs rfl rfl rfl rfl <| gs rfl rfl rfl rfl <| gs rfl rfl rfl rfl <| nq (Q_pickT rfl rfl) rfl rfl <| WL_nil ?_
      replace H := H.front 1 rfl
      dsimp only [List.eraseIdx] at H
      obtain rfl := Option.some.inj ho175
      refine x_A fun a hf => ⟨true, rfl, hf.sub ⟨rfl, rfl, rfl, trivial⟩, H⟩
    · rw [hb]
      replace ho175 := itF hb ho175
      refine gq (v := .int .i64 (x2.length : Int)) (Q_ldB (k := 0) (cs := [.int .i64 (x2.length : Int)]) H.ok rfl ty3 rfl rfl rfl (fun _ => rfl) rfl) rfl rfl rfl <| gq (Q_gtr rfl rfl) rfl rfl rfl <| nq (Q_pickF rfl rfl) rfl rfl <| nq (Q_move rfl) rfl rfl ?_
      rcases Bool.eq_false_or_eq_true (decide ((x2.length : Int) > 200)) with hb | hb
      · rw [hb]
        replace ho175 := itT hb ho175
        refine gs rfl rfl rfl rfl <| gs rfl rfl rfl rfl <| gs rfl rfl rfl rfl <| gs rfl rfl rfl rfl <| gs rfl rfl rfl rfl <| nq (Q_pickT rfl rfl) rfl rfl <| nq (Q_move rfl) rfl rfl <| gs rfl rfl rfl rfl <| gs rfl rfl rfl rfl <| gs rfl rfl rfl rfl <| gs rfl rfl rfl rfl <| nq (Q_pickT rfl rfl) rfl rfl <| nq (Q_move rfl) rfl rfl <| gs rfl rfl rfl rfl ?_
        refine gs rfl rfl rfl rfl <| gs rfl rfl rfl rfl <| gs rfl rfl rfl rfl <| nq (Q_pickT rfl rfl) rfl rfl <| WL_nil ?_
        replace H := H.front 1 rfl
        dsimp only [List.eraseIdx] at H
        obtain rfl := Option.some.inj ho175
        refine x_A fun a hf => ⟨true, rfl, hf.sub ⟨rfl, rfl, rfl, trivial⟩, H⟩
      · rw [hb]
        replace ho175 := itF hb ho175
        refine gq (v := .pointer (some ⟨b169, 1, none⟩)) (Q_fld Try.underlying25 rfl ty23 (by decide) rfl rfl) rfl rfl rfl <| gq (v := v4) (Q_ldB (k := 1) (cs := [v4]) H.ok rfl ty23 rfl rfl rfl (fun _ => rfl) rfl) rfl rfl rfl <| gq (Q_len Try.underlying23 rfl r6) rfl rfl rfl <| gq (v := .int .i64 (x2.length : Int)) (Q_ldB (k := 0) (cs := [.int .i64 (x2.length : Int)]) H.ok rfl ty3 rfl rfl rfl (fun _ => rfl) rfl) rfl rfl rfl <| gq (Q_neq rfl rfl) rfl rfl rfl <| nq (Q_pickF rfl rfl) rfl rfl <| nq (Q_move rfl) rfl rfl ?_
        rcases Bool.eq_false_or_eq_true ((x5.length : Int) != (x2.length : Int)) with hb | hb
        · rw [hb]
          replace ho175 := itT hb ho175
          refine gs rfl rfl rfl rfl <| gs rfl rfl rfl rfl <| gs rfl rfl rfl rfl <| gs rfl rfl rfl rfl <| nq (Q_pickT rfl rfl) rfl rfl <| nq (Q_move rfl) rfl rfl <| gs rfl rfl rfl rfl <| gs rfl rfl rfl rfl <| gs rfl rfl rfl rfl <| gs rfl rfl rfl rfl <| nq (Q_pickT rfl rfl) rfl rfl <| WL_nil ?_
          replace H := H.front 1 rfl
          dsimp only [List.eraseIdx] at H
          obtain rfl := Option.some.inj ho175
          refine x_A fun a hf => ⟨true, rfl, hf.sub ⟨rfl, rfl, rfl, trivial⟩, H⟩
        · rw [hb]
          replace ho175 := itF hb ho175
          refine gq (v := .pointer (some ⟨b169, 2, none⟩)) (Q_fld Try.underlying25 rfl ty23 (by decide) rfl rfl) rfl rfl rfl <| gq (v := v7) (Q_ldB (k := 1) (cs := [v7]) H.ok rfl ty23 rfl rfl rfl (fun _ => rfl) rfl) rfl rfl rfl <| gq (Q_len Try.underlying23 rfl r9) rfl rfl rfl <| gq (Q_lss rfl rfl) rfl rfl rfl <| nq (Q_pickF rfl rfl) rfl rfl <| nq (Q_move rfl) rfl rfl ?_
          rcases Bool.eq_false_or_eq_true (decide ((x8.length : Int) < 1)) with hb | hb
          · rw [hb]
            replace ho175 := itT hb ho175
            refine gs rfl rfl rfl rfl <| gs rfl rfl rfl rfl <| gs rfl rfl rfl rfl <| gs rfl rfl rfl rfl <| nq (Q_pickT rfl rfl) rfl rfl <| WL_nil ?_
            replace H := H.front 1 rfl
            dsimp only [List.eraseIdx] at H
            obtain rfl := Option.some.inj ho175
            refine x_A fun a hf => ⟨true, rfl, hf.sub ⟨rfl, rfl, rfl, trivial⟩, H⟩
          · rw [hb]
            replace ho175 := itF hb ho175
            refine gq (v := .pointer (some ⟨b169, 2, none⟩)) (Q_fld Try.underlying25 rfl ty23 (by decide) rfl rfl) rfl rfl rfl <| gq (v := v7) (Q_ldB (k := 1) (cs := [v7]) H.ok rfl ty23 rfl rfl rfl (fun _ => rfl) rfl) rfl rfl rfl <| gq (Q_len Try.underlying23 rfl r9) rfl rfl rfl <| gq (Q_gtr rfl rfl) rfl rfl rfl <| nq (Q_pickF rfl rfl) rfl rfl <| WL_nil ?_
            replace H := H.front 1 rfl
            dsimp only [List.eraseIdx] at H
            obtain rfl := Option.some.inj ho175
            refine x_A fun a hf => ⟨decide ((x8.length : Int) > 8), rfl, hf.sub ⟨rfl, rfl, rfl, trivial⟩, H⟩
  · rintro a wd176 ⟨x174, rfl, hf, H⟩
    try dsimp only at hF
    refine CW.at hf ?_
    refine C_cond rfl (fun hb => ?_) (fun hb => ?_)
    · replace hF := itT hb hF
      refine C_seq <| R_nd <| nq (Q_assign rfl) rfl rfl <| WL_nil <| x_then <| C_ret <| x_then_ret ?_
      replace H := H.drop 0 rfl
      dsimp only [List.eraseIdx] at H
      replace H := H.drop 0 rfl
      dsimp only [List.eraseIdx] at H
      obtain rfl := Option.some.inj hF
      exact fn_ret (l := [.tmp 2]) (vs := [.bool false]) rfl rfl rfl ⟨false, rfl, rfl, H⟩
    · replace hF := itF hb hF
      refine C_skip <| x_then <| C_seq <| R_nd <| nq (v := .func (.func 17) #[] [.pointer (some ⟨b171, 0, none⟩)].toArray) (Q_func rfl) rfl rfl <| nq (Q_assign rfl) rfl rfl <| WL_nil <| x_then <| C_seq <| C_seq <| R_nd <| nq (v := .pointer (some ⟨b169, 0, none⟩)) (Q_fld Try.underlying25 rfl ty22 (by decide) rfl rfl) rfl rfl <| nq (v := v1) (Q_ldB (k := 0) (cs := [v1]) H.ok rfl ty22 rfl rfl rfl (fun _ => rfl) rfl) rfl rfl <| nq (Q_len Try.underlying22 rfl r3) rfl rfl ?_
      refine nq (Q_move rfl) rfl rfl <| WL_nil <| x_then ?_
      obtain ⟨o226, ho226, hF⟩ := bnd hF
      refine C_cutQ (fun a w' => .inl () = o226 ∧ Fr 71 a [(1, .pointer (some ⟨b169, 0, none⟩)), (4, .func (.func 17) #[] [.pointer (some ⟨b171, 0, none⟩)].toArray)] ∧ Hp C w' ρ (Box b169 [v1, v4, v7] :: Box b171 [.int .i64 (x2.length : Int)] :: hs)) ?_ ?_
      · refine C_block ?_
        replace H := H.front 1 rfl
        dsimp only [List.eraseIdx] at H
        replace H := H.front 1 rfl
        dsimp only [List.eraseIdx] at H
        refine C_iter (f := fun s => F_subset_Right_l0 N x2 s) ho226 (fun s a w' => ∃ (x242 : Int), x242 = s ∧ Fr 71 a [(1, .pointer (some ⟨b169, 0, none⟩)), (4, .func (.func 17) #[] [.pointer (some ⟨b171, 0, none⟩)].toArray), (38, v1), (39, .int .i64 (x2.length : Int)), (40, .int .i64 x242)] ∧ Hp C w' ρ (Box b169 [v1, v4, v7] :: Box b171 [.int .i64 (x2.length : Int)] :: hs)) ?_ ?_
        · exact fun a hf => ⟨0, rfl, hf.sub ⟨rfl, rfl, rfl, rfl, rfl, trivial⟩, H⟩
        · rintro s o258 a wd261 ⟨x242, rfl, hf, H⟩ hB259 hO260
          replace hB259 : F_subset_Right_l0 N x2 x242 = some o258 := hB259
          unfold F_subset_Right_l0 at hB259
          refine CW.at hf <| C_seq <| R_nd <| nq (Q_lss rfl rfl) rfl rfl <| WL_nil <| x_then <| C_seq ?_
          refine C_cond rfl (fun hb => ?_) (fun hb => ?_)
          · replace hB259 := itT hb hB259
            refine C_skip <| x_then <| C_seq <| C_block <| C_seq <| R_nd ?_
            obtain ⟨x262, hx262, hB259⟩ := bnd hB259
            obtain ⟨b263, o264, c265, hc266, ha267, hi268⟩ := idxR r3 hx262
            refine nq (Q_idx hi268 Try.underlying22 ty42 rfl rfl) rfl rfl <| nq (v := .agg c265.toArray) (Q_ld (ha267.up H.ok.view) ty42 ((eA 256 (eI .i64)).len hc266) (fun h => nomatch h) rfl rfl) rfl rfl <| ne (E_allocA (N := 256) (n := 1) (zs := (repC 256 [.int .i64 0])) H ty42 rfl (by simp [repC_length])) rfl rfl ?_
            rintro _ wd270 ⟨b269, rfl, H⟩
            refine ne (E_stW (k := 0) H rfl ty42 rfl rfl (rdL.one hc266.2) (arr_clen (rdL_rep (e:=(eI .i64)) (ρ:=ρ) (rfl) 256) List.length_replicate) (arr_clen hc266.2 hc266.1)) rfl rfl ?_
            rintro _ wd271 H
            dsimp only [List.set] at H
            refine WL_nil <| x_then <| C_seq <| R_nd <| nq (v := (.slice (some ⟨b269, 0, none⟩) 256 256)) (Q_slA Try.underlying42 ty3 rfl) rfl rfl <| nq (Q_move rfl) rfl rfl ?_
            replace H := H.front 2 rfl
            dsimp only [List.eraseIdx] at H
            obtain ⟨q272, hq272, hB259⟩ := bnd hB259
            obtain ⟨C', ρ', hl273, HA, hL, hback⟩ := Hp.lend (A := [Box b171 [.int .i64 (x2.length : Int)]]) (L := [Arr (.slice (some ⟨b269, 0, none⟩) 256 256) 1 c265]) (F := Box b169 [v1, v4, v7] :: hs) H
            refine ne (E_call fn18 rfl (c_18 HA  (arr_rd (by decide) hl273 (hL (Arr (.slice (some ⟨b269, 0, none⟩) 256 256) 1 c265) (by simp)) hc266.2) hq272)) rfl rfl ?_
            rintro _ wd275 ⟨x274, rfl, rfl, H⟩
            try dsimp only at hB259
            replace H := hback H
            dsimp only [List.cons_append, List.nil_append] at H
            refine WL_nil <| x_then ?_
            refine C_cond rfl (fun hb => ?_) (fun hb => ?_)
            · replace hB259 := itT hb hB259
              refine C_seq <| R_nd <| nq (Q_assign rfl) rfl rfl <| WL_nil <| x_then <| C_ret <| x_block_ret <| x_then_ret <| x_then_ret <| x_block_ret <| x_then_ret <| x_then_ret ?_
              replace H := H.drop 0 rfl
              dsimp only [List.eraseIdx] at H
              replace H := H.drop 0 rfl
              dsimp only [List.eraseIdx] at H
              replace H := H.drop 0 rfl
              dsimp only [List.eraseIdx] at H
              obtain rfl := Option.some.inj hB259
              obtain rfl := hO260 _ rfl
              obtain rfl := Option.some.inj (show some _ = some _ from hF)
              exact fn_ret (l := [.tmp 2]) (vs := [.bool false]) rfl rfl rfl ⟨false, rfl, rfl, H⟩
            · replace hB259 := itF hb hB259
              refine C_skip <| x_block <| x_then <| R_nd <| nq (Q_add rfl rfl) rfl rfl <| nq (Q_move rfl) rfl rfl <| WL_nil ?_
              replace H := H.front 2 rfl
              dsimp only [List.eraseIdx] at H
              replace H := H.drop 2 rfl
              dsimp only [List.eraseIdx] at H
              obtain rfl := Option.some.inj hB259
              refine x_A fun a hf => ⟨_, rfl, w64 (x242 + 1), rfl, hf.sub ⟨rfl, rfl, rfl, rfl, rfl, trivial⟩, H⟩
          · replace hB259 := itF hb hB259
            refine C_exit <| x_then_exit <| x_then_exit <| x_block_exit ?_
            replace H := H.front 1 rfl
            dsimp only [List.eraseIdx] at H
            replace H := H.front 1 rfl
            dsimp only [List.eraseIdx] at H
            obtain rfl := Option.some.inj hB259
            obtain rfl := hO260 _ rfl
            refine x_A fun a hf => ⟨rfl, hf.sub ⟨rfl, rfl, trivial⟩, H⟩
      · rintro a wd276 ⟨rfl, hf, H⟩
        try dsimp only at hF
        refine XX.at hf <| x_then <| C_seq <| R_nd <| nq (Q_assign rfl) rfl rfl <| WL_nil <| x_then <| C_seq ?_
        obtain ⟨o286, ho286, hF⟩ := bnd hF
        refine C_cut (fun a w' => ∃ (x285 : Bool), x285 = o286 ∧ Fr 71 a [(1, .pointer (some ⟨b169, 0, none⟩)), (57, .bool x285)] ∧ Hp C w' ρ (Box b169 [v1, v4, v7] :: hs)) ?_ ?_
        · refine R_nd <| nq (v := .pointer (some ⟨b169, 1, none⟩)) (Q_fld Try.underlying25 rfl ty23 (by decide) rfl rfl) rfl rfl <| nq (v := v4) (Q_ldB (k := 0) (cs := [v4]) H.ok rfl ty23 rfl rfl rfl (fun _ => rfl) rfl) rfl rfl <| nq (Q_move rfl) rfl rfl ?_
          obtain ⟨q287, hq287, ho286⟩ := bnd ho286
          refine ne (E_call fn18 rfl (c_18_1 H  r6 hq287)) rfl rfl ?_
          rintro _ wd290 ⟨x289, rfl, rfl, H⟩
          try dsimp only at ho286
          refine nq (Q_move rfl) rfl rfl ?_
          rcases Bool.eq_false_or_eq_true x289 with hb | hb
          · rw [hb]
            replace ho286 := itT hb ho286
            refine gs rfl rfl rfl rfl <| gs rfl rfl rfl rfl <| gs rfl rfl rfl rfl <| gs rfl rfl rfl rfl <| nq (Q_pickT rfl rfl) rfl rfl <| WL_nil ?_
            replace H := H.drop 1 rfl
            dsimp only [List.eraseIdx] at H
            obtain rfl := Option.some.inj ho286
            refine x_A fun a hf => ⟨true, rfl, hf.sub ⟨rfl, rfl, trivial⟩, H⟩
          · rw [hb]
            replace ho286 := itF hb ho286
            refine gq (v := .pointer (some ⟨b169, 2, none⟩)) (Q_fld Try.underlying25 rfl ty23 (by decide) rfl rfl) rfl rfl rfl <| gq (v := v7) (Q_ldB (k := 0) (cs := [v7]) H.ok rfl ty23 rfl rfl rfl (fun _ => rfl) rfl) rfl rfl rfl <| gq (Q_move rfl) rfl rfl rfl ?_
            replace H := H.front 1 rfl
            dsimp only [List.eraseIdx] at H
            obtain ⟨q291, hq291, ho286⟩ := bnd ho286
            refine ge (E_call fn18 rfl (c_18 H  r9 hq291)) rfl rfl rfl ?_
            rintro _ wd294 ⟨x293, rfl, rfl, H⟩
            try dsimp only at ho286
            refine nq (Q_pickF rfl rfl) rfl rfl <| WL_nil ?_
            replace H := H.front 1 rfl
            dsimp only [List.eraseIdx] at H
            replace H := H.drop 1 rfl
            dsimp only [List.eraseIdx] at H
            obtain rfl := Option.some.inj ho286
            refine x_A fun a hf => ⟨x293, rfl, hf.sub ⟨rfl, rfl, trivial⟩, H⟩
        · rintro a wd295 ⟨x285, rfl, hf, H⟩
          try dsimp only at hF
          refine CW.at hf ?_
          refine C_cond rfl (fun hb => ?_) (fun hb => ?_)
          · replace hF := itT hb hF
            refine C_seq <| R_nd <| nq (Q_assign rfl) rfl rfl <| WL_nil <| x_then <| C_ret <| x_then_ret ?_
            replace H := H.drop 0 rfl
            dsimp only [List.eraseIdx] at H
            obtain rfl := Option.some.inj hF
            exact fn_ret (l := [.tmp 2]) (vs := [.bool false]) rfl rfl rfl ⟨false, rfl, rfl, H⟩
          · replace hF := itF hb hF
            refine C_skip <| x_then ?_
            obtain ⟨o311, ho311, hF⟩ := bnd hF
            refine C_cut (fun a w' => ∃ (x310 : Bool), x310 = o311 ∧ Fr 71 a [(2, .bool x310)] ∧ Hp C w' ρ (hs)) ?_ ?_
            · refine R_nd <| nq (v := .pointer (some ⟨b169, 0, none⟩)) (Q_fld Try.underlying25 rfl ty22 (by decide) rfl rfl) rfl rfl <| nq (v := v1) (Q_ldB (k := 0) (cs := [v1]) H.ok rfl ty22 rfl rfl rfl (fun _ => rfl) rfl) rfl rfl ?_
              obtain ⟨x312, hx312, ho311⟩ := bnd ho311
              obtain ⟨b313, o314, c315, hc316, ha317, hi318⟩ := idxR r3 hx312
              refine nq (Q_idx hi318 Try.underlying22 ty42 rfl rfl) rfl rfl <| nq (v := .agg c315.toArray) (Q_ld (ha317.up H.ok.view) ty42 ((eA 256 (eI .i64)).len hc316) (fun h => nomatch h) rfl rfl) rfl rfl <| nq (v := .agg (repC 256 [.int .i64 0]).toArray) (Q_build0 (zs := (repC 256 [.int .i64 0])) ty42 Try.underlying42 ty3 rfl) rfl rfl <| nq (v := .bool (x312 == (List.replicate 256 0))) (Q_eqlA Try.underlying42 ty3 (by kernel_rfl) Try.underlying3 hc316.2 hc316.1 (rdL_rep (e:=(eI .i64)) (ρ:=ρ) (rfl) 256) List.length_replicate rfl rfl) rfl rfl <| nq (Q_move rfl) rfl rfl ?_
              rcases Bool.eq_false_or_eq_true (x312 == (List.replicate 256 0)) with hb | hb
              · rw [hb]
                replace ho311 := itT hb ho311
                refine gq (v := .pointer (some ⟨b169, 1, none⟩)) (Q_fld Try.underlying25 rfl ty23 (by decide) rfl rfl) rfl rfl rfl <| gq (v := v4) (Q_ldB (k := 0) (cs := [v4]) H.ok rfl ty23 rfl rfl rfl (fun _ => rfl) rfl) rfl rfl rfl ?_
                obtain ⟨x319, hx319, ho311⟩ := bnd ho311
                obtain ⟨b320, o321, c322, hc323, ha324, hi325⟩ := idxR r6 hx319
                refine gq (Q_idx hi325 Try.underlying23 ty3 rfl rfl) rfl rfl rfl <| gq (v := .int .i64 x319) (Q_ld (show cellsAt _ _ _ [.int .i64 x319] from (show _ = [_] from hc323) ▸ (ha324.up H.ok.view)) ty3 rfl (fun _ => rfl) rfl rfl) rfl rfl rfl <| gq (Q_eql rfl rfl) rfl rfl rfl <| nq (Q_pickT rfl rfl) rfl rfl <| nq (Q_assign rfl) rfl rfl <| WL_nil ?_
                replace H := H.drop 0 rfl
                dsimp only [List.eraseIdx] at H
                obtain rfl := Option.some.inj ho311
                refine x_A fun a hf => ⟨x319 == (-1), rfl, hf.sub ⟨rfl, trivial⟩, H⟩
              · rw [hb]
                replace ho311 := itF hb ho311
                refine gs rfl rfl rfl rfl <| gs rfl rfl rfl rfl <| gs rfl rfl rfl rfl <| gs rfl rfl rfl rfl <| gs rfl rfl rfl rfl <| nq (Q_pickF rfl rfl) rfl rfl <| nq (Q_assign rfl) rfl rfl <| WL_nil ?_
                replace H := H.drop 0 rfl
                dsimp only [List.eraseIdx] at H
                obtain rfl := Option.some.inj ho311
                refine x_A fun a hf => ⟨false, rfl, hf.sub ⟨rfl, trivial⟩, H⟩
            · rintro a wd326 ⟨x310, rfl, hf, H⟩
              try dsimp only at hF
              refine CW.at hf <| C_ret ?_
              obtain rfl := Option.some.inj hF
              exact fn_ret (l := [.tmp 2]) (vs := [.bool x310]) rfl rfl rfl ⟨x310, rfl, rfl, H⟩
theorem c_23 {N : Nat} {C : Cx} {w : World} {ρ : View} {hs : List Hl} {b1 : Nat} {v2 : Value} {v5 : Value} {v8 : Value} {v11 : Value} {c12 : List Value} {c15 : List Value} {v18 : Value} {v19 : Value} {c20 : List Value} {c22 : List Value} {v25 : Value} {x3 : (List (List Int))} {x6 : (List Int)} {x9 : (List Int)} {x13 : (List (List (List Int)))} {x16 : (List Int)} {x21 : (List (List Int))} {x23 : (List (Int × Int))} {x26 : Int} (H : Hp C w ρ (Box b1 [v2, v5, v8, v11, v18, v19, v25] :: NA (eI .i64) 256 v11 c12 x13.flatten :: Arr v18 1 c15 :: NA (eI .i64) 1 v19 c20 x21 :: Arr v25 2 c22 :: hs)) (_r4 : RdSl ρ (eA 256 (eI .i64)) v2 x3) (_r7 : RdSl ρ (eI .i64) v5 x6) (_r10 : RdSl ρ (eI .i64) v8 x9) (_gl14 : ∀ a ∈ x13, a.length = 256) (_r17 : rdL (eI .i64) ρ x16 c15) (r24 : rdL (eP (eI .i64) (eI .u8)) ρ x23 c22) {r : (List (Int × Int))} (hF : F_hopcroft_splitter_later N x3 x6 x9 x13 x16 x21 x23 x26 = some r) :
    Calls Try.prog 23 [.pointer (some ⟨b1, 0, none⟩), .int .i64 x26].toArray w (Rets (fun v w' => (∃ (v125 : Value) (c126 : (List Value)) (x127 : (List (Int × Int))), x127 = r ∧ .tuple [].toArray = v ∧ rdL (eP (eI .i64) (eI .u8)) ρ x127 c126 ∧ Hp C w' ρ (Box b1 [v2, v5, v8, v11, v18, v19, v125] :: NA (eI .i64) 256 v11 c12 x13.flatten :: Arr v18 1 c15 :: NA (eI .i64) 1 v19 c20 x21 :: Arr v125 2 c126 :: hs)))) := by
  unfold F_hopcroft_splitter_later at hF
  have h0 : Try.f23.body = some _ := rfl
  refine fn_calls' Try.func23 h0 (n := 22) rfl (by simp) <| C_seq <| R_nd <| nq (Q_move rfl) rfl rfl <| WL_nil <| x_then ?_
  obtain ⟨o179, ho179, hF⟩ := bnd hF
  refine C_cutQ (fun a w' => ∃ (v175 : Value) (c176 : (List Value)) (x177 : (List (Int × Int))), x177 = o179 ∧ rdL (eP (eI .i64) (eI .u8)) ρ x177 c176 ∧ Fr 22 a [] ∧ Hp C w' ρ (Box b1 [v2, v5, v8, v11, v18, v19, v175] :: NA (eI .i64) 256 v11 c12 x13.flatten :: Arr v18 1 c15 :: NA (eI .i64) 1 v19 c20 x21 :: Arr v175 2 c176 :: hs)) ?_ ?_
  · refine C_block ?_
    replace H := H.front 4 rfl
    dsimp only [List.eraseIdx] at H
    replace H := H.front 4 rfl
    dsimp only [List.eraseIdx] at H
    replace H := H.front 4 rfl
    dsimp only [List.eraseIdx] at H
    replace H := H.front 4 rfl
    dsimp only [List.eraseIdx] at H
    replace H := H.front 4 rfl
    dsimp only [List.eraseIdx] at H
    refine C_iter (f := fun s => F_hopcroft_splitter_later_l0 N x26 s.1 s.2) ho179 (fun s a w' => ∃ (v194 : Value) (c195 : (List Value)) (x196 : (List (Int × Int))) (x198 : Int), (x196, x198) = s ∧ rdL (eP (eI .i64) (eI .u8)) ρ x196 c195 ∧ Fr 22 a [(0, .pointer (some ⟨b1, 0, none⟩)), (1, .int .i64 x26), (5, .int .i64 x198)] ∧ Hp C w' ρ (Box b1 [v2, v5, v8, v11, v18, v19, v194] :: NA (eI .i64) 256 v11 c12 x13.flatten :: Arr v18 1 c15 :: NA (eI .i64) 1 v19 c20 x21 :: Arr v194 2 c195 :: hs)) ?_ ?_
    · exact fun a hf => ⟨v25, c22, x23, 0, rfl, r24, hf.sub ⟨rfl, rfl, rfl, trivial⟩, H⟩
    · rintro s o213 a wd216 ⟨v194, c195, x196, x198, rfl, r197, hf, H⟩ hB214 hO215
      replace hB214 : F_hopcroft_splitter_later_l0 N x26 x196 x198 = some o213 := hB214
      unfold F_hopcroft_splitter_later_l0 at hB214
      refine CW.at hf <| C_seq <| R_nd <| nq (Q_lss rfl rfl) rfl rfl <| WL_nil <| x_then <| C_seq ?_
      refine C_cond rfl (fun hb => ?_) (fun hb => ?_)
      · replace hB214 := itT hb hB214
        refine C_skip <| x_then <| C_seq <| C_block <| C_seq <| R_nd <| nq (Q_move rfl) rfl rfl <| nq (Q_assign rfl) rfl rfl <| WL_nil <| x_then <| R_nd <| nq (Q_move rfl) rfl rfl <| nq (Q_move rfl) rfl rfl <| nq (Q_nilP rfl) rfl rfl ?_
        refine nq (v := .pointer (some ⟨b1, 6, none⟩)) (Q_fld Try.underlying60 rfl ty58 (by decide) rfl rfl) rfl rfl <| nq (v := v194) (Q_ldB (k := 0) (cs := [v194]) H.ok rfl ty58 rfl rfl rfl (fun _ => rfl) rfl) rfl rfl <| nq (Q_move rfl) rfl rfl <| nq (Q_move rfl) rfl rfl <| nq (Q_cvI ⟨_, Try.underlying3⟩ Try.underlying5 rfl) rfl rfl <| nq (v := .agg #[.int .i64 x26, .int .u8 (IntKind.wrap .u8 x198)]) (Q_buildS st67.choose_spec (ps := [(0, [.int .i64 x26]), (1, [.int .u8 (IntKind.wrap .u8 x198)])]) rfl ⟨rfl, rfl, by simp, ⟨rfl, rfl, by simp, trivial⟩⟩ rfl) rfl rfl <| ne (E_bslice (xs := [.tmp 16]) (vs := [.agg #[.int .i64 x26, .int .u8 (IntKind.wrap .u8 x198)]]) H Try.underlying58 ty67 (by decide) (cs := [.int .i64 x26, .int .u8 (IntKind.wrap .u8 x198)]) rfl (sz_cons rfl sz_nil) rfl (by simp) (by simp) rfl rfl) rfl rfl ?_
        rintro _ wd218 ⟨b217, rfl, H⟩
        obtain ⟨x219, hx219, hB214⟩ := bnd hB214
        obtain ⟨ha220a, ha220b⟩ := app_some hx219
        have r222 : rdL (eP (eI .i64) (eI .u8)) ρ x219 (c195 ++ ([.int .i64 x26, .int .u8 (IntKind.wrap .u8 x198)])) := ha220b ▸ rdL.app r197 (show rdL (eP (eI .i64) (eI .u8)) ρ ([(x26, IntKind.wrap .u8 x198)]) ([.int .i64 x26, .int .u8 (IntKind.wrap .u8 x198)]) from ⟨([.int .i64 x26, .int .u8 (IntKind.wrap .u8 x198)]), _, rfl, ⟨[.int .i64 x26], _, rfl, rfl, rfl⟩, rdL.nil⟩)
        refine ne (E_append (k := 5) H rfl Try.underlying58 ty67 rfl (by decide) (by decide) rfl rfl (Src.ofArr (k := 0) H.ok rfl) (rdL.one (show rdL (eP (eI .i64) (eI .u8)) ρ ([(x26, IntKind.wrap .u8 x198)]) ([.int .i64 x26, .int .u8 (IntKind.wrap .u8 x198)]) from ⟨([.int .i64 x26, .int .u8 (IntKind.wrap .u8 x198)]), _, rfl, ⟨[.int .i64 x26], _, rfl, rfl, rfl⟩, rdL.nil⟩)) (app_fit r197 (show rdL (eP (eI .i64) (eI .u8)) ρ ([(x26, IntKind.wrap .u8 x198)]) ([.int .i64 x26, .int .u8 (IntKind.wrap .u8 x198)]) from ⟨([.int .i64 x26, .int .u8 (IntKind.wrap .u8 x198)]), _, rfl, ⟨[.int .i64 x26], _, rfl, rfl, rfl⟩, rdL.nil⟩) ha220a)) rfl rfl ?_
        rintro v221 wd224 ⟨H, hc223⟩
        dsimp only [List.set] at H
        refine nq (Q_nilP rfl) rfl rfl <| nq (v := .pointer (some ⟨b1, 6, none⟩)) (Q_fld Try.underlying60 rfl ty58 (by decide) rfl rfl) rfl rfl <| ne (E_stB (k := 1) (cs := [v221]) (vs' := [v2, v5, v8, v11, v18, v19, v221]) H rfl ty58 rfl rfl (arr_cells (H.ok.get (k := 5) rfl)).1 rfl (one_cons (arr_cells (H.ok.get (k := 5) rfl)).2 one_nil) (by simp) rfl) rfl rfl ?_
        rintro _ wd225 H
        dsimp only [List.set] at H
        refine WL_nil <| x_block <| x_then <| R_nd <| nq (Q_add rfl rfl) rfl rfl <| nq (Q_move rfl) rfl rfl <| WL_nil ?_
        replace H := H.front 5 rfl
        dsimp only [List.eraseIdx] at H
        replace H := H.front 5 rfl
        dsimp only [List.eraseIdx] at H
        replace H := H.front 5 rfl
        dsimp only [List.eraseIdx] at H
        replace H := H.front 5 rfl
        dsimp only [List.eraseIdx] at H
        replace H := H.front 5 rfl
        dsimp only [List.eraseIdx] at H
        replace H := H.drop 5 rfl
        dsimp only [List.eraseIdx] at H
        obtain rfl := Option.some.inj hB214
        refine x_A fun a hf => ⟨_, rfl, v221, (c195 ++ ([.int .i64 x26, .int .u8 (IntKind.wrap .u8 x198)])), x219, w64 (x198 + 1), rfl, r222, hf.sub ⟨rfl, rfl, rfl, trivial⟩, H⟩
      · replace hB214 := itF hb hB214
        refine C_exit <| x_then_exit <| x_then_exit <| x_block_exit ?_
        replace H := H.front 4 rfl
        dsimp only [List.eraseIdx] at H
        replace H := H.front 4 rfl
        dsimp only [List.eraseIdx] at H
        replace H := H.front 4 rfl
        dsimp only [List.eraseIdx] at H
        replace H := H.front 4 rfl
        dsimp only [List.eraseIdx] at H
        replace H := H.front 4 rfl
        dsimp only [List.eraseIdx] at H
        obtain rfl := Option.some.inj hB214
        obtain rfl := hO215 _ rfl
        refine x_A fun a hf => ⟨v194, c195, x196, rfl, r197, hf.sub trivial, H⟩
  · rintro a wd226 ⟨v175, c176, x177, rfl, r178, hf, H⟩
    try dsimp only at hF
    refine XX.at hf ?_
    replace H := H.front 4 rfl
    dsimp only [List.eraseIdx] at H
    replace H := H.front 4 rfl
    dsimp only [List.eraseIdx] at H
    replace H := H.front 4 rfl
    dsimp only [List.eraseIdx] at H
    replace H := H.front 4 rfl
    dsimp only [List.eraseIdx] at H
    replace H := H.front 4 rfl
    dsimp only [List.eraseIdx] at H
    obtain rfl := Option.some.inj hF
    exact fn_end (l := []) (vs := []) rfl rfl rfl ⟨v175, c176, x177, rfl, rfl, r178, H⟩
theorem c_20 {N : Nat} {C : Cx} {w : World} {ρ : View} {hs : List Hl} {b1 : Nat} {v2 : Value} {v5 : Value} {v8 : Value} {v11 : Value} {c12 : List Value} {c15 : List Value} {v18 : Value} {v19 : Value} {c20 : List Value} {c22 : List Value} {v25 : Value} {x3 : (List (List Int))} {x6 : (List Int)} {x9 : (List Int)} {x13 : (List (List (List Int)))} {x16 : (List Int)} {x21 : (List (List Int))} {x23 : (List (Int × Int))} (H : Hp C w ρ (Box b1 [v2, v5, v8, v11, v18, v19, v25] :: NA (eI .i64) 256 v11 c12 x13.flatten :: Arr v18 1 c15 :: NA (eI .i64) 1 v19 c20 x21 :: Arr v25 2 c22 :: hs)) (r4 : RdSl ρ (eA 256 (eI .i64)) v2 x3) (r7 : RdSl ρ (eI .i64) v5 x6) (r10 : RdSl ρ (eI .i64) v8 x9) (_gl14 : ∀ a ∈ x13, a.length = 256) (_r17 : rdL (eI .i64) ρ x16 c15) (r24 : rdL (eP (eI .i64) (eI .u8)) ρ x23 c22) {r : ((List (List (List Int))) × (List Int) × (List (List Int)) × (List (Int × Int)))} (hF : F_hopcroft_splitter_begin N x3 x6 x9 x13 x16 x21 x23 = some r) :
    Calls Try.prog 20 [.pointer (some ⟨b1, 0, none⟩)].toArray w (Rets (fun v w' => (∃ (v9740 : Value) (c9741 : (List Value)) (v9744 : Value) (c9745 : (List Value)) (v9748 : Value) (c9749 : (List Value)) (v9751 : Value) (c9752 : (List Value)) (x9742 : (List (List (List Int)))) (x9746 : (List Int)) (x9750 : (List (List Int))) (x9753 : (List (Int × Int))), (x9742, x9746, x9750, x9753) = r ∧ .tuple [].toArray = v ∧ (∀ a ∈ x9742, a.length = 256) ∧ rdL (eI .i64) ρ x9746 c9745 ∧ rdL (eP (eI .i64) (eI .u8)) ρ x9753 c9752 ∧ Hp C w' ρ (Box b1 [v2, v5, v8, v9740, v9744, v9748, v9751] :: NA (eI .i64) 256 v11 c12 x13.flatten :: Arr v18 1 c15 :: NA (eI .i64) 1 v9748 c9749 x9750 :: Arr v9751 2 c9752 :: NA (eI .i64) 256 v9740 c9741 x9742.flatten :: Arr v9744 1 c9745 :: hs)))) := by
  unfold F_hopcroft_splitter_begin at hF
  have h0 : Try.f20.body = some _ := rfl
  refine fn_calls' Try.func20 h0 (n := 143) rfl (by simp) <| C_seq <| R_nd <| nq (Q_move rfl) rfl rfl <| nq (Q_move rfl) rfl rfl <| nq (Q_nilP rfl) rfl rfl <| nq (v := .pointer (some ⟨b1, 0, none⟩)) (Q_fld Try.underlying60 rfl ty25 (by decide) rfl rfl) rfl rfl <| nq (v := .pointer (some ⟨b1, 0, none⟩)) (Q_fld Try.underlying25 rfl ty22 (by decide) rfl rfl) rfl rfl <| nq (v := v2) (Q_ldB (k := 0) (cs := [v2]) H.ok rfl ty22 rfl rfl rfl (fun _ => rfl) rfl) rfl rfl <| nq (Q_len Try.underlying22 rfl r4) rfl rfl ?_
  obtain ⟨x9755, hx9755, hF⟩ := bnd hF
  obtain ⟨hm9757a, hm9757b, hm9757c⟩ := mk_some hx9755
  refine ne (E_make H Try.underlying57 ty64 (zs := (repC 256 [.slice none 0 0])) rfl (by simp [repC_length]) (by decide) (by decide) rfl hm9757a hm9757b) rfl rfl ?_
  rintro _ wd9758 ⟨b9756, rfl, H⟩
  replace H := H.njoinRN (eI .i64)
  rw [← hm9757c] at H
  have gl9759 : ∀ a ∈ x9755, a.length = 256 := hm9757c ▸ rep_gl
  refine nq (Q_nilP rfl) rfl rfl <| nq (v := .pointer (some ⟨b1, 3, none⟩)) (Q_fld Try.underlying60 rfl ty57 (by decide) rfl rfl) rfl rfl <| ne (E_stB (k := 1) (cs := [(.slice (some ⟨b9756, 0, none⟩) (x3.length : Int).toNat (x3.length : Int).toNat)]) (vs' := [v2, v5, v8, (.slice (some ⟨b9756, 0, none⟩) (x3.length : Int).toNat (x3.length : Int).toNat), v18, v19, v25]) H rfl ty57 rfl rfl (arr_cells (H.ok.get (k := 0) rfl).1).1 rfl (one_cons (arr_cells (H.ok.get (k := 0) rfl).1).2 one_nil) (by simp) rfl) rfl rfl ?_
  rintro _ wd9760 H
  dsimp only [List.set] at H
  refine WL_nil <| x_then <| C_seq <| R_nd <| nq (Q_move rfl) rfl rfl <| nq (Q_move rfl) rfl rfl <| nq (Q_nilP rfl) rfl rfl <| nq (v := .pointer (some ⟨b1, 0, none⟩)) (Q_fld Try.underlying60 rfl ty25 (by decide) rfl rfl) rfl rfl <| nq (v := .pointer (some ⟨b1, 0, none⟩)) (Q_fld Try.underlying25 rfl ty22 (by decide) rfl rfl) rfl rfl <| nq (v := v2) (Q_ldB (k := 1) (cs := [v2]) H.ok rfl ty22 rfl rfl rfl (fun _ => rfl) rfl) rfl rfl <| nq (Q_len Try.underlying22 rfl r4) rfl rfl ?_
  obtain ⟨x9761, hx9761, hF⟩ := bnd hF
  obtain ⟨hm9763a, hm9763b, hm9763c⟩ := mk_some hx9761
  refine ne (E_make H Try.underlying23 ty3 (zs := [.int .i64 0]) rfl rfl (by decide) (by decide) rfl hm9763a hm9763b) rfl rfl ?_
  rintro _ wd9764 ⟨b9762, rfl, H⟩
  refine nq (Q_nilP rfl) rfl rfl <| nq (v := .pointer (some ⟨b1, 4, none⟩)) (Q_fld Try.underlying60 rfl ty23 (by decide) rfl rfl) rfl rfl <| ne (E_stB (k := 2) (cs := [(.slice (some ⟨b9762, 0, none⟩) (x3.length : Int).toNat (x3.length : Int).toNat)]) (vs' := [v2, v5, v8, (.slice (some ⟨b9756, 0, none⟩) (x3.length : Int).toNat (x3.length : Int).toNat), (.slice (some ⟨b9762, 0, none⟩) (x3.length : Int).toNat (x3.length : Int).toNat), v19, v25]) H rfl ty23 rfl rfl (arr_cells (H.ok.get (k := 0) rfl)).1 rfl (one_cons (arr_cells (H.ok.get (k := 0) rfl)).2 one_nil) (by simp) rfl) rfl rfl ?_
  rintro _ wd9765 H
  dsimp only [List.set] at H
  refine WL_nil <| x_then <| C_seq <| R_nd <| ne (E_makeMap (kI .i64) (Value.int .i64) H) rfl rfl ?_
  rintro _ wd9767 ⟨b9766, rfl, H⟩
  refine nq (Q_assign rfl) rfl rfl <| WL_nil <| x_then <| C_seq <| C_seq <| R_nd <| nq (Q_move rfl) rfl rfl <| nq (Q_nilP rfl) rfl rfl <| nq (v := .pointer (some ⟨b1, 0, none⟩)) (Q_fld Try.underlying60 rfl ty25 (by decide) rfl rfl) rfl rfl <| nq (v := .pointer (some ⟨b1, 0, none⟩)) (Q_fld Try.underlying25 rfl ty22 (by decide) rfl rfl) rfl rfl <| nq (v := v2) (Q_ldB (k := 3) (cs := [v2]) H.ok rfl ty22 rfl rfl rfl (fun _ => rfl) rfl) rfl rfl <| nq (Q_len Try.underlying22 rfl r4) rfl rfl <| nq (Q_move rfl) rfl rfl <| WL_nil ?_
  refine x_then ?_
  obtain ⟨o14578, ho14578, hF⟩ := bnd hF
  refine C_cutQ (fun a w' => ∃ (c14569 : (List Value)) (c14572 : (List Value)) (v14575 : Value) (c14576 : (List Value)) (x14570 : (List (List (List Int)))) (x14573 : (List Int)) (x14577 : (List (List Int))), (x14570, x14573, x14577) = o14578 ∧ (∀ a ∈ x14570, a.length = 256) ∧ rdL (eI .i64) ρ x14573 c14572 ∧ Fr 143 a [(0, .pointer (some ⟨b1, 0, none⟩))] ∧ Hp C w' ρ (Box b1 [v2, v5, v8, (.slice (some ⟨b9756, 0, none⟩) (x3.length : Int).toNat (x3.length : Int).toNat), (.slice (some ⟨b9762, 0, none⟩) (x3.length : Int).toNat (x3.length : Int).toNat), v14575, v25] :: NA (eI .i64) 256 (.slice (some ⟨b9756, 0, none⟩) (x3.length : Int).toNat (x3.length : Int).toNat) c14569 x14570.flatten :: Arr (.slice (some ⟨b9762, 0, none⟩) (x3.length : Int).toNat (x3.length : Int).toNat) 1 c14572 :: NA (eI .i64) 1 v14575 c14576 x14577 :: Arr v25 2 c22 :: NA (eI .i64) 256 v11 c12 x13.flatten :: Arr v18 1 c15 :: hs)) ?_ ?_
  · refine C_block ?_
    replace H := H.front 5 rfl
    dsimp only [List.eraseIdx] at H
    replace H := H.front 5 rfl
    dsimp only [List.eraseIdx] at H
    replace H := H.front 7 rfl
    dsimp only [List.eraseIdx] at H
    replace H := H.front 7 rfl
    dsimp only [List.eraseIdx] at H
    replace H := H.front 5 rfl
    dsimp only [List.eraseIdx] at H
    replace H := H.front 6 rfl
    dsimp only [List.eraseIdx] at H
    replace H := H.front 7 rfl
    dsimp only [List.eraseIdx] at H
    refine C_iter (f := fun s => F_hopcroft_splitter_begin_l0 N x3 x6 s.1 s.2.1 s.2.2.1 s.2.2.2.1 s.2.2.2.2) ho14578 (fun s a w' => ∃ (c16178 : (List Value)) (c16181 : (List Value)) (v16184 : Value) (c16185 : (List Value)) (x16179 : (List (List (List Int)))) (x16182 : (List Int)) (x16186 : (List (List Int))) (x16187 : (List (Int × Int))) (x16188 : Int), (x16179, x16182, x16186, x16187, x16188) = s ∧ (∀ a ∈ x16179, a.length = 256) ∧ rdL (eI .i64) ρ x16182 c16181 ∧ Fr 143 a [(0, .pointer (some ⟨b1, 0, none⟩)), (2, .map (some b9766)), (35, v2), (36, .int .i64 (x3.length : Int)), (37, .int .i64 x16188)] ∧ Hp C w' ρ (Box b1 [v2, v5, v8, (.slice (some ⟨b9756, 0, none⟩) (x3.length : Int).toNat (x3.length : Int).toNat), (.slice (some ⟨b9762, 0, none⟩) (x3.length : Int).toNat (x3.length : Int).toNat), v16184, v25] :: NA (eI .i64) 256 (.slice (some ⟨b9756, 0, none⟩) (x3.length : Int).toNat (x3.length : Int).toNat) c16178 x16179.flatten :: Arr (.slice (some ⟨b9762, 0, none⟩) (x3.length : Int).toNat (x3.length : Int).toNat) 1 c16181 :: NA (eI .i64) 1 v16184 c16185 x16186 :: Arr v25 2 c22 :: NA (eI .i64) 256 v11 c12 x13.flatten :: Arr v18 1 c15 :: Mp (kI .i64) (Value.int .i64) b9766 x16187 :: hs)) ?_ ?_
    · exact fun a hf => ⟨(repC (x3.length : Int).toNat (repC 256 [.slice none 0 0])), (repC (x3.length : Int).toNat [.int .i64 0]), v19, c20, x9755, x9761, x21, ([] : List (Int × Int)), 0, rfl, gl9759, (hm9763c ▸ rdL_rep (e := (eI .i64)) (ρ := ρ) (rfl) _), hf.sub ⟨rfl, rfl, rfl, rfl, rfl, trivial⟩, H⟩
    · rintro s o17788 a wd17791 ⟨c16178, c16181, v16184, c16185, x16179, x16182, x16186, x16187, x16188, rfl, gl16180, r16183, hf, H⟩ hB17789 hO17790
      replace hB17789 : F_hopcroft_splitter_begin_l0 N x3 x6 x16179 x16182 x16186 x16187 x16188 = some o17788 := hB17789
      unfold F_hopcroft_splitter_begin_l0 at hB17789
      refine CW.at hf <| C_seq <| R_nd <| nq (Q_lss rfl rfl) rfl rfl <| WL_nil <| x_then <| C_seq ?_
      refine C_cond rfl (fun hb => ?_) (fun hb => ?_)
      · replace hB17789 := itT hb hB17789
        refine C_skip <| x_then ?_
        obtain ⟨o18590, ho18590, hB17789⟩ := bnd hB17789
        refine C_cut (fun a w' => ∃ (c18580 : (List Value)) (c18583 : (List Value)) (v18586 : Value) (c18587 : (List Value)) (x18581 : (List (List (List Int)))) (x18584 : (List Int)) (x18588 : (List (List Int))) (x18589 : (List (Int × Int))), (x18581, x18584, x18588, x18589) = o18590 ∧ (∀ a ∈ x18581, a.length = 256) ∧ rdL (eI .i64) ρ x18584 c18583 ∧ Fr 143 a [(0, .pointer (some ⟨b1, 0, none⟩)), (2, .map (some b9766)), (35, v2), (36, .int .i64 (x3.length : Int)), (37, .int .i64 x16188)] ∧ Hp C w' ρ (Box b1 [v2, v5, v8, (.slice (some ⟨b9756, 0, none⟩) (x3.length : Int).toNat (x3.length : Int).toNat), (.slice (some ⟨b9762, 0, none⟩) (x3.length : Int).toNat (x3.length : Int).toNat), v18586, v25] :: NA (eI .i64) 256 (.slice (some ⟨b9756, 0, none⟩) (x3.length : Int).toNat (x3.length : Int).toNat) c18580 x18581.flatten :: Arr (.slice (some ⟨b9762, 0, none⟩) (x3.length : Int).toNat (x3.length : Int).toNat) 1 c18583 :: NA (eI .i64) 1 v18586 c18587 x18588 :: Arr v25 2 c22 :: NA (eI .i64) 256 v11 c12 x13.flatten :: Arr v18 1 c15 :: Mp (kI .i64) (Value.int .i64) b9766 x18589 :: hs)) ?_ ?_
        · refine C_block <| C_seq <| R_nd <| nq (Q_move rfl) rfl rfl ?_
          obtain ⟨x18591, hx18591, ho18590⟩ := bnd ho18590
          obtain ⟨b18592, o18593, c18594, hc18595, ha18596, hi18597⟩ := idxR r4 hx18591
          refine nq (Q_idx hi18597 Try.underlying22 ty42 rfl rfl) rfl rfl <| nq (v := .agg c18594.toArray) (Q_ld (ha18596.up H.ok.view) ty42 ((eA 256 (eI .i64)).len hc18595) (fun h => nomatch h) rfl rfl) rfl rfl <| ne (E_allocA (N := 256) (n := 1) (zs := (repC 256 [.int .i64 0])) H ty42 rfl (by simp [repC_length])) rfl rfl ?_
          rintro _ wd18599 ⟨b18598, rfl, H⟩
          refine nq (Q_assign rfl) rfl rfl <| ne (E_stW (k := 0) H rfl ty42 rfl rfl (rdL.one hc18595.2) (arr_clen (rdL_rep (e:=(eI .i64)) (ρ:=ρ) (rfl) 256) List.length_replicate) (arr_clen hc18595.2 hc18595.1)) rfl rfl ?_
          rintro _ wd18600 H
          dsimp only [List.set] at H
          refine WL_nil <| x_then <| C_seq <| C_seq <| R_nd <| nq (Q_ldW (k := 0) H.ok rfl ty42 rfl (arr_clen hc18595.2 hc18595.1)) rfl rfl <| nq (Q_move rfl) rfl rfl <| WL_nil <| x_then ?_
          obtain ⟨o18926, ho18926, ho18590⟩ := bnd ho18590
          refine C_cutQ (fun a w' => ∃ (c18923 : (List Value)) (x18924 : (List (List (List Int)))), x18924 = o18926 ∧ (∀ a ∈ x18924, a.length = 256) ∧ Fr 143 a [(0, .pointer (some ⟨b1, 0, none⟩)), (2, .map (some b9766)), (3, .int .i64 x16188), (35, v2), (36, .int .i64 (x3.length : Int)), (37, .int .i64 x16188)] ∧ Hp C w' ρ (Box b1 [v2, v5, v8, (.slice (some ⟨b9756, 0, none⟩) (x3.length : Int).toNat (x3.length : Int).toNat), (.slice (some ⟨b9762, 0, none⟩) (x3.length : Int).toNat (x3.length : Int).toNat), v16184, v25] :: NA (eI .i64) 256 (.slice (some ⟨b9756, 0, none⟩) (x3.length : Int).toNat (x3.length : Int).toNat) c18923 x18924.flatten :: Arr (.slice (some ⟨b9762, 0, none⟩) (x3.length : Int).toNat (x3.length : Int).toNat) 1 c16181 :: NA (eI .i64) 1 v16184 c16185 x16186 :: Arr v25 2 c22 :: NA (eI .i64) 256 v11 c12 x13.flatten :: Arr v18 1 c15 :: Mp (kI .i64) (Value.int .i64) b9766 x16187 :: hs)) ?_ ?_
          · refine C_block ?_
            replace H := H.front 8 rfl
            dsimp only [List.eraseIdx] at H
            replace H := H.front 8 rfl
            dsimp only [List.eraseIdx] at H
            replace H := H.front 8 rfl
            dsimp only [List.eraseIdx] at H
            replace H := H.front 8 rfl
            dsimp only [List.eraseIdx] at H
            replace H := H.front 8 rfl
            dsimp only [List.eraseIdx] at H
            replace H := H.front 8 rfl
            dsimp only [List.eraseIdx] at H
            replace H := H.front 8 rfl
            dsimp only [List.eraseIdx] at H
            replace H := H.front 8 rfl
            dsimp only [List.eraseIdx] at H
            replace H := H.drop 8 rfl
            dsimp only [List.eraseIdx] at H
            refine C_iter (f := fun s => F_hopcroft_splitter_begin_l1 N x16188 x18591 s.1 s.2) ho18926 (fun s a w' => ∃ (c19033 : (List Value)) (x19034 : (List (List (List Int)))) (x19036 : Int), (x19034, x19036) = s ∧ (∀ a ∈ x19034, a.length = 256) ∧ Fr 143 a [(0, .pointer (some ⟨b1, 0, none⟩)), (2, .map (some b9766)), (3, .int .i64 x16188), (35, v2), (36, .int .i64 (x3.length : Int)), (37, .int .i64 x16188), (42, .agg c18594.toArray), (43, .int .i64 x19036)] ∧ Hp C w' ρ (Box b1 [v2, v5, v8, (.slice (some ⟨b9756, 0, none⟩) (x3.length : Int).toNat (x3.length : Int).toNat), (.slice (some ⟨b9762, 0, none⟩) (x3.length : Int).toNat (x3.length : Int).toNat), v16184, v25] :: NA (eI .i64) 256 (.slice (some ⟨b9756, 0, none⟩) (x3.length : Int).toNat (x3.length : Int).toNat) c19033 x19034.flatten :: Arr (.slice (some ⟨b9762, 0, none⟩) (x3.length : Int).toNat (x3.length : Int).toNat) 1 c16181 :: NA (eI .i64) 1 v16184 c16185 x16186 :: Arr v25 2 c22 :: NA (eI .i64) 256 v11 c12 x13.flatten :: Arr v18 1 c15 :: Mp (kI .i64) (Value.int .i64) b9766 x16187 :: hs)) ?_ ?_
            · exact fun a hf => ⟨c16178, x16179, 0, rfl, gl16180, hf.sub ⟨rfl, rfl, rfl, rfl, rfl, rfl, rfl, rfl, trivial⟩, H⟩
            · rintro s o19143 a wd19146 ⟨c19033, x19034, x19036, rfl, gl19035, hf, H⟩ hB19144 hO19145
              replace hB19144 : F_hopcroft_splitter_begin_l1 N x16188 x18591 x19034 x19036 = some o19143 := hB19144
              unfold F_hopcroft_splitter_begin_l1 at hB19144
              refine CW.at hf <| C_seq <| R_nd <| nq (Q_lss rfl rfl) rfl rfl <| WL_nil <| x_then <| C_seq ?_
              refine C_cond rfl (fun hb => ?_) (fun hb => ?_)
              · replace hB19144 := itT hb hB19144
                refine C_skip <| x_then <| C_seq <| C_block <| C_seq <| R_nd <| nq (Q_move rfl) rfl rfl ?_
                obtain ⟨x19147, hx19147, hB19144⟩ := bnd hB19144
                refine nq (Q_ixI hc18595.2 hc18595.1 hx19147 Try.underlying42 rfl rfl ty3 rfl) rfl rfl <| nq (Q_assign rfl) rfl rfl <| nq (Q_assign rfl) rfl rfl <| WL_nil <| x_then ?_
                obtain ⟨o19199, ho19199, hB19144⟩ := bnd hB19144
                refine C_cutQ (fun a w' => ∃ (c19196 : (List Value)) (x19197 : (List (List (List Int)))), x19197 = o19199 ∧ (∀ a ∈ x19197, a.length = 256) ∧ Fr 143 a [(0, .pointer (some ⟨b1, 0, none⟩)), (2, .map (some b9766)), (3, .int .i64 x16188), (35, v2), (36, .int .i64 (x3.length : Int)), (37, .int .i64 x16188), (42, .agg c18594.toArray), (43, .int .i64 x19036)] ∧ Hp C w' ρ (Box b1 [v2, v5, v8, (.slice (some ⟨b9756, 0, none⟩) (x3.length : Int).toNat (x3.length : Int).toNat), (.slice (some ⟨b9762, 0, none⟩) (x3.length : Int).toNat (x3.length : Int).toNat), v16184, v25] :: NA (eI .i64) 256 (.slice (some ⟨b9756, 0, none⟩) (x3.length : Int).toNat (x3.length : Int).toNat) c19196 x19197.flatten :: Arr (.slice (some ⟨b9762, 0, none⟩) (x3.length : Int).toNat (x3.length : Int).toNat) 1 c16181 :: NA (eI .i64) 1 v16184 c16185 x16186 :: Arr v25 2 c22 :: NA (eI .i64) 256 v11 c12 x13.flatten :: Arr v18 1 c15 :: Mp (kI .i64) (Value.int .i64) b9766 x16187 :: hs)) ?_ ?_
                · refine R_dr (.take 0 (.take 1 (.take 2 (.take 3 (.take 4 (.take 5 (.take 6 (.take 7 (.take 8 (.take 9 (.take 10 (.take 11 (.take 12 (.take 13 (.take 15 (.take 18 (.two 14 16 (.one 16 (.one 17 (.take 19 (.one 20 .done)))) (.one 14 (.one 17 (.take 19 (.one 20 .done))))))))))))))))))))) (fun w' => Ok w' ρ [Box b1 [v2, v5, v8, (.slice (some ⟨b9756, 0, none⟩) (x3.length : Int).toNat (x3.length : Int).toNat), (.slice (some ⟨b9762, 0, none⟩) (x3.length : Int).toNat (x3.length : Int).toNat), v16184, v25], Arr (.slice (some ⟨b9762, 0, none⟩) (x3.length : Int).toNat (x3.length : Int).toNat) 1 c16181, NA (eI .i64) 1 v16184 c16185 x16186, Arr v25 2 c22, NA (eI .i64) 256 v11 c12 x13.flatten, Arr v18 1 c15, Mp (kI .i64) (Value.int .i64) b9766 x16187]) (by kernel_rfl) (by kernel_rfl) (by kernel_rfl) (H.drew.okS (by simp)) ?_
                  replace H := H.drew
                  refine dq rfl (fun _ _ => Q_move rfl) rfl rfl <| dq rfl (fun _ _ => Q_nilP rfl) rfl rfl <| dq (v := .pointer (some ⟨b1, 3, none⟩)) rfl (fun _ _ => Q_fld Try.underlying60 rfl ty57 (by decide) rfl rfl) rfl rfl <| dq (v := (.slice (some ⟨b9756, 0, none⟩) (x3.length : Int).toNat (x3.length : Int).toNat)) rfl (fun _ hw => Q_ldB (k := 0) (cs := [(.slice (some ⟨b9756, 0, none⟩) (x3.length : Int).toNat (x3.length : Int).toNat)]) hw rfl ty57 rfl rfl rfl (fun _ => rfl) rfl) rfl rfl <| dq rfl (fun _ _ => Q_move rfl) rfl rfl <| dq rfl (fun _ _ => Q_move rfl) rfl rfl <| dq rfl (fun _ _ => Q_move rfl) rfl rfl <| dq rfl (fun _ _ => Q_nilP rfl) rfl rfl <| dq (v := .pointer (some ⟨b1, 3, none⟩)) rfl (fun _ _ => Q_fld Try.underlying60 rfl ty57 (by decide) rfl rfl) rfl rfl <| dq (v := (.slice (some ⟨b9756, 0, none⟩) (x3.length : Int).toNat (x3.length : Int).toNat)) rfl (fun _ hw => Q_ldB (k := 0) (cs := [(.slice (some ⟨b9756, 0, none⟩) (x3.length : Int).toNat (x3.length : Int).toNat)]) hw rfl ty57 rfl rfl rfl (fun _ => rfl) rfl) rfl rfl <| dq rfl (fun _ _ => Q_move rfl) rfl rfl <| dq rfl (fun _ _ => Q_move rfl) rfl rfl ?_
                  obtain ⟨x19200, hx19200, ho19199⟩ := bnd ho19199
                  obtain ⟨b19201, o19202, hi19203, hr19204⟩ := na_row (by decide) (by decide) (H.okS (l := [NA (eI .i64) 256 (.slice (some ⟨b9756, 0, none⟩) (x3.length : Int).toNat (x3.length : Int).toNat) c19033 x19034.flatten]) (by simp)) gl19035 hx19200
                  refine dq rfl (fun _ _ => Q_idx hi19203 Try.underlying57 ty64 rfl rfl) rfl rfl ?_
                  obtain ⟨x19205, hx19205, ho19199⟩ := bnd ho19199
                  obtain ⟨u19206, hu19207, ha19208, hl19209, hj19210, hn19211⟩ := hr19204 _ _ hx19205
                  have hb19212 := (idx_some hx19205).1
                  refine dq rfl (fun _ _ => Q_idxA hb19212 (by omega) Try.underlying64 ty23 rfl rfl) rfl rfl <| dq rfl (fun _ _ => Q_move rfl) rfl rfl ?_
                  obtain ⟨x19213, hx19213, ho19199⟩ := bnd ho19199
                  obtain ⟨b19214, o19215, hi19216, hr19217⟩ := na_row (by decide) (by decide) (H.okS (l := [NA (eI .i64) 256 (.slice (some ⟨b9756, 0, none⟩) (x3.length : Int).toNat (x3.length : Int).toNat) c19033 x19034.flatten]) (by simp)) gl19035 hx19213
                  refine dq rfl (fun _ _ => Q_idx hi19216 Try.underlying57 ty64 rfl rfl) rfl rfl ?_
                  refine d2 ?_ ?_
                  · refine de rfl (Eff.quiet (v := u19206) (Q_ld (ha19208 _ (Ok.subS (by simp) H.ok)) ty23 rfl (fun _ => rfl) rfl rfl)) rfl rfl ?_
                    rintro _ _ ⟨rfl, rfl⟩
                    refine ⟨H.okS (by simp), ?_⟩
                    refine d1 (de rfl (E_bslice (xs := [.tmp 62]) (vs := [.int .i64 x16188]) H Try.underlying23 ty3 (by decide) (cs := [.int .i64 x16188]) rfl (sz_cons rfl sz_nil) rfl (by simp) (by simp) rfl rfl) rfl rfl ?_)
                    rintro _ wd19219 ⟨b19218, rfl, H⟩
                    refine ⟨H.okS (by simp), ?_⟩
                    replace H := H.front 2 rfl
                    dsimp only [List.eraseIdx] at H
                    obtain ⟨c19220, r19221, H⟩ := Hp.ntake H hu19207 hj19210
                    obtain ⟨x19222, hx19222, ho19199⟩ := bnd ho19199
                    obtain ⟨ha19223a, ha19223b⟩ := app_some hx19222
                    have r19225 : rdL (eI .i64) ρ x19222 (c19220 ++ ([.int .i64 x16188])) := ha19223b ▸ rdL.app r19221 (show rdL (eI .i64) ρ ([x16188]) ([.int .i64 x16188]) from ⟨([.int .i64 x16188]), _, rfl, rfl, rdL.nil⟩)
                    refine d1 (de rfl (E_append (k := 0) H rfl Try.underlying23 ty3 rfl (by decide) (by decide) rfl rfl (Src.ofArr (k := 2) H.ok rfl) (rdL.one (show rdL (eI .i64) ρ ([x16188]) ([.int .i64 x16188]) from ⟨([.int .i64 x16188]), _, rfl, rfl, rdL.nil⟩)) (app_fit r19221 (show rdL (eI .i64) ρ ([x16188]) ([.int .i64 x16188]) from ⟨([.int .i64 x16188]), _, rfl, rfl, rdL.nil⟩) ha19223a)) rfl rfl ?_)
                    rintro v19224 wd19227 ⟨H, hc19226⟩
                    dsimp only [List.set] at H
                    refine ⟨H.okS (by simp), ?_⟩
                    refine dq rfl (fun _ _ => Q_idxA hb19212 (by omega) Try.underlying64 ty23 rfl rfl) rfl rfl ?_
                    replace H := H.front 1 rfl
                    dsimp only [List.eraseIdx] at H
                    replace H := H.front 1 rfl
                    dsimp only [List.eraseIdx] at H
                    have hl19228 := arr_len (en := (eI .i64)) (by decide) (H.ok.get (k := 0) rfl) r19225
                    obtain ⟨x19229, hx19229, ho19199⟩ := bnd ho19199
                    obtain ⟨x19230, hx19230, ho19199⟩ := bnd ho19199
                    refine d1 (de rfl (E_stNN (flat_I _) H ty23 hi19216 rfl rfl r19225 gl19035 hx19213 hx19229 hx19230) rfl rfl ?_)
                    rintro _ wd19231 H
                    refine ⟨H.okS (by simp), ?_⟩
                    have gl19232 := (flat_set gl19035 hx19213 hx19229 hx19230).2
                    refine DL_nil ?_
                    replace H := H.front 8 rfl
                    dsimp only [List.eraseIdx] at H
                    replace H := H.front 8 rfl
                    dsimp only [List.eraseIdx] at H
                    replace H := H.front 8 rfl
                    dsimp only [List.eraseIdx] at H
                    replace H := H.front 8 rfl
                    dsimp only [List.eraseIdx] at H
                    replace H := H.front 8 rfl
                    dsimp only [List.eraseIdx] at H
                    replace H := H.front 8 rfl
                    dsimp only [List.eraseIdx] at H
                    replace H := H.front 6 rfl
                    dsimp only [List.eraseIdx] at H
                    replace H := H.front 8 rfl
                    dsimp only [List.eraseIdx] at H
                    replace H := H.drop 8 rfl
                    dsimp only [List.eraseIdx] at H
                    obtain rfl := Option.some.inj ho19199
                    refine x_A fun a hf => ⟨(c19033.set (x19147.toNat * 256 + x19036.toNat) v19224), x19230, rfl, gl19232, hf.sub ⟨rfl, rfl, rfl, rfl, rfl, rfl, rfl, rfl, trivial⟩, H⟩
                  · refine de rfl (E_bslice (xs := [.tmp 62]) (vs := [.int .i64 x16188]) H Try.underlying23 ty3 (by decide) (cs := [.int .i64 x16188]) rfl (sz_cons rfl sz_nil) rfl (by simp) (by simp) rfl rfl) rfl rfl ?_
                    rintro _ wd19234 ⟨b19233, rfl, H⟩
                    refine ⟨H.okS (by simp), ?_⟩
                    refine d1 (de rfl (Eff.quiet (v := u19206) (Q_ld (ha19208 _ (Ok.subS (by simp) H.ok)) ty23 rfl (fun _ => rfl) rfl rfl)) rfl rfl ?_)
                    rintro _ _ ⟨rfl, rfl⟩
                    refine ⟨H.okS (by simp), ?_⟩
                    replace H := H.front 2 rfl
                    dsimp only [List.eraseIdx] at H
                    obtain ⟨c19235, r19236, H⟩ := Hp.ntake H hu19207 hj19210
                    obtain ⟨x19237, hx19237, ho19199⟩ := bnd ho19199
                    obtain ⟨ha19238a, ha19238b⟩ := app_some hx19237
                    have r19240 : rdL (eI .i64) ρ x19237 (c19235 ++ ([.int .i64 x16188])) := ha19238b ▸ rdL.app r19236 (show rdL (eI .i64) ρ ([x16188]) ([.int .i64 x16188]) from ⟨([.int .i64 x16188]), _, rfl, rfl, rdL.nil⟩)
                    refine d1 (de rfl (E_append (k := 0) H rfl Try.underlying23 ty3 rfl (by decide) (by decide) rfl rfl (Src.ofArr (k := 2) H.ok rfl) (rdL.one (show rdL (eI .i64) ρ ([x16188]) ([.int .i64 x16188]) from ⟨([.int .i64 x16188]), _, rfl, rfl, rdL.nil⟩)) (app_fit r19236 (show rdL (eI .i64) ρ ([x16188]) ([.int .i64 x16188]) from ⟨([.int .i64 x16188]), _, rfl, rfl, rdL.nil⟩) ha19238a)) rfl rfl ?_)
                    rintro v19239 wd19242 ⟨H, hc19241⟩
                    dsimp only [List.set] at H
                    refine ⟨H.okS (by simp), ?_⟩
                    refine dq rfl (fun _ _ => Q_idxA hb19212 (by omega) Try.underlying64 ty23 rfl rfl) rfl rfl ?_
                    replace H := H.front 1 rfl
                    dsimp only [List.eraseIdx] at H
                    replace H := H.front 1 rfl
                    dsimp only [List.eraseIdx] at H
                    have hl19243 := arr_len (en := (eI .i64)) (by decide) (H.ok.get (k := 0) rfl) r19240
                    obtain ⟨x19244, hx19244, ho19199⟩ := bnd ho19199
                    obtain ⟨x19245, hx19245, ho19199⟩ := bnd ho19199
                    refine d1 (de rfl (E_stNN (flat_I _) H ty23 hi19216 rfl rfl r19240 gl19035 hx19213 hx19244 hx19245) rfl rfl ?_)
                    rintro _ wd19246 H
                    refine ⟨H.okS (by simp), ?_⟩
                    have gl19247 := (flat_set gl19035 hx19213 hx19244 hx19245).2
                    refine DL_nil ?_
                    replace H := H.front 8 rfl
                    dsimp only [List.eraseIdx] at H
                    replace H := H.front 8 rfl
                    dsimp only [List.eraseIdx] at H
                    replace H := H.front 8 rfl
                    dsimp only [List.eraseIdx] at H
                    replace H := H.front 8 rfl
                    dsimp only [List.eraseIdx] at H
                    replace H := H.front 8 rfl
                    dsimp only [List.eraseIdx] at H
                    replace H := H.front 8 rfl
                    dsimp only [List.eraseIdx] at H
                    replace H := H.front 6 rfl
                    dsimp only [List.eraseIdx] at H
                    replace H := H.front 8 rfl
                    dsimp only [List.eraseIdx] at H
                    replace H := H.drop 8 rfl
                    dsimp only [List.eraseIdx] at H
                    obtain rfl := Option.some.inj ho19199
                    refine x_A fun a hf => ⟨(c19033.set (x19147.toNat * 256 + x19036.toNat) v19239), x19245, rfl, gl19247, hf.sub ⟨rfl, rfl, rfl, rfl, rfl, rfl, rfl, rfl, trivial⟩, H⟩
                · rintro a wd19248 ⟨c19196, x19197, rfl, gl19198, hf, H⟩
                  try dsimp only at hB19144
                  refine XX.at hf <| x_block <| x_then <| R_nd <| nq (Q_add rfl rfl) rfl rfl <| nq (Q_move rfl) rfl rfl <| WL_nil ?_
                  replace H := H.front 7 rfl
                  dsimp only [List.eraseIdx] at H
                  replace H := H.front 7 rfl
                  dsimp only [List.eraseIdx] at H
                  replace H := H.front 7 rfl
                  dsimp only [List.eraseIdx] at H
                  replace H := H.front 7 rfl
                  dsimp only [List.eraseIdx] at H
                  replace H := H.front 7 rfl
                  dsimp only [List.eraseIdx] at H
                  replace H := H.front 7 rfl
                  dsimp only [List.eraseIdx] at H
                  replace H := H.front 7 rfl
                  dsimp only [List.eraseIdx] at H
                  replace H := H.front 7 rfl
                  dsimp only [List.eraseIdx] at H
                  obtain rfl := Option.some.inj hB19144
                  refine x_A fun a hf => ⟨_, rfl, c19196, x19197, w64 (x19036 + 1), rfl, gl19198, hf.sub ⟨rfl, rfl, rfl, rfl, rfl, rfl, rfl, rfl, trivial⟩, H⟩
              · replace hB19144 := itF hb hB19144
                refine C_exit <| x_then_exit <| x_then_exit <| x_block_exit ?_
                replace H := H.front 7 rfl
                dsimp only [List.eraseIdx] at H
                replace H := H.front 7 rfl
                dsimp only [List.eraseIdx] at H
                replace H := H.front 7 rfl
                dsimp only [List.eraseIdx] at H
                replace H := H.front 7 rfl
                dsimp only [List.eraseIdx] at H
                replace H := H.front 7 rfl
                dsimp only [List.eraseIdx] at H
                replace H := H.front 7 rfl
                dsimp only [List.eraseIdx] at H
                replace H := H.front 7 rfl
                dsimp only [List.eraseIdx] at H
                replace H := H.front 7 rfl
                dsimp only [List.eraseIdx] at H
                obtain rfl := Option.some.inj hB19144
                obtain rfl := hO19145 _ rfl
                refine x_A fun a hf => ⟨c19033, x19034, rfl, gl19035, hf.sub ⟨rfl, rfl, rfl, rfl, rfl, rfl, trivial⟩, H⟩
          · rintro a wd19249 ⟨c18923, x18924, rfl, gl18925, hf, H⟩
            try dsimp only at ho18590
            refine XX.at hf <| x_then <| C_seq <| R_nd <| nq (Q_move rfl) rfl rfl <| nq (Q_move rfl) rfl rfl <| nq (Q_nilP rfl) rfl rfl <| nq (v := .pointer (some ⟨b1, 0, none⟩)) (Q_fld Try.underlying60 rfl ty25 (by decide) rfl rfl) rfl rfl <| nq (v := .pointer (some ⟨b1, 1, none⟩)) (Q_fld Try.underlying25 rfl ty23 (by decide) rfl rfl) rfl rfl <| nq (v := v5) (Q_ldB (k := 0) (cs := [v5]) H.ok rfl ty23 rfl rfl rfl (fun _ => rfl) rfl) rfl rfl <| nq (Q_move rfl) rfl rfl ?_
            obtain ⟨x19250, hx19250, ho18590⟩ := bnd ho18590
            obtain ⟨b19251, o19252, c19253, hc19254, ha19255, hi19256⟩ := idxR r7 hx19250
            refine nq (Q_idx hi19256 Try.underlying23 ty3 rfl rfl) rfl rfl <| nq (v := .int .i64 x19250) (Q_ld (show cellsAt _ _ _ [.int .i64 x19250] from (show _ = [_] from hc19254) ▸ (ha19255.up H.ok.view)) ty3 rfl (fun _ => rfl) rfl rfl) rfl rfl <| nq (v := .tuple [.int .i64 ((mget x16187 x19250).getD 0), .bool ((mget x16187 x19250).isSome)].toArray) (Q_look (zp := 0) (k := 7) H.ok rfl Try.underlying61 (kOk_I Try.underlying3) trivial ty3 rfl rfl rfl) rfl rfl <| nq (Q_move rfl) rfl rfl <| nq (Q_extract rfl rfl) rfl rfl <| nq (Q_extract rfl rfl) rfl rfl <| nq (Q_assign rfl) rfl rfl <| nq (Q_assign rfl) rfl rfl <| WL_nil <| x_then <| C_seq <| C_seq <| R_nd <| nq (Q_move rfl) rfl rfl ?_
            refine nq (Q_not rfl) rfl rfl <| WL_nil <| x_then ?_
            obtain ⟨o19277, ho19277, ho18590⟩ := bnd ho18590
            refine C_cutQ (fun a w' => ∃ (v19272 : Value) (c19273 : (List Value)) (x19274 : (List (List Int))) (x19275 : (List (Int × Int))) (x19276 : Int), (x19274, x19275, x19276) = o19277 ∧ Fr 143 a [(0, .pointer (some ⟨b1, 0, none⟩)), (2, .map (some b9766)), (3, .int .i64 x16188), (7, .int .i64 x19276), (35, v2), (36, .int .i64 (x3.length : Int)), (37, .int .i64 x16188)] ∧ Hp C w' ρ (Box b1 [v2, v5, v8, (.slice (some ⟨b9756, 0, none⟩) (x3.length : Int).toNat (x3.length : Int).toNat), (.slice (some ⟨b9762, 0, none⟩) (x3.length : Int).toNat (x3.length : Int).toNat), v19272, v25] :: NA (eI .i64) 256 (.slice (some ⟨b9756, 0, none⟩) (x3.length : Int).toNat (x3.length : Int).toNat) c18923 x18924.flatten :: Arr (.slice (some ⟨b9762, 0, none⟩) (x3.length : Int).toNat (x3.length : Int).toNat) 1 c16181 :: NA (eI .i64) 1 v19272 c19273 x19274 :: Arr v25 2 c22 :: NA (eI .i64) 256 v11 c12 x13.flatten :: Arr v18 1 c15 :: Mp (kI .i64) (Value.int .i64) b9766 x19275 :: hs)) ?_ ?_
            · refine C_cond rfl (fun hb => ?_) (fun hb => ?_)
              · replace ho19277 := itT hb ho19277
                refine C_seq <| R_nd <| nq (Q_move rfl) rfl rfl <| nq (Q_nilP rfl) rfl rfl <| nq (v := .pointer (some ⟨b1, 5, none⟩)) (Q_fld Try.underlying60 rfl ty51 (by decide) rfl rfl) rfl rfl <| nq (v := v16184) (Q_ldB (k := 0) (cs := [v16184]) H.ok rfl ty51 rfl rfl rfl (fun _ => rfl) rfl) rfl rfl <| nq (v := .int .i64 (x16186.length : Int)) (na_len (k := 3) H.ok rfl (N := x16186.length) (Nat.mul_one _).symm (by decide) Try.underlying51 rfl) rfl rfl <| nq (Q_assign rfl) rfl rfl <| WL_nil <| x_then <| C_seq <| R_nd <| nq (Q_move rfl) rfl rfl <| nq (Q_move rfl) rfl rfl ?_
                refine nq (Q_nilP rfl) rfl rfl <| nq (v := .pointer (some ⟨b1, 0, none⟩)) (Q_fld Try.underlying60 rfl ty25 (by decide) rfl rfl) rfl rfl <| nq (v := .pointer (some ⟨b1, 1, none⟩)) (Q_fld Try.underlying25 rfl ty23 (by decide) rfl rfl) rfl rfl <| nq (v := v5) (Q_ldB (k := 0) (cs := [v5]) H.ok rfl ty23 rfl rfl rfl (fun _ => rfl) rfl) rfl rfl <| nq (Q_move rfl) rfl rfl ?_
                obtain ⟨x19278, hx19278, ho19277⟩ := bnd ho19277
                obtain ⟨b19279, o19280, c19281, hc19282, ha19283, hi19284⟩ := idxR r7 hx19278
                refine nq (Q_idx hi19284 Try.underlying23 ty3 rfl rfl) rfl rfl <| nq (v := .int .i64 x19278) (Q_ld (show cellsAt _ _ _ [.int .i64 x19278] from (show _ = [_] from hc19282) ▸ (ha19283.up H.ok.view)) ty3 rfl (fun _ => rfl) rfl rfl) rfl rfl <| nq (Q_move rfl) rfl rfl <| ne (E_mset (b := (x16186.length : Int)) (k := 7) H rfl Try.underlying61 (kOk_I Try.underlying3) trivial rfl rfl rfl) rfl rfl ?_
                rintro _ wd19285 H
                dsimp only [List.set] at H
                refine WL_nil <| x_then <| R_nd <| nq (Q_move rfl) rfl rfl <| nq (Q_move rfl) rfl rfl <| nq (Q_nilP rfl) rfl rfl <| nq (v := .pointer (some ⟨b1, 5, none⟩)) (Q_fld Try.underlying60 rfl ty51 (by decide) rfl rfl) rfl rfl <| nq (v := v16184) (Q_ldB (k := 0) (cs := [v16184]) H.ok rfl ty51 rfl rfl rfl (fun _ => rfl) rfl) rfl rfl ?_
                have H := H.nilArr 1
                have hl19287 := arr_len (en := (eI .i64)) (by decide) (H.ok.get (k := 0) rfl) (show rdL (eI .i64) ρ ([]) ([]) from rdL.nil)
                refine ne (E_bslice (xs := [.const (.slice none 0 0)]) (vs := [(.slice none 0 0)]) H Try.underlying51 ty23 (by decide) (cs := [(.slice none 0 0)]) rfl (sz_cons (by rw [(arr_cells (H.ok.get (k := 0) rfl)).1]; rfl) sz_nil) (fm1 (arr_cells (H.ok.get (k := 0) rfl)).1) (by simp) (by simp) rfl rfl) rfl rfl ?_
                rintro _ wd19288 ⟨b19286, rfl, H⟩
                replace H := Hp.njoin1 (flat_I _) H (show rdL (eI .i64) ρ ([]) ([]) from rdL.nil)
                obtain ⟨x19289, hx19289, ho19277⟩ := bnd ho19277
                replace H := H.front 4 rfl
                dsimp only [List.eraseIdx] at H
                refine ne (E_appN1 H Try.underlying51 ty23 rfl (by decide) rfl rfl hx19289) rfl rfl ?_
                rintro u19290 wd19291 H
                refine nq (Q_nilP rfl) rfl rfl <| nq (v := .pointer (some ⟨b1, 5, none⟩)) (Q_fld Try.underlying60 rfl ty51 (by decide) rfl rfl) rfl rfl <| ne (E_stB (k := 1) (cs := [u19290]) (vs' := [v2, v5, v8, (.slice (some ⟨b9756, 0, none⟩) (x3.length : Int).toNat (x3.length : Int).toNat), (.slice (some ⟨b9762, 0, none⟩) (x3.length : Int).toNat (x3.length : Int).toNat), u19290, v25]) H rfl ty51 rfl rfl (arr_cells (H.ok.get (k := 0) rfl).1).1 rfl (one_cons (arr_cells (H.ok.get (k := 0) rfl).1).2 one_nil) (by simp) rfl) rfl rfl ?_
                rintro _ wd19292 H
                dsimp only [List.set] at H
                refine WL_nil ?_
                replace H := H.front 7 rfl
                dsimp only [List.eraseIdx] at H
                replace H := H.front 7 rfl
                dsimp only [List.eraseIdx] at H
                replace H := H.front 7 rfl
                dsimp only [List.eraseIdx] at H
                replace H := H.front 7 rfl
                dsimp only [List.eraseIdx] at H
                replace H := H.front 4 rfl
                dsimp only [List.eraseIdx] at H
                replace H := H.front 7 rfl
                dsimp only [List.eraseIdx] at H
                replace H := H.front 7 rfl
                dsimp only [List.eraseIdx] at H
                replace H := H.front 7 rfl
                dsimp only [List.eraseIdx] at H
                obtain rfl := Option.some.inj ho19277
                refine x_A fun a hf => ⟨u19290, (c16185 ++ ([(.slice none 0 0)])), x19289, (mset x16187 x19278 (x16186.length : Int)), (x16186.length : Int), rfl, hf.sub ⟨rfl, rfl, rfl, rfl, rfl, rfl, rfl, trivial⟩, H⟩
              · replace ho19277 := itF hb ho19277
                refine C_skip ?_
                replace H := H.front 7 rfl
                dsimp only [List.eraseIdx] at H
                replace H := H.front 7 rfl
                dsimp only [List.eraseIdx] at H
                replace H := H.front 7 rfl
                dsimp only [List.eraseIdx] at H
                replace H := H.front 7 rfl
                dsimp only [List.eraseIdx] at H
                replace H := H.front 7 rfl
                dsimp only [List.eraseIdx] at H
                replace H := H.front 7 rfl
                dsimp only [List.eraseIdx] at H
                replace H := H.front 7 rfl
                dsimp only [List.eraseIdx] at H
                replace H := H.front 7 rfl
                dsimp only [List.eraseIdx] at H
                obtain rfl := Option.some.inj ho19277
                refine x_A fun a hf => ⟨v16184, c16185, x16186, x16187, (mget x16187 x19250).getD 0, rfl, hf.sub ⟨rfl, rfl, rfl, rfl, rfl, rfl, rfl, trivial⟩, H⟩
            · rintro a wd19293 ⟨v19272, c19273, x19274, x19275, x19276, rfl, hf, H⟩
              try dsimp only at ho18590
              refine XX.at hf <| x_then <| C_seq <| R_nd <| nq (Q_move rfl) rfl rfl <| nq (Q_nilP rfl) rfl rfl <| nq (v := .pointer (some ⟨b1, 4, none⟩)) (Q_fld Try.underlying60 rfl ty23 (by decide) rfl rfl) rfl rfl <| nq (v := (.slice (some ⟨b9762, 0, none⟩) (x3.length : Int).toNat (x3.length : Int).toNat)) (Q_ldB (k := 0) (cs := [(.slice (some ⟨b9762, 0, none⟩) (x3.length : Int).toNat (x3.length : Int).toNat)]) H.ok rfl ty23 rfl rfl rfl (fun _ => rfl) rfl) rfl rfl <| nq (Q_move rfl) rfl rfl <| nq (Q_move rfl) rfl rfl ?_
              obtain ⟨x19294, hx19294, ho18590⟩ := bnd ho18590
              obtain ⟨b19295, o19296, hi19300, hc19298, ha19299⟩ := arr_at (hs := [Arr (.slice (some ⟨b9762, 0, none⟩) (x3.length : Int).toNat (x3.length : Int).toNat) 1 c16181]) (k := 0) (by decide) (H.okS (by simp)) rfl r16183 hx19294
              refine nq (Q_idx hi19300 Try.underlying23 ty3 rfl rfl) rfl rfl ?_
              obtain ⟨x19301, hx19301, ho18590⟩ := bnd ho18590
              obtain ⟨hs19302a, hs19302b, hs19302c⟩ := setI_some hx19301
              have r19303 : rdL (eI .i64) ρ x19301 (setC c16181 (x16188.toNat * 1 + 0) [.int .i64 x19276]) := hs19302c ▸ rdL.set r16183 hs19302b (rfl)
              refine ne (E_stA (k := 2) (j := 0) (c := [.int .i64 x19276]) H rfl ty3 hi19300 rfl rfl rfl rfl (one_cons rfl one_nil) (by decide)) rfl rfl ?_
              rintro _ wd19304 H
              dsimp only [List.set] at H
              refine WL_nil <| x_then ?_
              obtain ⟨o19342, ho19342, ho18590⟩ := bnd ho18590
              refine C_cutQ (fun a w' => ∃ (c19340 : (List Value)) (x19341 : (List (List Int))), x19341 = o19342 ∧ Fr 143 a [(0, .pointer (some ⟨b1, 0, none⟩)), (2, .map (some b9766)), (35, v2), (36, .int .i64 (x3.length : Int)), (37, .int .i64 x16188)] ∧ Hp C w' ρ (Box b1 [v2, v5, v8, (.slice (some ⟨b9756, 0, none⟩) (x3.length : Int).toNat (x3.length : Int).toNat), (.slice (some ⟨b9762, 0, none⟩) (x3.length : Int).toNat (x3.length : Int).toNat), v19272, v25] :: NA (eI .i64) 256 (.slice (some ⟨b9756, 0, none⟩) (x3.length : Int).toNat (x3.length : Int).toNat) c18923 x18924.flatten :: Arr (.slice (some ⟨b9762, 0, none⟩) (x3.length : Int).toNat (x3.length : Int).toNat) 1 (setC c16181 (x16188.toNat * 1 + 0) [.int .i64 x19276]) :: NA (eI .i64) 1 v19272 c19340 x19341 :: Arr v25 2 c22 :: NA (eI .i64) 256 v11 c12 x13.flatten :: Arr v18 1 c15 :: Mp (kI .i64) (Value.int .i64) b9766 x19275 :: hs)) ?_ ?_
              · refine R_dr (.take 0 (.take 1 (.take 2 (.take 3 (.take 4 (.take 5 (.take 6 (.take 7 (.take 8 (.take 9 (.take 10 (.take 12 (.two 11 13 (.one 13 (.one 14 (.take 15 (.one 16 .done)))) (.one 11 (.one 14 (.take 15 (.one 16 .done))))))))))))))))) (fun w' => Ok w' ρ [Box b1 [v2, v5, v8, (.slice (some ⟨b9756, 0, none⟩) (x3.length : Int).toNat (x3.length : Int).toNat), (.slice (some ⟨b9762, 0, none⟩) (x3.length : Int).toNat (x3.length : Int).toNat), v19272, v25], NA (eI .i64) 256 (.slice (some ⟨b9756, 0, none⟩) (x3.length : Int).toNat (x3.length : Int).toNat) c18923 x18924.flatten, Arr (.slice (some ⟨b9762, 0, none⟩) (x3.length : Int).toNat (x3.length : Int).toNat) 1 (setC c16181 (x16188.toNat * 1 + 0) [.int .i64 x19276]), Arr v25 2 c22, NA (eI .i64) 256 v11 c12 x13.flatten, Arr v18 1 c15, Mp (kI .i64) (Value.int .i64) b9766 x19275]) (by kernel_rfl) (by kernel_rfl) (by kernel_rfl) (H.drew.okS (by simp)) ?_
                replace H := H.drew
                refine dq rfl (fun _ _ => Q_move rfl) rfl rfl <| dq rfl (fun _ _ => Q_nilP rfl) rfl rfl <| dq (v := .pointer (some ⟨b1, 5, none⟩)) rfl (fun _ _ => Q_fld Try.underlying60 rfl ty51 (by decide) rfl rfl) rfl rfl <| dq (v := v19272) rfl (fun _ hw => Q_ldB (k := 0) (cs := [v19272]) hw rfl ty51 rfl rfl rfl (fun _ => rfl) rfl) rfl rfl <| dq rfl (fun _ _ => Q_move rfl) rfl rfl <| dq rfl (fun _ _ => Q_move rfl) rfl rfl <| dq rfl (fun _ _ => Q_nilP rfl) rfl rfl <| dq (v := .pointer (some ⟨b1, 5, none⟩)) rfl (fun _ _ => Q_fld Try.underlying60 rfl ty51 (by decide) rfl rfl) rfl rfl <| dq (v := v19272) rfl (fun _ hw => Q_ldB (k := 0) (cs := [v19272]) hw rfl ty51 rfl rfl rfl (fun _ => rfl) rfl) rfl rfl <| dq rfl (fun _ _ => Q_move rfl) rfl rfl ?_
                obtain ⟨x19343, hx19343, ho19342⟩ := bnd ho19342
                obtain ⟨b19344, o19345, u19347, hi19346, hu19348, ha19349, hl19350, hj19351⟩ := na_at1 (by decide) (H.okS (l := [NA (eI .i64) 1 v19272 c19273 x19274]) (by simp)) hx19343
                refine dq rfl (fun _ _ => Q_idx hi19346 Try.underlying51 ty23 rfl rfl) rfl rfl <| dq rfl (fun _ _ => Q_move rfl) rfl rfl ?_
                refine d2 ?_ ?_
                · refine de rfl (Eff.quiet (v := u19347) (Q_ld (ha19349 _ (Ok.subS (by simp) H.ok)) ty23 rfl (fun _ => rfl) rfl rfl)) rfl rfl ?_
                  rintro _ _ ⟨rfl, rfl⟩
                  refine ⟨H.okS (by simp), ?_⟩
                  refine d1 (de rfl (E_bslice (xs := [.tmp 126]) (vs := [.int .i64 x16188]) H Try.underlying23 ty3 (by decide) (cs := [.int .i64 x16188]) rfl (sz_cons rfl sz_nil) rfl (by simp) (by simp) rfl rfl) rfl rfl ?_)
                  rintro _ wd19353 ⟨b19352, rfl, H⟩
                  refine ⟨H.okS (by simp), ?_⟩
                  replace H := H.front 4 rfl
                  dsimp only [List.eraseIdx] at H
                  obtain ⟨c19354, r19355, H⟩ := Hp.ntake H hu19348 hj19351
                  obtain ⟨x19356, hx19356, ho19342⟩ := bnd ho19342
                  obtain ⟨ha19357a, ha19357b⟩ := app_some hx19356
                  have r19359 : rdL (eI .i64) ρ x19356 (c19354 ++ ([.int .i64 x16188])) := ha19357b ▸ rdL.app r19355 (show rdL (eI .i64) ρ ([x16188]) ([.int .i64 x16188]) from ⟨([.int .i64 x16188]), _, rfl, rfl, rdL.nil⟩)
                  refine d1 (de rfl (E_append (k := 0) H rfl Try.underlying23 ty3 rfl (by decide) (by decide) rfl rfl (Src.ofArr (k := 2) H.ok rfl) (rdL.one (show rdL (eI .i64) ρ ([x16188]) ([.int .i64 x16188]) from ⟨([.int .i64 x16188]), _, rfl, rfl, rdL.nil⟩)) (app_fit r19355 (show rdL (eI .i64) ρ ([x16188]) ([.int .i64 x16188]) from ⟨([.int .i64 x16188]), _, rfl, rfl, rdL.nil⟩) ha19357a)) rfl rfl ?_)
                  rintro v19358 wd19361 ⟨H, hc19360⟩
                  dsimp only [List.set] at H
                  refine ⟨H.okS (by simp), ?_⟩
                  refine dq rfl (fun _ _ => Q_idx hi19346 Try.underlying51 ty23 rfl rfl) rfl rfl ?_
                  replace H := H.front 1 rfl
                  dsimp only [List.eraseIdx] at H
                  replace H := H.front 1 rfl
                  dsimp only [List.eraseIdx] at H
                  have hl19362 := arr_len (en := (eI .i64)) (by decide) (H.ok.get (k := 0) rfl) r19359
                  obtain ⟨x19363, hx19363, ho19342⟩ := bnd ho19342
                  refine d1 (de rfl (E_stN1 (flat_I _) H ty23 hi19346 rfl rfl r19359 hx19363) rfl rfl ?_)
                  rintro _ wd19364 H
                  refine ⟨H.okS (by simp), ?_⟩
                  refine DL_nil ?_
                  replace H := H.front 8 rfl
                  dsimp only [List.eraseIdx] at H
                  replace H := H.front 8 rfl
                  dsimp only [List.eraseIdx] at H
                  replace H := H.front 8 rfl
                  dsimp only [List.eraseIdx] at H
                  replace H := H.front 8 rfl
                  dsimp only [List.eraseIdx] at H
                  replace H := H.front 4 rfl
                  dsimp only [List.eraseIdx] at H
                  replace H := H.front 8 rfl
                  dsimp only [List.eraseIdx] at H
                  replace H := H.front 8 rfl
                  dsimp only [List.eraseIdx] at H
                  replace H := H.front 8 rfl
                  dsimp only [List.eraseIdx] at H
                  replace H := H.drop 8 rfl
                  dsimp only [List.eraseIdx] at H
                  obtain rfl := Option.some.inj ho19342
                  refine x_A fun a hf => ⟨(c19273.set x19276.toNat v19358), x19363, rfl, hf.sub ⟨rfl, rfl, rfl, rfl, rfl, trivial⟩, H⟩
                · refine de rfl (E_bslice (xs := [.tmp 126]) (vs := [.int .i64 x16188]) H Try.underlying23 ty3 (by decide) (cs := [.int .i64 x16188]) rfl (sz_cons rfl sz_nil) rfl (by simp) (by simp) rfl rfl) rfl rfl ?_
                  rintro _ wd19366 ⟨b19365, rfl, H⟩
                  refine ⟨H.okS (by simp), ?_⟩
                  refine d1 (de rfl (Eff.quiet (v := u19347) (Q_ld (ha19349 _ (Ok.subS (by simp) H.ok)) ty23 rfl (fun _ => rfl) rfl rfl)) rfl rfl ?_)
                  rintro _ _ ⟨rfl, rfl⟩
                  refine ⟨H.okS (by simp), ?_⟩
                  replace H := H.front 4 rfl
                  dsimp only [List.eraseIdx] at H
                  obtain ⟨c19367, r19368, H⟩ := Hp.ntake H hu19348 hj19351
                  obtain ⟨x19369, hx19369, ho19342⟩ := bnd ho19342
                  obtain ⟨ha19370a, ha19370b⟩ := app_some hx19369
                  have r19372 : rdL (eI .i64) ρ x19369 (c19367 ++ ([.int .i64 x16188])) := ha19370b ▸ rdL.app r19368 (show rdL (eI .i64) ρ ([x16188]) ([.int .i64 x16188]) from ⟨([.int .i64 x16188]), _, rfl, rfl, rdL.nil⟩)
                  refine d1 (de rfl (E_append (k := 0) H rfl Try.underlying23 ty3 rfl (by decide) (by decide) rfl rfl (Src.ofArr (k := 2) H.ok rfl) (rdL.one (show rdL (eI .i64) ρ ([x16188]) ([.int .i64 x16188]) from ⟨([.int .i64 x16188]), _, rfl, rfl, rdL.nil⟩)) (app_fit r19368 (show rdL (eI .i64) ρ ([x16188]) ([.int .i64 x16188]) from ⟨([.int .i64 x16188]), _, rfl, rfl, rdL.nil⟩) ha19370a)) rfl rfl ?_)
                  rintro v19371 wd19374 ⟨H, hc19373⟩
                  dsimp only [List.set] at H
                  refine ⟨H.okS (by simp), ?_⟩
                  refine dq rfl (fun _ _ => Q_idx hi19346 Try.underlying51 ty23 rfl rfl) rfl rfl ?_
                  replace H := H.front 1 rfl
                  dsimp only [List.eraseIdx] at H
                  replace H := H.front 1 rfl
                  dsimp only [List.eraseIdx] at H
                  have hl19375 := arr_len (en := (eI .i64)) (by decide) (H.ok.get (k := 0) rfl) r19372
                  obtain ⟨x19376, hx19376, ho19342⟩ := bnd ho19342
                  refine d1 (de rfl (E_stN1 (flat_I _) H ty23 hi19346 rfl rfl r19372 hx19376) rfl rfl ?_)
                  rintro _ wd19377 H
                  refine ⟨H.okS (by simp), ?_⟩
                  refine DL_nil ?_
                  replace H := H.front 8 rfl
                  dsimp only [List.eraseIdx] at H
                  replace H := H.front 8 rfl
                  dsimp only [List.eraseIdx] at H
                  replace H := H.front 8 rfl
                  dsimp only [List.eraseIdx] at H
                  replace H := H.front 8 rfl
                  dsimp only [List.eraseIdx] at H
                  replace H := H.front 4 rfl
                  dsimp only [List.eraseIdx] at H
                  replace H := H.front 8 rfl
                  dsimp only [List.eraseIdx] at H
                  replace H := H.front 8 rfl
                  dsimp only [List.eraseIdx] at H
                  replace H := H.front 8 rfl
                  dsimp only [List.eraseIdx] at H
                  replace H := H.drop 8 rfl
                  dsimp only [List.eraseIdx] at H
                  obtain rfl := Option.some.inj ho19342
                  refine x_A fun a hf => ⟨(c19273.set x19276.toNat v19371), x19376, rfl, hf.sub ⟨rfl, rfl, rfl, rfl, rfl, trivial⟩, H⟩
              · rintro a wd19378 ⟨c19340, x19341, rfl, hf, H⟩
                try dsimp only at ho18590
                refine XX.at hf <| x_block ?_
                replace H := H.front 7 rfl
                dsimp only [List.eraseIdx] at H
                replace H := H.front 7 rfl
                dsimp only [List.eraseIdx] at H
                replace H := H.front 7 rfl
                dsimp only [List.eraseIdx] at H
                replace H := H.front 7 rfl
                dsimp only [List.eraseIdx] at H
                replace H := H.front 7 rfl
                dsimp only [List.eraseIdx] at H
                replace H := H.front 7 rfl
                dsimp only [List.eraseIdx] at H
                replace H := H.front 7 rfl
                dsimp only [List.eraseIdx] at H
                replace H := H.front 7 rfl
                dsimp only [List.eraseIdx] at H
                obtain rfl := Option.some.inj ho18590
                refine x_A fun a hf => ⟨c18923, (setC c16181 (x16188.toNat * 1 + 0) [.int .i64 x19276]), v19272, c19340, x18924, x19301, x19341, x19275, rfl, gl18925, r19303, hf.sub ⟨rfl, rfl, rfl, rfl, rfl, trivial⟩, H⟩
        · rintro a wd19379 ⟨c18580, c18583, v18586, c18587, x18581, x18584, x18588, x18589, rfl, gl18582, r18585, hf, H⟩
          try dsimp only at hB17789
          refine CW.at hf <| R_nd <| nq (Q_add rfl rfl) rfl rfl <| nq (Q_move rfl) rfl rfl <| WL_nil ?_
          replace H := H.front 7 rfl
          dsimp only [List.eraseIdx] at H
          replace H := H.front 7 rfl
          dsimp only [List.eraseIdx] at H
          replace H := H.front 7 rfl
          dsimp only [List.eraseIdx] at H
          replace H := H.front 7 rfl
          dsimp only [List.eraseIdx] at H
          replace H := H.front 7 rfl
          dsimp only [List.eraseIdx] at H
          replace H := H.front 7 rfl
          dsimp only [List.eraseIdx] at H
          replace H := H.front 7 rfl
          dsimp only [List.eraseIdx] at H
          replace H := H.front 7 rfl
          dsimp only [List.eraseIdx] at H
          obtain rfl := Option.some.inj hB17789
          refine x_A fun a hf => ⟨_, rfl, c18580, c18583, v18586, c18587, x18581, x18584, x18588, x18589, w64 (x16188 + 1), rfl, gl18582, r18585, hf.sub ⟨rfl, rfl, rfl, rfl, rfl, trivial⟩, H⟩
      · replace hB17789 := itF hb hB17789
        refine C_exit <| x_then_exit <| x_then_exit <| x_block_exit ?_
        replace H := H.front 6 rfl
        dsimp only [List.eraseIdx] at H
        replace H := H.front 6 rfl
        dsimp only [List.eraseIdx] at H
        replace H := H.front 6 rfl
        dsimp only [List.eraseIdx] at H
        replace H := H.front 6 rfl
        dsimp only [List.eraseIdx] at H
        replace H := H.front 6 rfl
        dsimp only [List.eraseIdx] at H
        replace H := H.front 6 rfl
        dsimp only [List.eraseIdx] at H
        replace H := H.front 6 rfl
        dsimp only [List.eraseIdx] at H
        replace H := H.drop 7 rfl
        dsimp only [List.eraseIdx] at H
        obtain rfl := Option.some.inj hB17789
        obtain rfl := hO17790 _ rfl
        refine x_A fun a hf => ⟨c16178, c16181, v16184, c16185, x16179, x16182, x16186, rfl, gl16180, r16183, hf.sub ⟨rfl, trivial⟩, H⟩
  · rintro a wd19380 ⟨c14569, c14572, v14575, c14576, x14570, x14573, x14577, rfl, gl14571, r14574, hf, H⟩
    try dsimp only at hF
    refine XX.at hf <| x_then <| C_seq <| R_nd <| nq (Q_move rfl) rfl rfl <| nq (Q_nilP rfl) rfl rfl <| nq (v := .pointer (some ⟨b1, 5, none⟩)) (Q_fld Try.underlying60 rfl ty51 (by decide) rfl rfl) rfl rfl <| nq (v := v14575) (Q_ldB (k := 0) (cs := [v14575]) H.ok rfl ty51 rfl rfl rfl (fun _ => rfl) rfl) rfl rfl <| nq (v := .int .i64 (x14577.length : Int)) (na_len (k := 3) H.ok rfl (N := x14577.length) (Nat.mul_one _).symm (by decide) Try.underlying51 rfl) rfl rfl <| nq (Q_move rfl) rfl rfl <| WL_nil <| x_then ?_
    obtain ⟨o19425, ho19425, hF⟩ := bnd hF
    refine C_cutQ (fun a w' => ∃ (v19421 : Value) (c19422 : (List Value)) (x19423 : (List (Int × Int))), x19423 = o19425 ∧ rdL (eP (eI .i64) (eI .u8)) ρ x19423 c19422 ∧ Fr 143 a [] ∧ Hp C w' ρ (Box b1 [v2, v5, v8, (.slice (some ⟨b9756, 0, none⟩) (x3.length : Int).toNat (x3.length : Int).toNat), (.slice (some ⟨b9762, 0, none⟩) (x3.length : Int).toNat (x3.length : Int).toNat), v14575, v19421] :: NA (eI .i64) 256 (.slice (some ⟨b9756, 0, none⟩) (x3.length : Int).toNat (x3.length : Int).toNat) c14569 x14570.flatten :: Arr (.slice (some ⟨b9762, 0, none⟩) (x3.length : Int).toNat (x3.length : Int).toNat) 1 c14572 :: NA (eI .i64) 1 v14575 c14576 x14577 :: Arr v19421 2 c19422 :: NA (eI .i64) 256 v11 c12 x13.flatten :: Arr v18 1 c15 :: hs)) ?_ ?_
    · refine C_block ?_
      replace H := H.front 6 rfl
      dsimp only [List.eraseIdx] at H
      replace H := H.front 6 rfl
      dsimp only [List.eraseIdx] at H
      replace H := H.front 6 rfl
      dsimp only [List.eraseIdx] at H
      replace H := H.front 6 rfl
      dsimp only [List.eraseIdx] at H
      replace H := H.front 6 rfl
      dsimp only [List.eraseIdx] at H
      replace H := H.front 6 rfl
      dsimp only [List.eraseIdx] at H
      replace H := H.front 6 rfl
      dsimp only [List.eraseIdx] at H
      refine C_iter (f := fun s => F_hopcroft_splitter_begin_l2 N x3 x6 x9 x14570 x14573 x14577 s.1 s.2) ho19425 (fun s a w' => ∃ (v19438 : Value) (c19439 : (List Value)) (x19440 : (List (Int × Int))) (x19442 : Int), (x19440, x19442) = s ∧ rdL (eP (eI .i64) (eI .u8)) ρ x19440 c19439 ∧ Fr 143 a [(0, .pointer (some ⟨b1, 0, none⟩)), (135, .int .i64 (x14577.length : Int)), (136, .int .i64 x19442)] ∧ Hp C w' ρ (Box b1 [v2, v5, v8, (.slice (some ⟨b9756, 0, none⟩) (x3.length : Int).toNat (x3.length : Int).toNat), (.slice (some ⟨b9762, 0, none⟩) (x3.length : Int).toNat (x3.length : Int).toNat), v14575, v19438] :: NA (eI .i64) 256 (.slice (some ⟨b9756, 0, none⟩) (x3.length : Int).toNat (x3.length : Int).toNat) c14569 x14570.flatten :: Arr (.slice (some ⟨b9762, 0, none⟩) (x3.length : Int).toNat (x3.length : Int).toNat) 1 c14572 :: NA (eI .i64) 1 v14575 c14576 x14577 :: Arr v19438 2 c19439 :: NA (eI .i64) 256 v11 c12 x13.flatten :: Arr v18 1 c15 :: hs)) ?_ ?_
      · exact fun a hf => ⟨v25, c22, x23, 0, rfl, r24, hf.sub ⟨rfl, rfl, rfl, trivial⟩, H⟩
      · rintro s o19455 a wd19458 ⟨v19438, c19439, x19440, x19442, rfl, r19441, hf, H⟩ hB19456 hO19457
        replace hB19456 : F_hopcroft_splitter_begin_l2 N x3 x6 x9 x14570 x14573 x14577 x19440 x19442 = some o19455 := hB19456
        unfold F_hopcroft_splitter_begin_l2 at hB19456
        refine CW.at hf <| C_seq <| R_nd <| nq (Q_lss rfl rfl) rfl rfl <| WL_nil <| x_then <| C_seq ?_
        refine C_cond rfl (fun hb => ?_) (fun hb => ?_)
        · replace hB19456 := itT hb hB19456
          refine C_skip <| x_then <| C_seq <| C_block <| C_seq <| R_nd <| nq (Q_move rfl) rfl rfl <| nq (Q_assign rfl) rfl rfl <| WL_nil <| x_then <| R_nd <| nq (Q_move rfl) rfl rfl <| nq (Q_move rfl) rfl rfl ?_
          replace H := H.front 4 rfl
          dsimp only [List.eraseIdx] at H
          replace H := H.front 4 rfl
          dsimp only [List.eraseIdx] at H
          replace H := H.front 4 rfl
          dsimp only [List.eraseIdx] at H
          replace H := H.front 4 rfl
          dsimp only [List.eraseIdx] at H
          replace H := H.front 4 rfl
          dsimp only [List.eraseIdx] at H
          obtain ⟨q19459, hq19459, hB19456⟩ := bnd hB19456
          refine ne (E_call fn23 rfl (c_23 H  r4 r7 r10 gl14571 r14574 r19441 hq19459)) rfl rfl ?_
          rintro _ wd19465 ⟨v19461, c19462, x19463, rfl, rfl, r19464, H⟩
          try dsimp only at hB19456
          refine WL_nil <| x_block <| x_then <| R_nd <| nq (Q_add rfl rfl) rfl rfl <| nq (Q_move rfl) rfl rfl <| WL_nil ?_
          replace H := H.front 6 rfl
          dsimp only [List.eraseIdx] at H
          replace H := H.front 6 rfl
          dsimp only [List.eraseIdx] at H
          replace H := H.front 6 rfl
          dsimp only [List.eraseIdx] at H
          replace H := H.front 6 rfl
          dsimp only [List.eraseIdx] at H
          replace H := H.front 6 rfl
          dsimp only [List.eraseIdx] at H
          replace H := H.front 6 rfl
          dsimp only [List.eraseIdx] at H
          replace H := H.front 6 rfl
          dsimp only [List.eraseIdx] at H
          obtain rfl := Option.some.inj hB19456
          refine x_A fun a hf => ⟨_, rfl, v19461, c19462, x19463, w64 (x19442 + 1), rfl, r19464, hf.sub ⟨rfl, rfl, rfl, trivial⟩, H⟩
        · replace hB19456 := itF hb hB19456
          refine C_exit <| x_then_exit <| x_then_exit <| x_block_exit ?_
          replace H := H.front 6 rfl
          dsimp only [List.eraseIdx] at H
          replace H := H.front 6 rfl
          dsimp only [List.eraseIdx] at H
          replace H := H.front 6 rfl
          dsimp only [List.eraseIdx] at H
          replace H := H.front 6 rfl
          dsimp only [List.eraseIdx] at H
          replace H := H.front 6 rfl
          dsimp only [List.eraseIdx] at H
          replace H := H.front 6 rfl
          dsimp only [List.eraseIdx] at H
          replace H := H.front 6 rfl
          dsimp only [List.eraseIdx] at H
          obtain rfl := Option.some.inj hB19456
          obtain rfl := hO19457 _ rfl
          refine x_A fun a hf => ⟨v19438, c19439, x19440, rfl, r19441, hf.sub trivial, H⟩
    · rintro a wd19466 ⟨v19421, c19422, x19423, rfl, r19424, hf, H⟩
      try dsimp only at hF
      refine XX.at hf ?_
      replace H := H.front 2 rfl
      dsimp only [List.eraseIdx] at H
      replace H := H.front 2 rfl
      dsimp only [List.eraseIdx] at H
      replace H := H.front 4 rfl
      dsimp only [List.eraseIdx] at H
      replace H := H.front 4 rfl
      dsimp only [List.eraseIdx] at H
      replace H := H.front 6 rfl
      dsimp only [List.eraseIdx] at H
      replace H := H.front 6 rfl
      dsimp only [List.eraseIdx] at H
      replace H := H.front 6 rfl
      dsimp only [List.eraseIdx] at H
      obtain rfl := Option.some.inj hF
      exact fn_end (l := []) (vs := []) rfl rfl rfl ⟨(.slice (some ⟨b9756, 0, none⟩) (x3.length : Int).toNat (x3.length : Int).toNat), c14569, (.slice (some ⟨b9762, 0, none⟩) (x3.length : Int).toNat (x3.length : Int).toNat), c14572, v14575, c14576, v19421, c19422, x14570, x14573, x14577, x19423, rfl, rfl, gl14571, r14574, r19424, H⟩
theorem c_26 {N : Nat} {C : Cx} {w : World} {ρ : View} {hs : List Hl} {v1 : Value} {x2 : (List Int)} {x4 : Int} (H : Hp C w ρ (hs)) (r3 : RdSl ρ (eI .i64) v1 x2) {r : Int} (hF : F_slices_Index_int_int N x2 x4 = some r) :
    Calls Try.prog 26 [v1, .int .i64 x4].toArray w (Rets (fun v w' => (∃ (x63 : Int), x63 = r ∧ .int .i64 x63 = v ∧ Hp C w' ρ (hs)))) := by
  unfold F_slices_Index_int_int at hF
  have h0 : Try.f26.body = some _ := rfl
  refine fn_calls' Try.func26 h0 (n := 19) rfl (by simp) <| C_seq <| R_nd <| nq (Q_assign rfl) rfl rfl <| WL_nil <| x_then <| C_seq <| C_seq <| R_nd <| nq (Q_move rfl) rfl rfl <| nq (Q_len Try.underlying23 rfl r3) rfl rfl <| nq (Q_move rfl) rfl rfl <| WL_nil <| x_then ?_
  obtain ⟨o92, ho92, hF⟩ := bnd hF
  refine C_cutQ (fun a w' => .inl () = o92 ∧ Fr 19 a [] ∧ Hp C w' ρ (hs)) ?_ ?_
  · refine C_block ?_
    refine C_iter (f := fun s => F_slices_Index_int_int_l0 N x2 x4 s) ho92 (fun s a w' => ∃ (x101 : Int), x101 = s ∧ Fr 19 a [(0, v1), (1, .int .i64 x4), (7, .int .i64 (x2.length : Int)), (8, .int .i64 x101)] ∧ Hp C w' ρ (hs)) ?_ ?_
    · exact fun a hf => ⟨0, rfl, hf.sub ⟨rfl, rfl, rfl, rfl, trivial⟩, H⟩
    · rintro s o110 a wd113 ⟨x101, rfl, hf, H⟩ hB111 hO112
      replace hB111 : F_slices_Index_int_int_l0 N x2 x4 x101 = some o110 := hB111
      unfold F_slices_Index_int_int_l0 at hB111
      refine CW.at hf <| C_seq <| R_nd <| nq (Q_lss rfl rfl) rfl rfl <| WL_nil <| x_then <| C_seq ?_
      refine C_cond rfl (fun hb => ?_) (fun hb => ?_)
      · replace hB111 := itT hb hB111
        refine C_skip <| x_then <| C_seq <| C_block <| C_seq <| R_nd <| nq (Q_move rfl) rfl rfl <| nq (Q_assign rfl) rfl rfl <| WL_nil <| x_then <| C_seq <| R_nd <| nq (Q_move rfl) rfl rfl <| nq (Q_move rfl) rfl rfl ?_
        refine nq (Q_move rfl) rfl rfl ?_
        obtain ⟨x114, hx114, hB111⟩ := bnd hB111
        obtain ⟨b115, o116, c117, hc118, ha119, hi120⟩ := idxR r3 hx114
        refine nq (Q_idx hi120 Try.underlying23 ty3 rfl rfl) rfl rfl <| nq (v := .int .i64 x114) (Q_ld (show cellsAt _ _ _ [.int .i64 x114] from (show _ = [_] from hc118) ▸ (ha119.up H.ok.view)) ty3 rfl (fun _ => rfl) rfl rfl) rfl rfl <| nq (Q_eql rfl rfl) rfl rfl <| WL_nil <| x_then ?_
        refine C_cond rfl (fun hb => ?_) (fun hb => ?_)
        · replace hB111 := itT hb hB111
          refine C_seq <| R_nd <| nq (Q_move rfl) rfl rfl <| nq (Q_assign rfl) rfl rfl <| WL_nil <| x_then <| C_ret <| x_block_ret <| x_then_ret <| x_then_ret <| x_block_ret <| x_then_ret <| x_then_ret ?_
          obtain rfl := Option.some.inj hB111
          obtain rfl := hO112 _ rfl
          obtain rfl := Option.some.inj (show some _ = some _ from hF)
          exact fn_ret (l := [.tmp 4]) (vs := [.int .i64 x101]) rfl rfl rfl ⟨x101, rfl, rfl, H⟩
        · replace hB111 := itF hb hB111
          refine C_skip <| x_block <| x_then <| R_nd <| nq (Q_add rfl rfl) rfl rfl <| nq (Q_move rfl) rfl rfl <| WL_nil ?_
          obtain rfl := Option.some.inj hB111
          refine x_A fun a hf => ⟨_, rfl, w64 (x101 + 1), rfl, hf.sub ⟨rfl, rfl, rfl, rfl, trivial⟩, H⟩
      · replace hB111 := itF hb hB111
        refine C_exit <| x_then_exit <| x_then_exit <| x_block_exit ?_
        obtain rfl := Option.some.inj hB111
        obtain rfl := hO112 _ rfl
        refine x_A fun a hf => ⟨rfl, hf.sub trivial, H⟩
  · rintro a wd121 ⟨rfl, hf, H⟩
    try dsimp only at hF
    refine XX.at hf <| x_then <| C_seq <| R_nd <| nq (Q_assign rfl) rfl rfl <| WL_nil <| x_then <| C_ret ?_
    obtain rfl := Option.some.inj hF
    exact fn_ret (l := [.tmp 4]) (vs := [.int .i64 (-1)]) rfl rfl rfl ⟨(-1), rfl, rfl, H⟩
theorem c_24 {N : Nat} {C : Cx} {w : World} {ρ : View} {hs : List Hl} {v1 : Value} {x2 : (List Int)} {x4 : Int} (H : Hp C w ρ (hs)) (r3 : RdSl ρ (eI .i64) v1 x2) {r : Bool} (hF : F_slices_Contains_int_int N x2 x4 = some r) :
    Calls Try.prog 24 [v1, .int .i64 x4].toArray w (Rets (fun v w' => (∃ (x9 : Bool), x9 = r ∧ .bool x9 = v ∧ Hp C w' ρ (hs)))) := by
  unfold F_slices_Contains_int_int at hF
  have h0 : Try.f24.body = some _ := rfl
  refine fn_calls' Try.func24 h0 (n := 9) rfl (by simp) <| C_seq <| R_nd <| nq (Q_assign rfl) rfl rfl <| WL_nil <| x_then <| C_seq <| R_nd <| nq (Q_move rfl) rfl rfl <| nq (Q_move rfl) rfl rfl ?_
  obtain ⟨q10, hq10, hF⟩ := bnd hF
  refine ne (E_call fn26 rfl (c_26 H  r3 hq10)) rfl rfl ?_
  rintro _ wd13 ⟨x12, rfl, rfl, H⟩
  try dsimp only at hF
  refine nq (Q_geq rfl rfl) rfl rfl <| nq (Q_assign rfl) rfl rfl <| WL_nil <| x_then <| C_ret ?_
  obtain rfl := Option.some.inj hF
  exact fn_ret (l := [.tmp 4]) (vs := [.bool (decide (x12 ≥ 0))]) rfl rfl rfl ⟨decide (x12 ≥ 0), rfl, rfl, H⟩
theorem c_25 {N : Nat} {C : Cx} {w : World} {ρ : View} {hs : List Hl} {b1 : Nat} {v2 : Value} {v5 : Value} {v8 : Value} {v11 : Value} {c12 : List Value} {c15 : List Value} {v18 : Value} {v19 : Value} {c20 : List Value} {c22 : List Value} {v25 : Value} {v27 : Value} {x3 : (List (List Int))} {x6 : (List Int)} {x9 : (List Int)} {x13 : (List (List (List Int)))} {x16 : (List Int)} {x21 : (List (List Int))} {x23 : (List (Int × Int))} {x26 : Int} {x28 : (List Int)} (H : Hp C w ρ (Box b1 [v2, v5, v8, v11, v18, v19, v25] :: NA (eI .i64) 256 v11 c12 x13.flatten :: Arr v18 1 c15 :: NA (eI .i64) 1 v19 c20 x21 :: Arr v25 2 c22 :: hs)) (r4 : RdSl ρ (eA 256 (eI .i64)) v2 x3) (r7 : RdSl ρ (eI .i64) v5 x6) (r10 : RdSl ρ (eI .i64) v8 x9) (gl14 : ∀ a ∈ x13, a.length = 256) (r17 : rdL (eI .i64) ρ x16 c15) (r24 : rdL (eP (eI .i64) (eI .u8)) ρ x23 c22) (r29 : RdSl ρ (eI .i64) v27 x28) {r : ((List Int) × (List (List Int)) × (List (Int × Int)))} (hF : F_hopcroft_splitter_split N x3 x6 x9 x13 x16 x21 x23 x26 x28 = some r) :
    Calls Try.prog 25 [.pointer (some ⟨b1, 0, none⟩), .int .i64 x26, v27].toArray w (Rets (fun v w' => (∃ (c957 : (List Value)) (v960 : Value) (c961 : (List Value)) (v963 : Value) (c964 : (List Value)) (x958 : (List Int)) (x962 : (List (List Int))) (x965 : (List (Int × Int))), (x958, x962, x965) = r ∧ .tuple [].toArray = v ∧ rdL (eI .i64) ρ x958 c957 ∧ rdL (eP (eI .i64) (eI .u8)) ρ x965 c964 ∧ Hp C w' ρ (Box b1 [v2, v5, v8, v11, v18, v960, v963] :: NA (eI .i64) 256 v11 c12 x13.flatten :: Arr v18 1 c957 :: NA (eI .i64) 1 v960 c961 x962 :: Arr v963 2 c964 :: hs)))) := by
  unfold F_hopcroft_splitter_split at hF
  have h0 : Try.f25.body = some _ := rfl
  refine fn_calls' Try.func25 h0 (n := 91) rfl (by simp) <| C_seq <| R_nd <| nq (Q_assign rfl) rfl rfl <| nq (Q_assign rfl) rfl rfl <| WL_nil <| x_then <| C_seq <| C_seq <| R_nd <| nq (Q_move rfl) rfl rfl <| nq (Q_nilP rfl) rfl rfl <| nq (v := .pointer (some ⟨b1, 5, none⟩)) (Q_fld Try.underlying60 rfl ty51 (by decide) rfl rfl) rfl rfl <| nq (v := v19) (Q_ldB (k := 0) (cs := [v19]) H.ok rfl ty51 rfl rfl rfl (fun _ => rfl) rfl) rfl rfl ?_
  refine nq (Q_move rfl) rfl rfl ?_
  obtain ⟨x967, hx967, hF⟩ := bnd hF
  obtain ⟨b968, o969, u971, hi970, hu972, ha973, hl974, hj975⟩ := na_at1 (by decide) (H.okS (l := [NA (eI .i64) 1 v19 c20 x21]) (by simp)) hx967
  refine nq (Q_idx hi970 Try.underlying51 ty23 rfl rfl) rfl rfl <| nq (v := u971) (Q_ld (ha973 _ (Ok.subS (by simp) H.ok)) ty23 rfl (fun _ => rfl) rfl rfl) rfl rfl <| nq (v := .int .i64 (x967.length : Int)) (Q_lenI hl974 Try.underlying23 rfl) rfl rfl <| nq (Q_move rfl) rfl rfl <| WL_nil <| x_then ?_
  obtain ⟨o1351, ho1351, hF⟩ := bnd hF
  refine C_cutQ (fun a w' => ∃ (v1343 : Value) (c1344 : (List Value)) (v1347 : Value) (c1348 : (List Value)) (x1345 : (List Int)) (x1349 : (List Int)), (x1345, x1349) = o1351 ∧ rdL (eI .i64) ρ x1345 c1344 ∧ rdL (eI .i64) ρ x1349 c1348 ∧ Fr 91 a [(0, .pointer (some ⟨b1, 0, none⟩)), (1, .int .i64 x26), (6, v1343), (7, v1347)] ∧ Hp C w' ρ (Box b1 [v2, v5, v8, v11, v18, v19, v25] :: NA (eI .i64) 256 v11 c12 x13.flatten :: Arr v18 1 c15 :: NA (eI .i64) 1 v19 c20 x21 :: Arr v25 2 c22 :: Arr v1343 1 c1344 :: Arr v1347 1 c1348 :: hs)) ?_ ?_
  · refine C_block ?_
    have H := H.nilArr 1
    have H := H.nilArr 1
    replace H := H.front 1 rfl
    dsimp only [List.eraseIdx] at H
    replace H := H.front 6 rfl
    dsimp only [List.eraseIdx] at H
    replace H := H.front 6 rfl
    dsimp only [List.eraseIdx] at H
    replace H := H.front 6 rfl
    dsimp only [List.eraseIdx] at H
    replace H := H.front 6 rfl
    dsimp only [List.eraseIdx] at H
    replace H := H.front 6 rfl
    dsimp only [List.eraseIdx] at H
    refine C_iter (f := fun s => F_hopcroft_splitter_split_l0 N x28 x967 s.1 s.2.1 s.2.2) ho1351 (fun s a w' => ∃ (v1474 : Value) (c1475 : (List Value)) (v1478 : Value) (c1479 : (List Value)) (x1473 : Int) (x1476 : (List Int)) (x1480 : (List Int)), (x1473, x1476, x1480) = s ∧ rdL (eI .i64) ρ x1476 c1475 ∧ rdL (eI .i64) ρ x1480 c1479 ∧ Fr 91 a [(0, .pointer (some ⟨b1, 0, none⟩)), (1, .int .i64 x26), (2, v27), (6, v1474), (7, v1478), (19, u971), (20, .int .i64 (x967.length : Int)), (21, .int .i64 x1473)] ∧ Hp C w' ρ (Box b1 [v2, v5, v8, v11, v18, v19, v25] :: NA (eI .i64) 256 v11 c12 x13.flatten :: Arr v18 1 c15 :: NA (eI .i64) 1 v19 c20 x21 :: Arr v25 2 c22 :: Arr v1474 1 c1475 :: Arr v1478 1 c1479 :: hs)) ?_ ?_
    · exact fun a hf => ⟨(.slice none 0 0), [], (.slice none 0 0), [], 0, [], [], rfl, rdL.nil, rdL.nil, hf.sub ⟨rfl, rfl, rfl, rfl, rfl, rfl, rfl, rfl, trivial⟩, H⟩
    · rintro s o1603 a wd1606 ⟨v1474, c1475, v1478, c1479, x1473, x1476, x1480, rfl, r1477, r1481, hf, H⟩ hB1604 hO1605
      replace hB1604 : F_hopcroft_splitter_split_l0 N x28 x967 x1473 x1476 x1480 = some o1603 := hB1604
      unfold F_hopcroft_splitter_split_l0 at hB1604
      refine CW.at hf <| C_seq <| R_nd <| nq (Q_lss rfl rfl) rfl rfl <| WL_nil <| x_then <| C_seq ?_
      refine C_cond rfl (fun hb => ?_) (fun hb => ?_)
      · replace hB1604 := itT hb hB1604
        refine C_skip <| x_then ?_
        obtain ⟨o1666, ho1666, hB1604⟩ := bnd hB1604
        refine C_cut (fun a w' => ∃ (v1658 : Value) (c1659 : (List Value)) (v1662 : Value) (c1663 : (List Value)) (x1660 : (List Int)) (x1664 : (List Int)), (x1660, x1664) = o1666 ∧ rdL (eI .i64) ρ x1660 c1659 ∧ rdL (eI .i64) ρ x1664 c1663 ∧ Fr 91 a [(0, .pointer (some ⟨b1, 0, none⟩)), (1, .int .i64 x26), (2, v27), (6, v1658), (7, v1662), (19, u971), (20, .int .i64 (x967.length : Int)), (21, .int .i64 x1473)] ∧ Hp C w' ρ (Box b1 [v2, v5, v8, v11, v18, v19, v25] :: NA (eI .i64) 256 v11 c12 x13.flatten :: Arr v18 1 c15 :: NA (eI .i64) 1 v19 c20 x21 :: Arr v25 2 c22 :: Arr v1658 1 c1659 :: Arr v1662 1 c1663 :: hs)) ?_ ?_
        · refine C_block <| C_seq <| R_nd ?_
          obtain ⟨x1667, hx1667, ho1666⟩ := bnd ho1666
          obtain ⟨b1668, o1669, hi1670, ha1671⟩ := inn_at (by decide) (H.okS (l := [NA (eI .i64) 1 v19 c20 x21]) (by simp)) hu972 hj975 hx1667
          refine nq (Q_idx hi1670 Try.underlying23 ty3 rfl rfl) rfl rfl <| nq (v := .int .i64 x1667) (Q_ld (show cellsAt _ _ _ [.int .i64 x1667] from match ha1671 _ (Ok.subS (by simp) H.ok) with | ⟨_, rfl, h⟩ => h) ty3 rfl (fun _ => rfl) rfl rfl) rfl rfl <| nq (Q_assign rfl) rfl rfl <| WL_nil <| x_then <| C_seq <| R_nd <| nq (Q_move rfl) rfl rfl <| nq (Q_move rfl) rfl rfl ?_
          obtain ⟨q1672, hq1672, ho1666⟩ := bnd ho1666
          refine ne (E_call fn24 rfl (c_24 H  r29 hq1672)) rfl rfl ?_
          rintro _ wd1675 ⟨x1674, rfl, rfl, H⟩
          try dsimp only at ho1666
          refine WL_nil <| x_then ?_
          obtain ⟨o1700, ho1700, ho1666⟩ := bnd ho1666
          refine C_cutQ (fun a w' => ∃ (v1692 : Value) (c1693 : (List Value)) (v1696 : Value) (c1697 : (List Value)) (x1694 : (List Int)) (x1698 : (List Int)), (x1694, x1698) = o1700 ∧ rdL (eI .i64) ρ x1694 c1693 ∧ rdL (eI .i64) ρ x1698 c1697 ∧ Fr 91 a [(0, .pointer (some ⟨b1, 0, none⟩)), (1, .int .i64 x26), (2, v27), (6, v1692), (7, v1696), (19, u971), (20, .int .i64 (x967.length : Int)), (21, .int .i64 x1473)] ∧ Hp C w' ρ (Box b1 [v2, v5, v8, v11, v18, v19, v25] :: NA (eI .i64) 256 v11 c12 x13.flatten :: Arr v18 1 c15 :: NA (eI .i64) 1 v19 c20 x21 :: Arr v25 2 c22 :: Arr v1692 1 c1693 :: Arr v1696 1 c1697 :: hs)) ?_ ?_
          · refine C_cond rfl (fun hb => ?_) (fun hb => ?_)
            · replace ho1700 := itT hb ho1700
              refine R_nd <| nq (Q_move rfl) rfl rfl <| nq (Q_move rfl) rfl rfl <| ne (E_bslice (xs := [.tmp 29]) (vs := [.int .i64 x1667]) H Try.underlying23 ty3 (by decide) (cs := [.int .i64 x1667]) rfl (sz_cons rfl sz_nil) rfl (by simp) (by simp) rfl rfl) rfl rfl ?_
              rintro _ wd1702 ⟨b1701, rfl, H⟩
              obtain ⟨x1703, hx1703, ho1700⟩ := bnd ho1700
              obtain ⟨ha1704a, ha1704b⟩ := app_some hx1703
              have r1706 : rdL (eI .i64) ρ x1703 (c1475 ++ ([.int .i64 x1667])) := ha1704b ▸ rdL.app r1477 (show rdL (eI .i64) ρ ([x1667]) ([.int .i64 x1667]) from ⟨([.int .i64 x1667]), _, rfl, rfl, rdL.nil⟩)
              refine ne (E_append (k := 6) H rfl Try.underlying23 ty3 rfl (by decide) (by decide) rfl rfl (Src.ofArr (k := 0) H.ok rfl) (rdL.one (show rdL (eI .i64) ρ ([x1667]) ([.int .i64 x1667]) from ⟨([.int .i64 x1667]), _, rfl, rfl, rdL.nil⟩)) (app_fit r1477 (show rdL (eI .i64) ρ ([x1667]) ([.int .i64 x1667]) from ⟨([.int .i64 x1667]), _, rfl, rfl, rdL.nil⟩) ha1704a)) rfl rfl ?_
              rintro v1705 wd1708 ⟨H, hc1707⟩
              dsimp only [List.set] at H
              refine nq (Q_assign rfl) rfl rfl <| WL_nil ?_
              replace H := H.front 7 rfl
              dsimp only [List.eraseIdx] at H
              replace H := H.front 7 rfl
              dsimp only [List.eraseIdx] at H
              replace H := H.front 7 rfl
              dsimp only [List.eraseIdx] at H
              replace H := H.front 7 rfl
              dsimp only [List.eraseIdx] at H
              replace H := H.front 7 rfl
              dsimp only [List.eraseIdx] at H
              replace H := H.front 7 rfl
              dsimp only [List.eraseIdx] at H
              replace H := H.front 7 rfl
              dsimp only [List.eraseIdx] at H
              replace H := H.drop 7 rfl
              dsimp only [List.eraseIdx] at H
              obtain rfl := Option.some.inj ho1700
              refine x_A fun a hf => ⟨v1705, (c1475 ++ ([.int .i64 x1667])), v1478, c1479, x1703, x1480, rfl, r1706, r1481, hf.sub ⟨rfl, rfl, rfl, rfl, rfl, rfl, rfl, rfl, trivial⟩, H⟩
            · replace ho1700 := itF hb ho1700
              refine R_nd <| nq (Q_move rfl) rfl rfl <| nq (Q_move rfl) rfl rfl <| ne (E_bslice (xs := [.tmp 33]) (vs := [.int .i64 x1667]) H Try.underlying23 ty3 (by decide) (cs := [.int .i64 x1667]) rfl (sz_cons rfl sz_nil) rfl (by simp) (by simp) rfl rfl) rfl rfl ?_
              rintro _ wd1710 ⟨b1709, rfl, H⟩
              obtain ⟨x1711, hx1711, ho1700⟩ := bnd ho1700
              obtain ⟨ha1712a, ha1712b⟩ := app_some hx1711
              have r1714 : rdL (eI .i64) ρ x1711 (c1479 ++ ([.int .i64 x1667])) := ha1712b ▸ rdL.app r1481 (show rdL (eI .i64) ρ ([x1667]) ([.int .i64 x1667]) from ⟨([.int .i64 x1667]), _, rfl, rfl, rdL.nil⟩)
              refine ne (E_append (k := 7) H rfl Try.underlying23 ty3 rfl (by decide) (by decide) rfl rfl (Src.ofArr (k := 0) H.ok rfl) (rdL.one (show rdL (eI .i64) ρ ([x1667]) ([.int .i64 x1667]) from ⟨([.int .i64 x1667]), _, rfl, rfl, rdL.nil⟩)) (app_fit r1481 (show rdL (eI .i64) ρ ([x1667]) ([.int .i64 x1667]) from ⟨([.int .i64 x1667]), _, rfl, rfl, rdL.nil⟩) ha1712a)) rfl rfl ?_
              rintro v1713 wd1716 ⟨H, hc1715⟩
              dsimp only [List.set] at H
              refine nq (Q_assign rfl) rfl rfl <| WL_nil ?_
              replace H := H.front 7 rfl
              dsimp only [List.eraseIdx] at H
              replace H := H.front 7 rfl
              dsimp only [List.eraseIdx] at H
              replace H := H.front 7 rfl
              dsimp only [List.eraseIdx] at H
              replace H := H.front 7 rfl
              dsimp only [List.eraseIdx] at H
              replace H := H.front 7 rfl
              dsimp only [List.eraseIdx] at H
              replace H := H.front 7 rfl
              dsimp only [List.eraseIdx] at H
              replace H := H.front 7 rfl
              dsimp only [List.eraseIdx] at H
              replace H := H.drop 7 rfl
              dsimp only [List.eraseIdx] at H
              obtain rfl := Option.some.inj ho1700
              refine x_A fun a hf => ⟨v1474, c1475, v1713, (c1479 ++ ([.int .i64 x1667])), x1476, x1711, rfl, r1477, r1714, hf.sub ⟨rfl, rfl, rfl, rfl, rfl, rfl, rfl, rfl, trivial⟩, H⟩
          · rintro a wd1717 ⟨v1692, c1693, v1696, c1697, x1694, x1698, rfl, r1695, r1699, hf, H⟩
            try dsimp only at ho1666
            refine XX.at hf <| x_block ?_
            replace H := H.front 6 rfl
            dsimp only [List.eraseIdx] at H
            replace H := H.front 6 rfl
            dsimp only [List.eraseIdx] at H
            replace H := H.front 6 rfl
            dsimp only [List.eraseIdx] at H
            replace H := H.front 6 rfl
            dsimp only [List.eraseIdx] at H
            replace H := H.front 6 rfl
            dsimp only [List.eraseIdx] at H
            replace H := H.front 6 rfl
            dsimp only [List.eraseIdx] at H
            replace H := H.front 6 rfl
            dsimp only [List.eraseIdx] at H
            obtain rfl := Option.some.inj ho1666
            refine x_A fun a hf => ⟨v1692, c1693, v1696, c1697, x1694, x1698, rfl, r1695, r1699, hf.sub ⟨rfl, rfl, rfl, rfl, rfl, rfl, rfl, rfl, trivial⟩, H⟩
        · rintro a wd1718 ⟨v1658, c1659, v1662, c1663, x1660, x1664, rfl, r1661, r1665, hf, H⟩
          try dsimp only at hB1604
          refine CW.at hf <| R_nd <| nq (Q_add rfl rfl) rfl rfl <| nq (Q_move rfl) rfl rfl <| WL_nil ?_
          replace H := H.front 6 rfl
          dsimp only [List.eraseIdx] at H
          replace H := H.front 6 rfl
          dsimp only [List.eraseIdx] at H
          replace H := H.front 6 rfl
          dsimp only [List.eraseIdx] at H
          replace H := H.front 6 rfl
          dsimp only [List.eraseIdx] at H
          replace H := H.front 6 rfl
          dsimp only [List.eraseIdx] at H
          replace H := H.front 6 rfl
          dsimp only [List.eraseIdx] at H
          replace H := H.front 6 rfl
          dsimp only [List.eraseIdx] at H
          obtain rfl := Option.some.inj hB1604
          refine x_A fun a hf => ⟨_, rfl, v1658, c1659, v1662, c1663, w64 (x1473 + 1), x1660, x1664, rfl, r1661, r1665, hf.sub ⟨rfl, rfl, rfl, rfl, rfl, rfl, rfl, rfl, trivial⟩, H⟩
      · replace hB1604 := itF hb hB1604
        refine C_exit <| x_then_exit <| x_then_exit <| x_block_exit ?_
        replace H := H.front 6 rfl
        dsimp only [List.eraseIdx] at H
        replace H := H.front 6 rfl
        dsimp only [List.eraseIdx] at H
        replace H := H.front 6 rfl
        dsimp only [List.eraseIdx] at H
        replace H := H.front 6 rfl
        dsimp only [List.eraseIdx] at H
        replace H := H.front 6 rfl
        dsimp only [List.eraseIdx] at H
        replace H := H.front 6 rfl
        dsimp only [List.eraseIdx] at H
        replace H := H.front 6 rfl
        dsimp only [List.eraseIdx] at H
        obtain rfl := Option.some.inj hB1604
        obtain rfl := hO1605 _ rfl
        refine x_A fun a hf => ⟨v1474, c1475, v1478, c1479, x1476, x1480, rfl, r1477, r1481, hf.sub ⟨rfl, rfl, rfl, rfl, trivial⟩, H⟩
  · rintro a wd1719 ⟨v1343, c1344, v1347, c1348, x1345, x1349, rfl, r1346, r1350, hf, H⟩
    try dsimp only at hF
    refine XX.at hf <| x_then <| C_seq ?_
    obtain ⟨o1721, ho1721, hF⟩ := bnd hF
    refine C_cut (fun a w' => ∃ (x1720 : Bool), x1720 = o1721 ∧ Fr 91 a [(0, .pointer (some ⟨b1, 0, none⟩)), (1, .int .i64 x26), (6, v1343), (7, v1347), (44, .bool x1720)] ∧ Hp C w' ρ (Box b1 [v2, v5, v8, v11, v18, v19, v25] :: NA (eI .i64) 256 v11 c12 x13.flatten :: Arr v18 1 c15 :: NA (eI .i64) 1 v19 c20 x21 :: Arr v25 2 c22 :: Arr v1343 1 c1344 :: Arr v1347 1 c1348 :: hs)) ?_ ?_
    · refine R_nd <| nq (Q_move rfl) rfl rfl <| nq (Q_lenA (k := 5) H.ok rfl r1346 (by decide) Try.underlying23 rfl) rfl rfl <| nq (Q_eql rfl rfl) rfl rfl <| nq (Q_move rfl) rfl rfl ?_
      rcases Bool.eq_false_or_eq_true ((x1345.length : Int) == 0) with hb | hb
      · rw [hb]
        replace ho1721 := itT hb ho1721
        refine gs rfl rfl rfl rfl <| gs rfl rfl rfl rfl <| gs rfl rfl rfl rfl <| nq (Q_pickT rfl rfl) rfl rfl <| WL_nil ?_
        replace H := H.front 6 rfl
        dsimp only [List.eraseIdx] at H
        replace H := H.front 6 rfl
        dsimp only [List.eraseIdx] at H
        replace H := H.front 6 rfl
        dsimp only [List.eraseIdx] at H
        replace H := H.front 6 rfl
        dsimp only [List.eraseIdx] at H
        replace H := H.front 6 rfl
        dsimp only [List.eraseIdx] at H
        replace H := H.front 6 rfl
        dsimp only [List.eraseIdx] at H
        replace H := H.front 6 rfl
        dsimp only [List.eraseIdx] at H
        obtain rfl := Option.some.inj ho1721
        refine x_A fun a hf => ⟨true, rfl, hf.sub ⟨rfl, rfl, rfl, rfl, rfl, trivial⟩, H⟩
      · rw [hb]
        replace ho1721 := itF hb ho1721
        refine gq (Q_move rfl) rfl rfl rfl <| gq (Q_lenA (k := 6) H.ok rfl r1350 (by decide) Try.underlying23 rfl) rfl rfl rfl <| gq (Q_eql rfl rfl) rfl rfl rfl <| nq (Q_pickF rfl rfl) rfl rfl <| WL_nil ?_
        replace H := H.front 6 rfl
        dsimp only [List.eraseIdx] at H
        replace H := H.front 6 rfl
        dsimp only [List.eraseIdx] at H
        replace H := H.front 6 rfl
        dsimp only [List.eraseIdx] at H
        replace H := H.front 6 rfl
        dsimp only [List.eraseIdx] at H
        replace H := H.front 6 rfl
        dsimp only [List.eraseIdx] at H
        replace H := H.front 6 rfl
        dsimp only [List.eraseIdx] at H
        replace H := H.front 6 rfl
        dsimp only [List.eraseIdx] at H
        obtain rfl := Option.some.inj ho1721
        refine x_A fun a hf => ⟨(x1349.length : Int) == 0, rfl, hf.sub ⟨rfl, rfl, rfl, rfl, rfl, trivial⟩, H⟩
    · rintro a wd1722 ⟨x1720, rfl, hf, H⟩
      try dsimp only at hF
      refine CW.at hf ?_
      refine C_cond rfl (fun hb => ?_) (fun hb => ?_)
      · replace hF := itT hb hF
        refine C_ret <| x_then_ret ?_
        replace H := H.front 4 rfl
        dsimp only [List.eraseIdx] at H
        replace H := H.front 4 rfl
        dsimp only [List.eraseIdx] at H
        replace H := H.front 4 rfl
        dsimp only [List.eraseIdx] at H
        replace H := H.front 4 rfl
        dsimp only [List.eraseIdx] at H
        replace H := H.front 4 rfl
        dsimp only [List.eraseIdx] at H
        replace H := H.drop 5 rfl
        dsimp only [List.eraseIdx] at H
        replace H := H.drop 5 rfl
        dsimp only [List.eraseIdx] at H
        obtain rfl := Option.some.inj hF
        exact fn_ret (l := []) (vs := []) rfl rfl rfl ⟨c15, v19, c20, v25, c22, x16, x21, x23, rfl, rfl, r17, r24, H⟩
      · replace hF := itF hb hF
        refine C_skip <| x_then <| C_seq <| C_seq <| R_nd <| nq (Q_move rfl) rfl rfl <| nq (Q_lenA (k := 5) H.ok rfl r1346 (by decide) Try.underlying23 rfl) rfl rfl <| nq (Q_move rfl) rfl rfl <| nq (Q_lenA (k := 6) H.ok rfl r1350 (by decide) Try.underlying23 rfl) rfl rfl <| nq (Q_lss rfl rfl) rfl rfl <| WL_nil <| x_then ?_
        obtain ⟨o1731, ho1731, hF⟩ := bnd hF
        refine C_cutQ (fun a w' => ∃ (v1723 : Value) (c1724 : (List Value)) (v1727 : Value) (c1728 : (List Value)) (x1725 : (List Int)) (x1729 : (List Int)), (x1725, x1729) = o1731 ∧ rdL (eI .i64) ρ x1725 c1724 ∧ rdL (eI .i64) ρ x1729 c1728 ∧ Fr 91 a [(0, .pointer (some ⟨b1, 0, none⟩)), (1, .int .i64 x26), (6, v1723), (7, v1727)] ∧ Hp C w' ρ (Box b1 [v2, v5, v8, v11, v18, v19, v25] :: NA (eI .i64) 256 v11 c12 x13.flatten :: Arr v18 1 c15 :: NA (eI .i64) 1 v19 c20 x21 :: Arr v25 2 c22 :: Arr v1723 1 c1724 :: Arr v1727 1 c1728 :: hs)) ?_ ?_
        · refine C_cond rfl (fun hb => ?_) (fun hb => ?_)
          · replace ho1731 := itT hb ho1731
            refine R_nd <| nq (Q_move rfl) rfl rfl <| nq (Q_move rfl) rfl rfl <| nq (Q_assign rfl) rfl rfl <| nq (Q_assign rfl) rfl rfl <| WL_nil ?_
            replace H := H.front 5 rfl
            dsimp only [List.eraseIdx] at H
            replace H := H.front 6 rfl
            dsimp only [List.eraseIdx] at H
            replace H := H.front 6 rfl
            dsimp only [List.eraseIdx] at H
            replace H := H.front 6 rfl
            dsimp only [List.eraseIdx] at H
            replace H := H.front 6 rfl
            dsimp only [List.eraseIdx] at H
            replace H := H.front 6 rfl
            dsimp only [List.eraseIdx] at H
            replace H := H.front 6 rfl
            dsimp only [List.eraseIdx] at H
            obtain rfl := Option.some.inj ho1731
            refine x_A fun a hf => ⟨v1347, c1348, v1343, c1344, x1349, x1345, rfl, r1350, r1346, hf.sub ⟨rfl, rfl, rfl, rfl, trivial⟩, H⟩
          · replace ho1731 := itF hb ho1731
            refine C_skip ?_
            replace H := H.front 6 rfl
            dsimp only [List.eraseIdx] at H
            replace H := H.front 6 rfl
            dsimp only [List.eraseIdx] at H
            replace H := H.front 6 rfl
            dsimp only [List.eraseIdx] at H
            replace H := H.front 6 rfl
            dsimp only [List.eraseIdx] at H
            replace H := H.front 6 rfl
            dsimp only [List.eraseIdx] at H
            replace H := H.front 6 rfl
            dsimp only [List.eraseIdx] at H
            replace H := H.front 6 rfl
            dsimp only [List.eraseIdx] at H
            obtain rfl := Option.some.inj ho1731
            refine x_A fun a hf => ⟨v1343, c1344, v1347, c1348, x1345, x1349, rfl, r1346, r1350, hf.sub ⟨rfl, rfl, rfl, rfl, trivial⟩, H⟩
        · rintro a wd1732 ⟨v1723, c1724, v1727, c1728, x1725, x1729, rfl, r1726, r1730, hf, H⟩
          try dsimp only at hF
          refine XX.at hf <| x_then <| C_seq <| R_nd <| nq (Q_move rfl) rfl rfl <| nq (Q_nilP rfl) rfl rfl <| nq (v := .pointer (some ⟨b1, 5, none⟩)) (Q_fld Try.underlying60 rfl ty51 (by decide) rfl rfl) rfl rfl <| nq (v := v19) (Q_ldB (k := 0) (cs := [v19]) H.ok rfl ty51 rfl rfl rfl (fun _ => rfl) rfl) rfl rfl <| nq (v := .int .i64 (x21.length : Int)) (na_len (k := 3) H.ok rfl (N := x21.length) (Nat.mul_one _).symm (by decide) Try.underlying51 rfl) rfl rfl <| nq (Q_assign rfl) rfl rfl <| WL_nil <| x_then <| C_seq <| R_nd ?_
          refine nq (Q_move rfl) rfl rfl <| nq (Q_nilP rfl) rfl rfl <| nq (v := .pointer (some ⟨b1, 5, none⟩)) (Q_fld Try.underlying60 rfl ty51 (by decide) rfl rfl) rfl rfl <| nq (v := v19) (Q_ldB (k := 0) (cs := [v19]) H.ok rfl ty51 rfl rfl rfl (fun _ => rfl) rfl) rfl rfl <| nq (Q_move rfl) rfl rfl <| nq (Q_move rfl) rfl rfl ?_
          obtain ⟨x1733, hx1733, hF⟩ := bnd hF
          obtain ⟨b1734, o1735, u1737, hi1736, hu1738, ha1739, hl1740, hj1741⟩ := na_at1 (by decide) (H.okS (l := [NA (eI .i64) 1 v19 c20 x21]) (by simp)) hx1733
          refine nq (Q_idx hi1736 Try.underlying51 ty23 rfl rfl) rfl rfl ?_
          replace H := H.front 3 rfl
          dsimp only [List.eraseIdx] at H
          replace H := H.nlet hu1738
          replace H := H.front 5 rfl
          dsimp only [List.eraseIdx] at H
          have hl1742 := arr_len (en := (eI .i64)) (by decide) (H.ok.get (k := 0) rfl) r1726
          obtain ⟨x1743, hx1743, hF⟩ := bnd hF
          refine ne (E_stN1 (flat_I _) H ty23 hi1736 rfl rfl r1726 hx1743) rfl rfl ?_
          rintro _ wd1744 H
          refine WL_nil <| x_then <| C_seq <| R_nd <| nq (Q_move rfl) rfl rfl <| nq (Q_move rfl) rfl rfl <| nq (Q_nilP rfl) rfl rfl <| nq (v := .pointer (some ⟨b1, 5, none⟩)) (Q_fld Try.underlying60 rfl ty51 (by decide) rfl rfl) rfl rfl <| nq (v := v19) (Q_ldB (k := 1) (cs := [v19]) H.ok rfl ty51 rfl rfl rfl (fun _ => rfl) rfl) rfl rfl <| nq (Q_move rfl) rfl rfl ?_
          replace H := H.front 5 rfl
          dsimp only [List.eraseIdx] at H
          have hl1746 := arr_len (en := (eI .i64)) (by decide) (H.ok.get (k := 0) rfl) r1730
          refine ne (E_bslice (xs := [.tmp 69]) (vs := [v1727]) H Try.underlying51 ty23 (by decide) (cs := [v1727]) rfl (sz_cons (by rw [(arr_cells (H.ok.get (k := 0) rfl)).1]; rfl) sz_nil) (fm1 (arr_cells (H.ok.get (k := 0) rfl)).1) (by simp) (by simp) rfl rfl) rfl rfl ?_
          rintro _ wd1747 ⟨b1745, rfl, H⟩
          replace H := Hp.njoin1 (flat_I _) H r1730
          obtain ⟨x1748, hx1748, hF⟩ := bnd hF
          replace H := H.front 1 rfl
          dsimp only [List.eraseIdx] at H
          obtain ⟨hu1750, hj1751⟩ := app_alias (ds := [v1727]) (j := 0) (u := v1727) (x := x1729) (H.okS (l := [NA (eI .i64) 1 v19 (c20.set x26.toNat v1723) x1743]) (by simp)) hx1748 rfl rfl
          refine ne (E_appN1 H Try.underlying51 ty23 rfl (by decide) rfl rfl hx1748) rfl rfl ?_
          rintro u1749 wd1752 H
          refine nq (Q_nilP rfl) rfl rfl <| nq (v := .pointer (some ⟨b1, 5, none⟩)) (Q_fld Try.underlying60 rfl ty51 (by decide) rfl rfl) rfl rfl <| ne (E_stB (k := 1) (cs := [u1749]) (vs' := [v2, v5, v8, v11, v18, u1749, v25]) H rfl ty51 rfl rfl (arr_cells (H.ok.get (k := 0) rfl).1).1 rfl (one_cons (arr_cells (H.ok.get (k := 0) rfl).1).2 one_nil) (by simp) rfl) rfl rfl ?_
          rintro _ wd1753 H
          dsimp only [List.set] at H
          refine WL_nil <| x_then <| C_seq <| C_seq <| R_nd <| nq (Q_move rfl) rfl rfl <| nq (v := .int .i64 (x1729.length : Int)) (Q_lenI hl1746 Try.underlying23 rfl) rfl rfl <| nq (Q_move rfl) rfl rfl <| WL_nil <| x_then ?_
          obtain ⟨o1821, ho1821, hF⟩ := bnd hF
          refine C_cutQ (fun a w' => ∃ (c1818 : (List Value)) (x1819 : (List Int)), x1819 = o1821 ∧ rdL (eI .i64) ρ x1819 c1818 ∧ Fr 91 a [(0, .pointer (some ⟨b1, 0, none⟩)), (10, .int .i64 (x21.length : Int))] ∧ Hp C w' ρ (Box b1 [v2, v5, v8, v11, v18, u1749, v25] :: NA (eI .i64) 256 v11 c12 x13.flatten :: Arr v18 1 c1818 :: NA (eI .i64) 1 u1749 ((c20.set x26.toNat v1723) ++ ([v1727])) x1748 :: Arr v25 2 c22 :: hs)) ?_ ?_
          · refine C_block ?_
            replace H := H.front 4 rfl
            dsimp only [List.eraseIdx] at H
            replace H := H.front 1 rfl
            dsimp only [List.eraseIdx] at H
            replace H := H.front 4 rfl
            dsimp only [List.eraseIdx] at H
            replace H := H.front 4 rfl
            dsimp only [List.eraseIdx] at H
            replace H := H.front 4 rfl
            dsimp only [List.eraseIdx] at H
            refine C_iter (f := fun s => F_hopcroft_splitter_split_l1 N x21 x1729 s.1 s.2) ho1821 (fun s a w' => ∃ (c1842 : (List Value)) (x1843 : (List Int)) (x1845 : Int), (x1843, x1845) = s ∧ rdL (eI .i64) ρ x1843 c1842 ∧ Fr 91 a [(0, .pointer (some ⟨b1, 0, none⟩)), (10, .int .i64 (x21.length : Int)), (74, v1727), (75, .int .i64 (x1729.length : Int)), (76, .int .i64 x1845)] ∧ Hp C w' ρ (Box b1 [v2, v5, v8, v11, v18, u1749, v25] :: NA (eI .i64) 256 v11 c12 x13.flatten :: Arr v18 1 c1842 :: NA (eI .i64) 1 u1749 ((c20.set x26.toNat v1723) ++ ([v1727])) x1748 :: Arr v25 2 c22 :: hs)) ?_ ?_
            · exact fun a hf => ⟨c15, x16, 0, rfl, r17, hf.sub ⟨rfl, rfl, rfl, rfl, rfl, trivial⟩, H⟩
            · rintro s o1866 a wd1869 ⟨c1842, x1843, x1845, rfl, r1844, hf, H⟩ hB1867 hO1868
              replace hB1867 : F_hopcroft_splitter_split_l1 N x21 x1729 x1843 x1845 = some o1866 := hB1867
              unfold F_hopcroft_splitter_split_l1 at hB1867
              refine CW.at hf <| C_seq <| R_nd <| nq (Q_lss rfl rfl) rfl rfl <| WL_nil <| x_then <| C_seq ?_
              refine C_cond rfl (fun hb => ?_) (fun hb => ?_)
              · replace hB1867 := itT hb hB1867
                refine C_skip <| x_then <| C_seq <| C_block <| C_seq <| R_nd ?_
                obtain ⟨x1870, hx1870, hB1867⟩ := bnd hB1867
                obtain ⟨b1871, o1872, hi1873, ha1874⟩ := inn_at (by decide) (H.okS (l := [NA (eI .i64) 1 u1749 ((c20.set x26.toNat v1723) ++ ([v1727])) x1748]) (by simp)) hu1750 hj1751 hx1870
                refine nq (Q_idx hi1873 Try.underlying23 ty3 rfl rfl) rfl rfl <| nq (v := .int .i64 x1870) (Q_ld (show cellsAt _ _ _ [.int .i64 x1870] from match ha1874 _ (Ok.subS (by simp) H.ok) with | ⟨_, rfl, h⟩ => h) ty3 rfl (fun _ => rfl) rfl rfl) rfl rfl <| nq (Q_assign rfl) rfl rfl <| WL_nil <| x_then <| R_nd <| nq (Q_move rfl) rfl rfl <| nq (Q_nilP rfl) rfl rfl <| nq (v := .pointer (some ⟨b1, 4, none⟩)) (Q_fld Try.underlying60 rfl ty23 (by decide) rfl rfl) rfl rfl <| nq (v := v18) (Q_ldB (k := 0) (cs := [v18]) H.ok rfl ty23 rfl rfl rfl (fun _ => rfl) rfl) rfl rfl <| nq (Q_move rfl) rfl rfl <| nq (Q_move rfl) rfl rfl ?_
                obtain ⟨x1875, hx1875, hB1867⟩ := bnd hB1867
                obtain ⟨b1876, o1877, hi1881, hc1879, ha1880⟩ := arr_at (hs := [Arr v18 1 c1842]) (k := 0) (by decide) (H.okS (by simp)) rfl r1844 hx1875
                refine nq (Q_idx hi1881 Try.underlying23 ty3 rfl rfl) rfl rfl ?_
                obtain ⟨x1882, hx1882, hB1867⟩ := bnd hB1867
                obtain ⟨hs1883a, hs1883b, hs1883c⟩ := setI_some hx1882
                have r1884 : rdL (eI .i64) ρ x1882 (setC c1842 (x1870.toNat * 1 + 0) [.int .i64 (x21.length : Int)]) := hs1883c ▸ rdL.set r1844 hs1883b (rfl)
                refine ne (E_stA (k := 2) (j := 0) (c := [.int .i64 (x21.length : Int)]) H rfl ty3 hi1881 rfl rfl rfl rfl (one_cons rfl one_nil) (by decide)) rfl rfl ?_
                rintro _ wd1885 H
                dsimp only [List.set] at H
                refine WL_nil <| x_block <| x_then <| R_nd <| nq (Q_add rfl rfl) rfl rfl <| nq (Q_move rfl) rfl rfl <| WL_nil ?_
                replace H := H.front 4 rfl
                dsimp only [List.eraseIdx] at H
                replace H := H.front 4 rfl
                dsimp only [List.eraseIdx] at H
                replace H := H.front 4 rfl
                dsimp only [List.eraseIdx] at H
                replace H := H.front 4 rfl
                dsimp only [List.eraseIdx] at H
                replace H := H.front 4 rfl
                dsimp only [List.eraseIdx] at H
                obtain rfl := Option.some.inj hB1867
                refine x_A fun a hf => ⟨_, rfl, (setC c1842 (x1870.toNat * 1 + 0) [.int .i64 (x21.length : Int)]), x1882, w64 (x1845 + 1), rfl, r1884, hf.sub ⟨rfl, rfl, rfl, rfl, rfl, trivial⟩, H⟩
              · replace hB1867 := itF hb hB1867
                refine C_exit <| x_then_exit <| x_then_exit <| x_block_exit ?_
                replace H := H.front 4 rfl
                dsimp only [List.eraseIdx] at H
                replace H := H.front 4 rfl
                dsimp only [List.eraseIdx] at H
                replace H := H.front 4 rfl
                dsimp only [List.eraseIdx] at H
                replace H := H.front 4 rfl
                dsimp only [List.eraseIdx] at H
                replace H := H.front 4 rfl
                dsimp only [List.eraseIdx] at H
                obtain rfl := Option.some.inj hB1867
                obtain rfl := hO1868 _ rfl
                refine x_A fun a hf => ⟨c1842, x1843, rfl, r1844, hf.sub ⟨rfl, rfl, trivial⟩, H⟩
          · rintro a wd1886 ⟨c1818, x1819, rfl, r1820, hf, H⟩
            try dsimp only at hF
            refine XX.at hf <| x_then <| R_nd <| nq (Q_move rfl) rfl rfl <| nq (Q_move rfl) rfl rfl ?_
            replace H := H.front 4 rfl
            dsimp only [List.eraseIdx] at H
            replace H := H.front 4 rfl
            dsimp only [List.eraseIdx] at H
            replace H := H.front 4 rfl
            dsimp only [List.eraseIdx] at H
            replace H := H.front 4 rfl
            dsimp only [List.eraseIdx] at H
            replace H := H.front 4 rfl
            dsimp only [List.eraseIdx] at H
            obtain ⟨q1887, hq1887, hF⟩ := bnd hF
            refine ne (E_call fn23 rfl (c_23 H  r4 r7 r10 gl14 r1820 r24 hq1887)) rfl rfl ?_
            rintro _ wd1893 ⟨v1889, c1890, x1891, rfl, rfl, r1892, H⟩
            try dsimp only at hF
            refine WL_nil ?_
            replace H := H.front 4 rfl
            dsimp only [List.eraseIdx] at H
            replace H := H.front 4 rfl
            dsimp only [List.eraseIdx] at H
            replace H := H.front 4 rfl
            dsimp only [List.eraseIdx] at H
            replace H := H.front 4 rfl
            dsimp only [List.eraseIdx] at H
            replace H := H.front 4 rfl
            dsimp only [List.eraseIdx] at H
            obtain rfl := Option.some.inj hF
            exact fn_end (l := []) (vs := []) rfl rfl rfl ⟨c1818, u1749, ((c20.set x26.toNat v1723) ++ ([v1727])), v1889, c1890, x1819, x1748, x1891, rfl, rfl, r1820, r1892, H⟩
theorem c_21 {N : Nat} {C : Cx} {w : World} {ρ : View} {hs : List Hl} {b1 : Nat} {v2 : Value} {v5 : Value} {v8 : Value} {v11 : Value} {c12 : List Value} {c15 : List Value} {v18 : Value} {v19 : Value} {c20 : List Value} {c22 : List Value} {v25 : Value} {x3 : (List (List Int))} {x6 : (List Int)} {x9 : (List Int)} {x13 : (List (List (List Int)))} {x16 : (List Int)} {x21 : (List (List Int))} {x23 : (List (Int × Int))} (H : Hp C w ρ (Box b1 [v2, v5, v8, v11, v18, v19, v25] :: NA (eI .i64) 256 v11 c12 x13.flatten :: Arr v18 1 c15 :: NA (eI .i64) 1 v19 c20 x21 :: Arr v25 2 c22 :: hs)) (r4 : RdSl ρ (eA 256 (eI .i64)) v2 x3) (r7 : RdSl ρ (eI .i64) v5 x6) (r10 : RdSl ρ (eI .i64) v8 x9) (gl14 : ∀ a ∈ x13, a.length = 256) (r17 : rdL (eI .i64) ρ x16 c15) (r24 : rdL (eP (eI .i64) (eI .u8)) ρ x23 c22) {r : ((List Int) × (List (List Int)) × (List (Int × Int)))} (hF : F_hopcroft_splitter_run N x3 x6 x9 x13 x16 x21 x23 = some r) :
    Calls Try.prog 21 [.pointer (some ⟨b1, 0, none⟩)].toArray w (Rets (fun v w' => (∃ (c7534 : (List Value)) (v7537 : Value) (c7538 : (List Value)) (v7540 : Value) (c7541 : (List Value)) (x7535 : (List Int)) (x7539 : (List (List Int))) (x7542 : (List (Int × Int))), (x7535, x7539, x7542) = r ∧ .tuple [].toArray = v ∧ rdL (eI .i64) ρ x7535 c7534 ∧ rdL (eP (eI .i64) (eI .u8)) ρ x7542 c7541 ∧ Hp C w' ρ (Box b1 [v2, v5, v8, v11, v18, v7537, v7540] :: NA (eI .i64) 256 v11 c12 x13.flatten :: Arr v18 1 c7534 :: NA (eI .i64) 1 v7537 c7538 x7539 :: Arr v7540 2 c7541 :: hs)))) := by
  unfold F_hopcroft_splitter_run at hF
  have h0 : Try.f21.body = some _ := rfl
  refine fn_calls' Try.func21 h0 (n := 103) rfl (by simp) ?_
  obtain ⟨o11302, ho11302, hF⟩ := bnd hF
  refine C_cutQ (fun a w' => ∃ (c11292 : (List Value)) (v11295 : Value) (c11296 : (List Value)) (v11298 : Value) (c11299 : (List Value)) (x11293 : (List Int)) (x11297 : (List (List Int))) (x11300 : (List (Int × Int))), (x11293, x11297, x11300) = o11302 ∧ rdL (eI .i64) ρ x11293 c11292 ∧ rdL (eP (eI .i64) (eI .u8)) ρ x11300 c11299 ∧ Fr 103 a [] ∧ Hp C w' ρ (Box b1 [v2, v5, v8, v11, v18, v11295, v11298] :: NA (eI .i64) 256 v11 c12 x13.flatten :: Arr v18 1 c11292 :: NA (eI .i64) 1 v11295 c11296 x11297 :: Arr v11298 2 c11299 :: hs)) ?_ ?_
  · refine C_block ?_
    replace H := H.front 4 rfl
    dsimp only [List.eraseIdx] at H
    replace H := H.front 4 rfl
    dsimp only [List.eraseIdx] at H
    replace H := H.front 4 rfl
    dsimp only [List.eraseIdx] at H
    replace H := H.front 4 rfl
    dsimp only [List.eraseIdx] at H
    replace H := H.front 4 rfl
    dsimp only [List.eraseIdx] at H
    refine C_iter (f := fun s => F_hopcroft_splitter_run_l0 N x3 x6 x9 x13 s.1 s.2.1 s.2.2) ho11302 (fun s a w' => ∃ (c12551 : (List Value)) (v12554 : Value) (c12555 : (List Value)) (v12557 : Value) (c12558 : (List Value)) (x12552 : (List Int)) (x12556 : (List (List Int))) (x12559 : (List (Int × Int))), (x12552, x12556, x12559) = s ∧ rdL (eI .i64) ρ x12552 c12551 ∧ rdL (eP (eI .i64) (eI .u8)) ρ x12559 c12558 ∧ Fr 103 a [(0, .pointer (some ⟨b1, 0, none⟩))] ∧ Hp C w' ρ (Box b1 [v2, v5, v8, v11, v18, v12554, v12557] :: NA (eI .i64) 256 v11 c12 x13.flatten :: Arr v18 1 c12551 :: NA (eI .i64) 1 v12554 c12555 x12556 :: Arr v12557 2 c12558 :: hs)) ?_ ?_
    · exact fun a hf => ⟨c15, v19, c20, v25, c22, x16, x21, x23, rfl, r17, r24, hf.sub ⟨rfl, trivial⟩, H⟩
    · rintro s o13809 a wd13812 ⟨c12551, v12554, c12555, v12557, c12558, x12552, x12556, x12559, rfl, r12553, r12560, hf, H⟩ hB13810 hO13811
      replace hB13810 : F_hopcroft_splitter_run_l0 N x3 x6 x9 x13 x12552 x12556 x12559 = some o13809 := hB13810
      unfold F_hopcroft_splitter_run_l0 at hB13810
      refine CW.at hf <| C_seq <| C_seq <| R_nd <| nq (Q_move rfl) rfl rfl <| nq (Q_nilP rfl) rfl rfl <| nq (v := .pointer (some ⟨b1, 6, none⟩)) (Q_fld Try.underlying60 rfl ty58 (by decide) rfl rfl) rfl rfl <| nq (v := v12557) (Q_ldB (k := 0) (cs := [v12557]) H.ok rfl ty58 rfl rfl rfl (fun _ => rfl) rfl) rfl rfl <| nq (Q_lenA (k := 4) H.ok rfl r12560 (by decide) Try.underlying58 rfl) rfl rfl <| nq (Q_gtr rfl rfl) rfl rfl <| WL_nil <| x_then ?_
      refine C_cond rfl (fun hb => ?_) (fun hb => ?_)
      · replace hB13810 := itT hb hB13810
        refine C_skip <| x_then <| C_block ?_
        obtain ⟨o13831, ho13831, hB13810⟩ := bnd hB13810
        refine C_cut (fun a w' => ∃ (b13828 : Nat) (x13829 : Int) (x13830 : Int), (x13829, x13830) = o13831 ∧ Fr 103 a [(0, .pointer (some ⟨b1, 0, none⟩)), (2, .pointer (some ⟨b13828, 0, none⟩))] ∧ Hp C w' ρ (Box b1 [v2, v5, v8, v11, v18, v12554, v12557] :: NA (eI .i64) 256 v11 c12 x13.flatten :: Arr v18 1 c12551 :: NA (eI .i64) 1 v12554 c12555 x12556 :: Arr v12557 2 c12558 :: Box b13828 [.int .i64 x13829, .int .u8 x13830] :: hs)) ?_ ?_
        · refine R_dr (.take 0 (.take 1 (.take 2 (.take 3 (.take 4 (.take 5 (.take 6 (.take 7 (.take 8 (.take 9 (.take 10 (.take 11 (.one 12 (.one 13 .done)))))))))))))) (fun w' => Ok w' ρ [Box b1 [v2, v5, v8, v11, v18, v12554, v12557], NA (eI .i64) 256 v11 c12 x13.flatten, Arr v18 1 c12551, NA (eI .i64) 1 v12554 c12555 x12556, Arr v12557 2 c12558]) (by kernel_rfl) (by kernel_rfl) (by kernel_rfl) (H.drew.okS (by simp)) ?_
          replace H := H.drew
          refine dq rfl (fun _ _ => Q_move rfl) rfl rfl <| dq rfl (fun _ _ => Q_nilP rfl) rfl rfl <| dq (v := .pointer (some ⟨b1, 6, none⟩)) rfl (fun _ _ => Q_fld Try.underlying60 rfl ty58 (by decide) rfl rfl) rfl rfl <| dq (v := v12557) rfl (fun _ hw => Q_ldB (k := 0) (cs := [v12557]) hw rfl ty58 rfl rfl rfl (fun _ => rfl) rfl) rfl rfl <| dq rfl (fun _ _ => Q_move rfl) rfl rfl <| dq rfl (fun _ _ => Q_nilP rfl) rfl rfl <| dq (v := .pointer (some ⟨b1, 6, none⟩)) rfl (fun _ _ => Q_fld Try.underlying60 rfl ty58 (by decide) rfl rfl) rfl rfl <| dq (v := v12557) rfl (fun _ hw => Q_ldB (k := 0) (cs := [v12557]) hw rfl ty58 rfl rfl rfl (fun _ => rfl) rfl) rfl rfl <| dq rfl (fun _ hw => Q_lenA (k := 4) hw rfl r12560 (by decide) Try.underlying58 rfl) rfl rfl <| dq rfl (fun _ _ => Q_sub rfl rfl) rfl rfl ?_
          obtain ⟨x13832, hx13832, ho13831⟩ := bnd ho13831
          obtain ⟨b13833, o13834, hi13838, hc13836, ha13837⟩ := arr_at (hs := [Arr v12557 2 c12558]) (k := 0) (by decide) (H.okS (by simp)) rfl r12560 hx13832
          refine dq rfl (fun _ _ => Q_idx hi13838 Try.underlying58 ty67 rfl rfl) rfl rfl ?_
          obtain ⟨c13839, c13840, he13841, hc13842, hc13843⟩ := hc13836
          refine dq (v := .agg #[.int .i64 x13832.1, .int .u8 x13832.2]) rfl (fun _ hw => Q_ld (show cellsAt _ _ _ [.int .i64 x13832.1, .int .u8 x13832.2] from cellsAt.cg (cat2 he13841 (rdI hc13842) (rdI hc13843)) (ha13837 _ (Ok.subS (by simp) hw))) ty67 rfl (fun h => nomatch h) rfl rfl) rfl rfl ?_
          refine d1 (de rfl (E_alloc H ty67 (zs := [.int .i64 0, .int .u8 0]) rfl) rfl rfl ?_)
          rintro _ wd13845 ⟨b13844, rfl, H⟩
          refine ⟨H.okS (by simp), ?_⟩
          refine d1 (de rfl (E_stB (k := 0) (cs := [.int .i64 x13832.1, .int .u8 x13832.2]) (vs' := [.int .i64 x13832.1, .int .u8 x13832.2]) H rfl ty67 rfl rfl rfl rfl (one_cons rfl (one_cons rfl one_nil)) (by simp) rfl) rfl rfl ?_)
          rintro _ wd13846 H
          dsimp only [List.set] at H
          refine ⟨H.okS (by simp), ?_⟩
          refine DL_nil ?_
          replace H := H.front 5 rfl
          dsimp only [List.eraseIdx] at H
          replace H := H.front 5 rfl
          dsimp only [List.eraseIdx] at H
          replace H := H.front 5 rfl
          dsimp only [List.eraseIdx] at H
          replace H := H.front 5 rfl
          dsimp only [List.eraseIdx] at H
          replace H := H.front 5 rfl
          dsimp only [List.eraseIdx] at H
          obtain rfl := Option.some.inj ho13831
          refine x_A fun a hf => ⟨b13844, x13832.1, x13832.2, rfl, hf.sub ⟨rfl, rfl, trivial⟩, H⟩
        · rintro a wd13847 ⟨b13828, x13829, x13830, rfl, hf, H⟩
          try dsimp only at hB13810
          refine CW.at hf ?_
          obtain ⟨o13876, ho13876, hB13810⟩ := bnd hB13810
          refine C_cut (fun a w' => ∃ (v13872 : Value) (c13873 : (List Value)) (x13874 : (List (Int × Int))), x13874 = o13876 ∧ rdL (eP (eI .i64) (eI .u8)) ρ x13874 c13873 ∧ Fr 103 a [(0, .pointer (some ⟨b1, 0, none⟩)), (2, .pointer (some ⟨b13828, 0, none⟩))] ∧ Hp C w' ρ (Box b1 [v2, v5, v8, v11, v18, v12554, v13872] :: NA (eI .i64) 256 v11 c12 x13.flatten :: Arr v18 1 c12551 :: NA (eI .i64) 1 v12554 c12555 x12556 :: Arr v13872 2 c13873 :: Box b13828 [.int .i64 x13829, .int .u8 x13830] :: hs)) ?_ ?_
          · refine R_dr (.take 0 (.take 1 (.take 2 (.take 3 (.take 5 (.take 6 (.take 7 (.two 4 8 (.one 8 (.one 9 (.take 10 (.take 11 (.take 12 (.take 13 (.one 14 .done))))))) (.two 4 9 (.one 9 (.take 10 (.take 11 (.take 12 (.take 13 (.one 14 .done)))))) (.take 10 (.one 4 (.take 11 (.take 12 (.take 13 (.one 14 .done))))))))))))))) (fun w' => Ok w' ρ [NA (eI .i64) 256 v11 c12 x13.flatten, Arr v18 1 c12551, NA (eI .i64) 1 v12554 c12555 x12556, Box b13828 [.int .i64 x13829, .int .u8 x13830]]) (by kernel_rfl) (by kernel_rfl) (by kernel_rfl) (H.drew.okS (by simp)) ?_
            replace H := H.drew
            refine dq rfl (fun _ _ => Q_move rfl) rfl rfl <| dq rfl (fun _ _ => Q_move rfl) rfl rfl <| dq rfl (fun _ _ => Q_nilP rfl) rfl rfl <| dq (v := .pointer (some ⟨b1, 6, none⟩)) rfl (fun _ _ => Q_fld Try.underlying60 rfl ty58 (by decide) rfl rfl) rfl rfl <| dq rfl (fun _ _ => Q_move rfl) rfl rfl <| dq rfl (fun _ _ => Q_nilP rfl) rfl rfl <| dq (v := .pointer (some ⟨b1, 6, none⟩)) rfl (fun _ _ => Q_fld Try.underlying60 rfl ty58 (by decide) rfl rfl) rfl rfl ?_
            refine d2 ?_ ?_
            · refine de rfl (Eff.quiet (v := v12557) (Q_ldB (k := 0) (cs := [v12557]) H.ok rfl ty58 rfl rfl rfl (fun _ => rfl) rfl)) rfl rfl ?_
              rintro _ _ ⟨rfl, rfl⟩
              refine ⟨H.okS (by simp), ?_⟩
              refine d1 (de rfl (Eff.quiet (v := v12557) (Q_ldB (k := 0) (cs := [v12557]) H.ok rfl ty58 rfl rfl rfl (fun _ => rfl) rfl)) rfl rfl ?_)
              rintro _ _ ⟨rfl, rfl⟩
              refine ⟨H.okS (by simp), ?_⟩
              refine d1 (de rfl (Eff.quiet (v := .int .i64 (x12559.length : Int)) (Q_lenA (k := 4) H.ok rfl r12560 (by decide) Try.underlying58 rfl)) rfl rfl ?_)
              rintro _ _ ⟨rfl, rfl⟩
              refine ⟨H.okS (by simp), ?_⟩
              refine dq rfl (fun _ _ => Q_sub rfl rfl) rfl rfl ?_
              obtain ⟨x13877, hx13877, ho13876⟩ := bnd ho13876
              obtain ⟨v13879, c13882, H, r13880, hq13883⟩ := sliceW (P := Try.prog) (en := (eP (eI .i64) (eI .u8))) (k := 4) H rfl (by decide) r12560 hx13877
              dsimp only [List.set] at H
              replace H : Hp C _ ρ (Box b1 [v2, v5, v8, v11, v18, v12554, v12557] :: NA (eI .i64) 256 v11 c12 x13.flatten :: Arr v18 1 c12551 :: NA (eI .i64) 1 v12554 c12555 x12556 :: Arr v13879 2 c13882 :: Box b13828 [.int .i64 x13829, .int .u8 x13830] :: hs) := H
              refine dq (v := v13879) rfl (fun _ _ => hq13883 _ _ _ _ _ _ _ _ _ _ _ _ _ _ _ Try.underlying58 ty67 rfl rfl ⟨_, rfl⟩) rfl rfl <| dq rfl (fun _ _ => Q_nilP rfl) rfl rfl <| dq (v := .pointer (some ⟨b1, 6, none⟩)) rfl (fun _ _ => Q_fld Try.underlying60 rfl ty58 (by decide) rfl rfl) rfl rfl ?_
              refine d1 (de rfl (E_stB (k := 0) (cs := [v13879]) (vs' := [v2, v5, v8, v11, v18, v12554, v13879]) H rfl ty58 rfl rfl (arr_cells (H.ok.get (k := 4) rfl)).1 rfl (one_cons (arr_cells (H.ok.get (k := 4) rfl)).2 one_nil) (by simp) rfl) rfl rfl ?_)
              rintro _ wd13884 H
              dsimp only [List.set] at H
              refine ⟨H.okS (by simp), ?_⟩
              refine DL_nil ?_
              replace H := H.front 5 rfl
              dsimp only [List.eraseIdx] at H
              replace H := H.front 5 rfl
              dsimp only [List.eraseIdx] at H
              replace H := H.front 5 rfl
              dsimp only [List.eraseIdx] at H
              replace H := H.front 5 rfl
              dsimp only [List.eraseIdx] at H
              replace H := H.front 5 rfl
              dsimp only [List.eraseIdx] at H
              replace H := H.front 5 rfl
              dsimp only [List.eraseIdx] at H
              obtain rfl := Option.some.inj ho13876
              refine x_A fun a hf => ⟨v13879, c13882, x13877, rfl, r13880, hf.sub ⟨rfl, rfl, trivial⟩, H⟩
            · refine de rfl (Eff.quiet (v := v12557) (Q_ldB (k := 0) (cs := [v12557]) H.ok rfl ty58 rfl rfl rfl (fun _ => rfl) rfl)) rfl rfl ?_
              rintro _ _ ⟨rfl, rfl⟩
              refine ⟨H.okS (by simp), ?_⟩
              refine d2 ?_ ?_
              · refine de rfl (Eff.quiet (v := v12557) (Q_ldB (k := 0) (cs := [v12557]) H.ok rfl ty58 rfl rfl rfl (fun _ => rfl) rfl)) rfl rfl ?_
                rintro _ _ ⟨rfl, rfl⟩
                refine ⟨H.okS (by simp), ?_⟩
                refine d1 (de rfl (Eff.quiet (v := .int .i64 (x12559.length : Int)) (Q_lenA (k := 4) H.ok rfl r12560 (by decide) Try.underlying58 rfl)) rfl rfl ?_)
                rintro _ _ ⟨rfl, rfl⟩
                refine ⟨H.okS (by simp), ?_⟩
                refine dq rfl (fun _ _ => Q_sub rfl rfl) rfl rfl ?_
                obtain ⟨x13885, hx13885, ho13876⟩ := bnd ho13876
                obtain ⟨v13887, c13890, H, r13888, hq13891⟩ := sliceW (P := Try.prog) (en := (eP (eI .i64) (eI .u8))) (k := 4) H rfl (by decide) r12560 hx13885
                dsimp only [List.set] at H
                replace H : Hp C _ ρ (Box b1 [v2, v5, v8, v11, v18, v12554, v12557] :: NA (eI .i64) 256 v11 c12 x13.flatten :: Arr v18 1 c12551 :: NA (eI .i64) 1 v12554 c12555 x12556 :: Arr v13887 2 c13890 :: Box b13828 [.int .i64 x13829, .int .u8 x13830] :: hs) := H
                refine dq (v := v13887) rfl (fun _ _ => hq13891 _ _ _ _ _ _ _ _ _ _ _ _ _ _ _ Try.underlying58 ty67 rfl rfl ⟨_, rfl⟩) rfl rfl <| dq rfl (fun _ _ => Q_nilP rfl) rfl rfl <| dq (v := .pointer (some ⟨b1, 6, none⟩)) rfl (fun _ _ => Q_fld Try.underlying60 rfl ty58 (by decide) rfl rfl) rfl rfl ?_
                refine d1 (de rfl (E_stB (k := 0) (cs := [v13887]) (vs' := [v2, v5, v8, v11, v18, v12554, v13887]) H rfl ty58 rfl rfl (arr_cells (H.ok.get (k := 4) rfl)).1 rfl (one_cons (arr_cells (H.ok.get (k := 4) rfl)).2 one_nil) (by simp) rfl) rfl rfl ?_)
                rintro _ wd13892 H
                dsimp only [List.set] at H
                refine ⟨H.okS (by simp), ?_⟩
                refine DL_nil ?_
                replace H := H.front 5 rfl
                dsimp only [List.eraseIdx] at H
                replace H := H.front 5 rfl
                dsimp only [List.eraseIdx] at H
                replace H := H.front 5 rfl
                dsimp only [List.eraseIdx] at H
                replace H := H.front 5 rfl
                dsimp only [List.eraseIdx] at H
                replace H := H.front 5 rfl
                dsimp only [List.eraseIdx] at H
                replace H := H.front 5 rfl
                dsimp only [List.eraseIdx] at H
                obtain rfl := Option.some.inj ho13876
                refine x_A fun a hf => ⟨v13887, c13890, x13885, rfl, r13888, hf.sub ⟨rfl, rfl, trivial⟩, H⟩
              · refine de rfl (Eff.quiet (v := .int .i64 (x12559.length : Int)) (Q_lenA (k := 4) H.ok rfl r12560 (by decide) Try.underlying58 rfl)) rfl rfl ?_
                rintro _ _ ⟨rfl, rfl⟩
                refine ⟨H.okS (by simp), ?_⟩
                refine dq rfl (fun _ _ => Q_sub rfl rfl) rfl rfl ?_
                refine d1 (de rfl (Eff.quiet (v := v12557) (Q_ldB (k := 0) (cs := [v12557]) H.ok rfl ty58 rfl rfl rfl (fun _ => rfl) rfl)) rfl rfl ?_)
                rintro _ _ ⟨rfl, rfl⟩
                refine ⟨H.okS (by simp), ?_⟩
                obtain ⟨x13893, hx13893, ho13876⟩ := bnd ho13876
                obtain ⟨v13895, c13898, H, r13896, hq13899⟩ := sliceW (P := Try.prog) (en := (eP (eI .i64) (eI .u8))) (k := 4) H rfl (by decide) r12560 hx13893
                dsimp only [List.set] at H
                replace H : Hp C _ ρ (Box b1 [v2, v5, v8, v11, v18, v12554, v12557] :: NA (eI .i64) 256 v11 c12 x13.flatten :: Arr v18 1 c12551 :: NA (eI .i64) 1 v12554 c12555 x12556 :: Arr v13895 2 c13898 :: Box b13828 [.int .i64 x13829, .int .u8 x13830] :: hs) := H
                refine dq (v := v13895) rfl (fun _ _ => hq13899 _ _ _ _ _ _ _ _ _ _ _ _ _ _ _ Try.underlying58 ty67 rfl rfl ⟨_, rfl⟩) rfl rfl <| dq rfl (fun _ _ => Q_nilP rfl) rfl rfl <| dq (v := .pointer (some ⟨b1, 6, none⟩)) rfl (fun _ _ => Q_fld Try.underlying60 rfl ty58 (by decide) rfl rfl) rfl rfl ?_
                refine d1 (de rfl (E_stB (k := 0) (cs := [v13895]) (vs' := [v2, v5, v8, v11, v18, v12554, v13895]) H rfl ty58 rfl rfl (arr_cells (H.ok.get (k := 4) rfl)).1 rfl (one_cons (arr_cells (H.ok.get (k := 4) rfl)).2 one_nil) (by simp) rfl) rfl rfl ?_)
                rintro _ wd13900 H
                dsimp only [List.set] at H
                refine ⟨H.okS (by simp), ?_⟩
                refine DL_nil ?_
                replace H := H.front 5 rfl
                dsimp only [List.eraseIdx] at H
                replace H := H.front 5 rfl
                dsimp only [List.eraseIdx] at H
                replace H := H.front 5 rfl
                dsimp only [List.eraseIdx] at H
                replace H := H.front 5 rfl
                dsimp only [List.eraseIdx] at H
                replace H := H.front 5 rfl
                dsimp only [List.eraseIdx] at H
                replace H := H.front 5 rfl
                dsimp only [List.eraseIdx] at H
                obtain rfl := Option.some.inj ho13876
                refine x_A fun a hf => ⟨v13895, c13898, x13893, rfl, r13896, hf.sub ⟨rfl, rfl, trivial⟩, H⟩
          · rintro a wd13901 ⟨v13872, c13873, x13874, rfl, r13875, hf, H⟩
            try dsimp only at hB13810
            refine CW.at hf <| C_seq <| R_nd <| nq (Q_assign rfl) rfl rfl <| nq (Q_assign rfl) rfl rfl <| WL_nil <| x_then <| C_seq <| C_seq <| R_dr (.take 0 (.take 1 (.take 2 (.take 3 (.take 4 (.take 5 (.take 6 (.take 7 (.take 8 (.take 9 .done)))))))))) (fun w' => Ok w' ρ [Box b1 [v2, v5, v8, v11, v18, v12554, v13872], NA (eI .i64) 256 v11 c12 x13.flatten, Arr v18 1 c12551, NA (eI .i64) 1 v12554 c12555 x12556, Arr v13872 2 c13873, Box b13828 [.int .i64 x13829, .int .u8 x13830]]) (by kernel_rfl) (by kernel_rfl) (by kernel_rfl) (H.drew.okS (by simp)) ?_
            replace H := H.drew
            refine dq rfl (fun _ _ => Q_move rfl) rfl rfl <| dq rfl (fun _ _ => Q_nilP rfl) rfl rfl <| dq (v := .pointer (some ⟨b1, 5, none⟩)) rfl (fun _ _ => Q_fld Try.underlying60 rfl ty51 (by decide) rfl rfl) rfl rfl <| dq (v := v12554) rfl (fun _ hw => Q_ldB (k := 0) (cs := [v12554]) hw rfl ty51 rfl rfl rfl (fun _ => rfl) rfl) rfl rfl <| dq (v := .pointer (some ⟨b13828, 0, none⟩)) rfl (fun _ _ => Q_fld Try.underlying67 rfl ty3 (by decide) rfl rfl) rfl rfl <| dq (v := .int .i64 x13829) rfl (fun _ hw => Q_ldB (k := 5) (cs := [.int .i64 x13829]) hw rfl ty3 rfl rfl rfl (fun _ => rfl) rfl) rfl rfl ?_
            obtain ⟨x13902, hx13902, hB13810⟩ := bnd hB13810
            obtain ⟨b13903, o13904, u13906, hi13905, hu13907, ha13908, hl13909, hj13910⟩ := na_at1 (by decide) (H.okS (l := [NA (eI .i64) 1 v12554 c12555 x12556]) (by simp)) hx13902
            refine dq rfl (fun _ _ => Q_idx hi13905 Try.underlying51 ty23 rfl rfl) rfl rfl <| dq (v := u13906) rfl (fun _ hw => Q_ld (ha13908 _ (Ok.subS (by simp) hw)) ty23 rfl (fun _ => rfl) rfl rfl) rfl rfl <| dq (v := .int .i64 (x13902.length : Int)) rfl (fun _ _ => Q_lenI hl13909 Try.underlying23 rfl) rfl rfl <| dq rfl (fun _ _ => Q_move rfl) rfl rfl <| DL_nil <| x_then ?_
            obtain ⟨o14099, ho14099, hB13810⟩ := bnd hB13810
            refine C_cutQ (fun a w' => ∃ (v14095 : Value) (c14096 : (List Value)) (x14097 : (List Int)), x14097 = o14099 ∧ rdL (eI .i64) ρ x14097 c14096 ∧ Fr 103 a [(0, .pointer (some ⟨b1, 0, none⟩)), (3, v14095), (4, .slice none 0 0)] ∧ Hp C w' ρ (Box b1 [v2, v5, v8, v11, v18, v12554, v13872] :: NA (eI .i64) 256 v11 c12 x13.flatten :: Arr v18 1 c12551 :: NA (eI .i64) 1 v12554 c12555 x12556 :: Arr v13872 2 c13873 :: Arr v14095 1 c14096 :: hs)) ?_ ?_
            · refine C_block ?_
              have H := H.nilArr 1
              replace H := H.front 6 rfl
              dsimp only [List.eraseIdx] at H
              replace H := H.front 6 rfl
              dsimp only [List.eraseIdx] at H
              replace H := H.front 6 rfl
              dsimp only [List.eraseIdx] at H
              replace H := H.front 6 rfl
              dsimp only [List.eraseIdx] at H
              replace H := H.front 6 rfl
              dsimp only [List.eraseIdx] at H
              replace H := H.front 6 rfl
              dsimp only [List.eraseIdx] at H
              refine C_iter (f := fun s => F_hopcroft_splitter_run_l1 N x13 x13830 x13902 s.1 s.2) ho14099 (fun s a w' => ∃ (v14160 : Value) (c14161 : (List Value)) (x14162 : (List Int)) (x14164 : Int), (x14162, x14164) = s ∧ rdL (eI .i64) ρ x14162 c14161 ∧ Fr 103 a [(0, .pointer (some ⟨b1, 0, none⟩)), (2, .pointer (some ⟨b13828, 0, none⟩)), (3, v14160), (4, .slice none 0 0), (51, u13906), (52, .int .i64 (x13902.length : Int)), (53, .int .i64 x14164)] ∧ Hp C w' ρ (Box b1 [v2, v5, v8, v11, v18, v12554, v13872] :: NA (eI .i64) 256 v11 c12 x13.flatten :: Arr v18 1 c12551 :: NA (eI .i64) 1 v12554 c12555 x12556 :: Arr v13872 2 c13873 :: Box b13828 [.int .i64 x13829, .int .u8 x13830] :: Arr v14160 1 c14161 :: hs)) ?_ ?_
              · exact fun a hf => ⟨(.slice none 0 0), [], [], 0, rfl, rdL.nil, hf.sub ⟨rfl, rfl, rfl, rfl, rfl, rfl, rfl, trivial⟩, H⟩
              · rintro s o14225 a wd14228 ⟨v14160, c14161, x14162, x14164, rfl, r14163, hf, H⟩ hB14226 hO14227
                replace hB14226 : F_hopcroft_splitter_run_l1 N x13 x13830 x13902 x14162 x14164 = some o14225 := hB14226
                unfold F_hopcroft_splitter_run_l1 at hB14226
                refine CW.at hf <| C_seq <| R_nd <| nq (Q_lss rfl rfl) rfl rfl <| WL_nil <| x_then <| C_seq ?_
                refine C_cond rfl (fun hb => ?_) (fun hb => ?_)
                · replace hB14226 := itT hb hB14226
                  refine C_skip <| x_then <| C_seq <| C_block <| C_seq <| R_nd ?_
                  obtain ⟨x14229, hx14229, hB14226⟩ := bnd hB14226
                  obtain ⟨b14230, o14231, hi14232, ha14233⟩ := inn_at (by decide) (H.okS (l := [NA (eI .i64) 1 v12554 c12555 x12556]) (by simp)) hu13907 hj13910 hx14229
                  refine nq (Q_idx hi14232 Try.underlying23 ty3 rfl rfl) rfl rfl <| nq (v := .int .i64 x14229) (Q_ld (show cellsAt _ _ _ [.int .i64 x14229] from match ha14233 _ (Ok.subS (by simp) H.ok) with | ⟨_, rfl, h⟩ => h) ty3 rfl (fun _ => rfl) rfl rfl) rfl rfl <| nq (Q_assign rfl) rfl rfl <| WL_nil <| x_then ?_
                  obtain ⟨o14260, ho14260, hB14226⟩ := bnd hB14226
                  refine C_cutQ (fun a w' => ∃ (v14256 : Value) (c14257 : (List Value)) (x14258 : (List Int)), x14258 = o14260 ∧ rdL (eI .i64) ρ x14258 c14257 ∧ Fr 103 a [(0, .pointer (some ⟨b1, 0, none⟩)), (2, .pointer (some ⟨b13828, 0, none⟩)), (3, v14256), (4, .slice none 0 0), (51, u13906), (52, .int .i64 (x13902.length : Int)), (53, .int .i64 x14164)] ∧ Hp C w' ρ (Box b1 [v2, v5, v8, v11, v18, v12554, v13872] :: NA (eI .i64) 256 v11 c12 x13.flatten :: Arr v18 1 c12551 :: NA (eI .i64) 1 v12554 c12555 x12556 :: Arr v13872 2 c13873 :: Box b13828 [.int .i64 x13829, .int .u8 x13830] :: Arr v14256 1 c14257 :: hs)) ?_ ?_
                  · refine R_dr (.take 0 (.take 1 (.take 2 (.take 3 (.take 4 (.take 5 (.take 6 (.take 7 (.take 8 (.take 9 (.take 10 (.one 11 (.take 12 .done))))))))))))) (fun w' => Ok w' ρ [Box b1 [v2, v5, v8, v11, v18, v12554, v13872], NA (eI .i64) 256 v11 c12 x13.flatten, Arr v18 1 c12551, NA (eI .i64) 1 v12554 c12555 x12556, Arr v13872 2 c13873, Box b13828 [.int .i64 x13829, .int .u8 x13830]]) (by kernel_rfl) (by kernel_rfl) (by kernel_rfl) (H.drew.okS (by simp)) ?_
                    replace H := H.drew
                    refine dq rfl (fun _ _ => Q_move rfl) rfl rfl <| dq rfl (fun _ _ => Q_move rfl) rfl rfl <| dq rfl (fun _ _ => Q_nilP rfl) rfl rfl <| dq (v := .pointer (some ⟨b1, 3, none⟩)) rfl (fun _ _ => Q_fld Try.underlying60 rfl ty57 (by decide) rfl rfl) rfl rfl <| dq (v := v11) rfl (fun _ hw => Q_ldB (k := 0) (cs := [v11]) hw rfl ty57 rfl rfl rfl (fun _ => rfl) rfl) rfl rfl <| dq rfl (fun _ _ => Q_move rfl) rfl rfl <| dq (v := .pointer (some ⟨b13828, 1, none⟩)) rfl (fun _ _ => Q_fld Try.underlying67 rfl ty5 (by decide) rfl rfl) rfl rfl <| dq (v := .int .u8 x13830) rfl (fun _ hw => Q_ldB (k := 5) (cs := [.int .u8 x13830]) hw rfl ty5 rfl rfl rfl (fun _ => rfl) rfl) rfl rfl ?_
                    obtain ⟨x14261, hx14261, ho14260⟩ := bnd ho14260
                    obtain ⟨b14262, o14263, hi14264, hr14265⟩ := na_row (by decide) (by decide) (H.okS (l := [NA (eI .i64) 256 v11 c12 x13.flatten]) (by simp)) gl14 hx14261
                    refine dq rfl (fun _ _ => Q_idx hi14264 Try.underlying57 ty64 rfl rfl) rfl rfl ?_
                    obtain ⟨x14266, hx14266, ho14260⟩ := bnd ho14260
                    obtain ⟨u14267, hu14268, ha14269, hl14270, hj14271, hn14272⟩ := hr14265 _ _ hx14266
                    have hb14273 := (idx_some hx14266).1
                    refine dq rfl (fun _ _ => Q_idxA hb14273 (by omega) Try.underlying64 ty23 rfl rfl) rfl rfl <| dq (v := u14267) rfl (fun _ hw => Q_ld (ha14269 _ (Ok.subS (by simp) hw)) ty23 rfl (fun _ => rfl) rfl rfl) rfl rfl ?_
                    obtain ⟨x14274, hx14274, ho14260⟩ := bnd ho14260
                    obtain ⟨ha14275a, ha14275b⟩ := app_some hx14274
                    obtain ⟨c14276, r14277, hs14278⟩ := inn_src (H.okS (l := [NA (eI .i64) 256 v11 c12 x13.flatten]) (by simp)) hu14268 hj14271
                    have r14280 : rdL (eI .i64) ρ x14274 (c14161 ++ c14276) := ha14275b ▸ rdL.app r14163 r14277
                    refine d1 (de rfl (E_append (k := 6) H rfl Try.underlying23 ty3 rfl (by decide) (by decide) rfl rfl hs14278 (rdL.one r14277) (app_fit r14163 r14277 ha14275a)) rfl rfl ?_)
                    rintro v14279 wd14282 ⟨H, hc14281⟩
                    dsimp only [List.set] at H
                    refine ⟨H.okS (by simp), ?_⟩
                    refine dq rfl (fun _ _ => Q_assign rfl) rfl rfl <| DL_nil ?_
                    replace H := H.front 6 rfl
                    dsimp only [List.eraseIdx] at H
                    replace H := H.front 6 rfl
                    dsimp only [List.eraseIdx] at H
                    replace H := H.front 6 rfl
                    dsimp only [List.eraseIdx] at H
                    replace H := H.front 6 rfl
                    dsimp only [List.eraseIdx] at H
                    replace H := H.front 6 rfl
                    dsimp only [List.eraseIdx] at H
                    replace H := H.front 6 rfl
                    dsimp only [List.eraseIdx] at H
                    replace H := H.front 6 rfl
                    dsimp only [List.eraseIdx] at H
                    obtain rfl := Option.some.inj ho14260
                    refine x_A fun a hf => ⟨v14279, (c14161 ++ c14276), x14274, rfl, r14280, hf.sub ⟨rfl, rfl, rfl, rfl, rfl, rfl, rfl, trivial⟩, H⟩
                  · rintro a wd14283 ⟨v14256, c14257, x14258, rfl, r14259, hf, H⟩
                    try dsimp only at hB14226
                    refine XX.at hf <| x_block <| x_then <| R_nd <| nq (Q_add rfl rfl) rfl rfl <| nq (Q_move rfl) rfl rfl <| WL_nil ?_
                    replace H := H.front 6 rfl
                    dsimp only [List.eraseIdx] at H
                    replace H := H.front 6 rfl
                    dsimp only [List.eraseIdx] at H
                    replace H := H.front 6 rfl
                    dsimp only [List.eraseIdx] at H
                    replace H := H.front 6 rfl
                    dsimp only [List.eraseIdx] at H
                    replace H := H.front 6 rfl
                    dsimp only [List.eraseIdx] at H
                    replace H := H.front 6 rfl
                    dsimp only [List.eraseIdx] at H
                    replace H := H.front 6 rfl
                    dsimp only [List.eraseIdx] at H
                    obtain rfl := Option.some.inj hB14226
                    refine x_A fun a hf => ⟨_, rfl, v14256, c14257, x14258, w64 (x14164 + 1), rfl, r14259, hf.sub ⟨rfl, rfl, rfl, rfl, rfl, rfl, rfl, trivial⟩, H⟩
                · replace hB14226 := itF hb hB14226
                  refine C_exit <| x_then_exit <| x_then_exit <| x_block_exit ?_
                  replace H := H.front 6 rfl
                  dsimp only [List.eraseIdx] at H
                  replace H := H.front 5 rfl
                  dsimp only [List.eraseIdx] at H
                  replace H := H.front 5 rfl
                  dsimp only [List.eraseIdx] at H
                  replace H := H.front 5 rfl
                  dsimp only [List.eraseIdx] at H
                  replace H := H.front 5 rfl
                  dsimp only [List.eraseIdx] at H
                  replace H := H.front 5 rfl
                  dsimp only [List.eraseIdx] at H
                  replace H := H.drop 6 rfl
                  dsimp only [List.eraseIdx] at H
                  obtain rfl := Option.some.inj hB14226
                  obtain rfl := hO14227 _ rfl
                  refine x_A fun a hf => ⟨v14160, c14161, x14162, rfl, r14163, hf.sub ⟨rfl, rfl, rfl, trivial⟩, H⟩
            · rintro a wd14284 ⟨v14095, c14096, x14097, rfl, r14098, hf, H⟩
              try dsimp only at hB13810
              refine XX.at hf <| x_then <| C_seq <| C_seq <| R_nd <| nq (Q_move rfl) rfl rfl <| nq (Q_lenA (k := 5) H.ok rfl r14098 (by decide) Try.underlying23 rfl) rfl rfl <| nq (Q_move rfl) rfl rfl <| WL_nil <| x_then ?_
              obtain ⟨o14566, ho14566, hB13810⟩ := bnd hB13810
              refine C_cutQ (fun a w' => ∃ (v14562 : Value) (c14563 : (List Value)) (x14564 : (List Int)), x14564 = o14566 ∧ rdL (eI .i64) ρ x14564 c14563 ∧ Fr 103 a [(0, .pointer (some ⟨b1, 0, none⟩)), (3, v14095), (4, v14562)] ∧ Hp C w' ρ (Box b1 [v2, v5, v8, v11, v18, v12554, v13872] :: NA (eI .i64) 256 v11 c12 x13.flatten :: Arr v18 1 c12551 :: NA (eI .i64) 1 v12554 c12555 x12556 :: Arr v13872 2 c13873 :: Arr v14095 1 c14096 :: Arr v14562 1 c14563 :: hs)) ?_ ?_
              · refine C_block ?_
                have H := H.nilArr 1
                replace H := H.front 6 rfl
                dsimp only [List.eraseIdx] at H
                replace H := H.front 6 rfl
                dsimp only [List.eraseIdx] at H
                replace H := H.front 6 rfl
                dsimp only [List.eraseIdx] at H
                replace H := H.front 6 rfl
                dsimp only [List.eraseIdx] at H
                replace H := H.front 6 rfl
                dsimp only [List.eraseIdx] at H
                replace H := H.front 6 rfl
                dsimp only [List.eraseIdx] at H
                refine C_iter (f := fun s => F_hopcroft_splitter_run_l2 N x12552 x14097 s.1 s.2) ho14566 (fun s a w' => ∃ (v14658 : Value) (c14659 : (List Value)) (x14660 : (List Int)) (x14662 : Int), (x14660, x14662) = s ∧ rdL (eI .i64) ρ x14660 c14659 ∧ Fr 103 a [(0, .pointer (some ⟨b1, 0, none⟩)), (3, v14095), (4, v14658), (70, v14095), (71, .int .i64 (x14097.length : Int)), (72, .int .i64 x14662)] ∧ Hp C w' ρ (Box b1 [v2, v5, v8, v11, v18, v12554, v13872] :: NA (eI .i64) 256 v11 c12 x13.flatten :: Arr v18 1 c12551 :: NA (eI .i64) 1 v12554 c12555 x12556 :: Arr v13872 2 c13873 :: Arr v14095 1 c14096 :: Arr v14658 1 c14659 :: hs)) ?_ ?_
                · exact fun a hf => ⟨(.slice none 0 0), [], [], 0, rfl, rdL.nil, hf.sub ⟨rfl, rfl, rfl, rfl, rfl, rfl, trivial⟩, H⟩
                · rintro s o14754 a wd14757 ⟨v14658, c14659, x14660, x14662, rfl, r14661, hf, H⟩ hB14755 hO14756
                  replace hB14755 : F_hopcroft_splitter_run_l2 N x12552 x14097 x14660 x14662 = some o14754 := hB14755
                  unfold F_hopcroft_splitter_run_l2 at hB14755
                  refine CW.at hf <| C_seq <| R_nd <| nq (Q_lss rfl rfl) rfl rfl <| WL_nil <| x_then <| C_seq ?_
                  refine C_cond rfl (fun hb => ?_) (fun hb => ?_)
                  · replace hB14755 := itT hb hB14755
                    refine C_skip <| x_then ?_
                    obtain ⟨o14802, ho14802, hB14755⟩ := bnd hB14755
                    refine C_cut (fun a w' => ∃ (v14798 : Value) (c14799 : (List Value)) (x14800 : (List Int)), x14800 = o14802 ∧ rdL (eI .i64) ρ x14800 c14799 ∧ Fr 103 a [(0, .pointer (some ⟨b1, 0, none⟩)), (3, v14095), (4, v14798), (70, v14095), (71, .int .i64 (x14097.length : Int)), (72, .int .i64 x14662)] ∧ Hp C w' ρ (Box b1 [v2, v5, v8, v11, v18, v12554, v13872] :: NA (eI .i64) 256 v11 c12 x13.flatten :: Arr v18 1 c12551 :: NA (eI .i64) 1 v12554 c12555 x12556 :: Arr v13872 2 c13873 :: Arr v14095 1 c14096 :: Arr v14798 1 c14799 :: hs)) ?_ ?_
                    · refine C_block <| C_seq <| R_nd ?_
                      obtain ⟨x14803, hx14803, ho14802⟩ := bnd ho14802
                      obtain ⟨b14804, o14805, hi14809, hc14807, ha14808⟩ := arr_at (hs := [Arr v14095 1 c14096]) (k := 0) (by decide) (H.okS (by simp)) rfl r14098 hx14803
                      refine nq (Q_idx hi14809 Try.underlying23 ty3 rfl rfl) rfl rfl <| nq (v := .int .i64 x14803) (Q_ld (show cellsAt _ _ _ [.int .i64 x14803] from (show _ = [_] from hc14807) ▸ (ha14808 _ (Ok.subS (by simp) H.ok))) ty3 rfl (fun _ => rfl) rfl rfl) rfl rfl <| nq (Q_assign rfl) rfl rfl <| WL_nil <| x_then <| C_seq <| R_nd <| nq (Q_move rfl) rfl rfl <| nq (Q_nilP rfl) rfl rfl <| nq (v := .pointer (some ⟨b1, 4, none⟩)) (Q_fld Try.underlying60 rfl ty23 (by decide) rfl rfl) rfl rfl <| nq (v := v18) (Q_ldB (k := 0) (cs := [v18]) H.ok rfl ty23 rfl rfl rfl (fun _ => rfl) rfl) rfl rfl <| nq (Q_move rfl) rfl rfl ?_
                      obtain ⟨x14810, hx14810, ho14802⟩ := bnd ho14802
                      obtain ⟨b14811, o14812, hi14816, hc14814, ha14815⟩ := arr_at (hs := [Arr v18 1 c12551]) (k := 0) (by decide) (H.okS (by simp)) rfl r12553 hx14810
                      refine nq (Q_idx hi14816 Try.underlying23 ty3 rfl rfl) rfl rfl <| nq (v := .int .i64 x14810) (Q_ld (show cellsAt _ _ _ [.int .i64 x14810] from (show _ = [_] from hc14814) ▸ (ha14815 _ (Ok.subS (by simp) H.ok))) ty3 rfl (fun _ => rfl) rfl rfl) rfl rfl <| nq (Q_assign rfl) rfl rfl <| WL_nil <| x_then <| C_seq <| R_nd <| nq (Q_move rfl) rfl rfl <| nq (Q_move rfl) rfl rfl ?_
                      replace H := H.front 6 rfl
                      dsimp only [List.eraseIdx] at H
                      obtain ⟨q14817, hq14817, ho14802⟩ := bnd ho14802
                      obtain ⟨C', ρ', hl14818, HA, hL, hback⟩ := Hp.lend (A := []) (L := [Arr v14658 1 c14659]) (F := Box b1 [v2, v5, v8, v11, v18, v12554, v13872] :: NA (eI .i64) 256 v11 c12 x13.flatten :: Arr v18 1 c12551 :: NA (eI .i64) 1 v12554 c12555 x12556 :: Arr v13872 2 c13873 :: Arr v14095 1 c14096 :: hs) H
                      refine ne (E_call fn24 rfl (c_24 HA  (arr_rd (by decide) hl14818 (hL (Arr v14658 1 c14659) (by simp)) r14661) hq14817)) rfl rfl ?_
                      rintro _ wd14820 ⟨x14819, rfl, rfl, H⟩
                      try dsimp only at ho14802
                      replace H := hback H
                      dsimp only [List.cons_append, List.nil_append] at H
                      refine nq (Q_not rfl) rfl rfl <| WL_nil <| x_then ?_
                      obtain ⟨o14833, ho14833, ho14802⟩ := bnd ho14802
                      refine C_cutQ (fun a w' => ∃ (v14829 : Value) (c14830 : (List Value)) (x14831 : (List Int)), x14831 = o14833 ∧ rdL (eI .i64) ρ x14831 c14830 ∧ Fr 103 a [(0, .pointer (some ⟨b1, 0, none⟩)), (3, v14095), (4, v14829), (70, v14095), (71, .int .i64 (x14097.length : Int)), (72, .int .i64 x14662)] ∧ Hp C w' ρ (Box b1 [v2, v5, v8, v11, v18, v12554, v13872] :: NA (eI .i64) 256 v11 c12 x13.flatten :: Arr v18 1 c12551 :: NA (eI .i64) 1 v12554 c12555 x12556 :: Arr v13872 2 c13873 :: Arr v14095 1 c14096 :: Arr v14829 1 c14830 :: hs)) ?_ ?_
                      · refine C_cond rfl (fun hb => ?_) (fun hb => ?_)
                        · replace ho14833 := itT hb ho14833
                          refine R_nd <| nq (Q_move rfl) rfl rfl <| nq (Q_move rfl) rfl rfl <| ne (E_bslice (xs := [.tmp 88]) (vs := [.int .i64 x14810]) H Try.underlying23 ty3 (by decide) (cs := [.int .i64 x14810]) rfl (sz_cons rfl sz_nil) rfl (by simp) (by simp) rfl rfl) rfl rfl ?_
                          rintro _ wd14835 ⟨b14834, rfl, H⟩
                          obtain ⟨x14836, hx14836, ho14833⟩ := bnd ho14833
                          obtain ⟨ha14837a, ha14837b⟩ := app_some hx14836
                          have r14839 : rdL (eI .i64) ρ x14836 (c14659 ++ ([.int .i64 x14810])) := ha14837b ▸ rdL.app r14661 (show rdL (eI .i64) ρ ([x14810]) ([.int .i64 x14810]) from ⟨([.int .i64 x14810]), _, rfl, rfl, rdL.nil⟩)
                          refine ne (E_append (k := 1) H rfl Try.underlying23 ty3 rfl (by decide) (by decide) rfl rfl (Src.ofArr (k := 0) H.ok rfl) (rdL.one (show rdL (eI .i64) ρ ([x14810]) ([.int .i64 x14810]) from ⟨([.int .i64 x14810]), _, rfl, rfl, rdL.nil⟩)) (app_fit r14661 (show rdL (eI .i64) ρ ([x14810]) ([.int .i64 x14810]) from ⟨([.int .i64 x14810]), _, rfl, rfl, rdL.nil⟩) ha14837a)) rfl rfl ?_
                          rintro v14838 wd14841 ⟨H, hc14840⟩
                          dsimp only [List.set] at H
                          refine nq (Q_assign rfl) rfl rfl <| WL_nil ?_
                          replace H := H.front 1 rfl
                          dsimp only [List.eraseIdx] at H
                          replace H := H.front 7 rfl
                          dsimp only [List.eraseIdx] at H
                          replace H := H.front 7 rfl
                          dsimp only [List.eraseIdx] at H
                          replace H := H.front 7 rfl
                          dsimp only [List.eraseIdx] at H
                          replace H := H.front 7 rfl
                          dsimp only [List.eraseIdx] at H
                          replace H := H.front 7 rfl
                          dsimp only [List.eraseIdx] at H
                          replace H := H.front 7 rfl
                          dsimp only [List.eraseIdx] at H
                          replace H := H.drop 7 rfl
                          dsimp only [List.eraseIdx] at H
                          obtain rfl := Option.some.inj ho14833
                          refine x_A fun a hf => ⟨v14838, (c14659 ++ ([.int .i64 x14810])), x14836, rfl, r14839, hf.sub ⟨rfl, rfl, rfl, rfl, rfl, rfl, trivial⟩, H⟩
                        · replace ho14833 := itF hb ho14833
                          refine C_skip ?_
                          replace H := H.front 6 rfl
                          dsimp only [List.eraseIdx] at H
                          replace H := H.front 6 rfl
                          dsimp only [List.eraseIdx] at H
                          replace H := H.front 6 rfl
                          dsimp only [List.eraseIdx] at H
                          replace H := H.front 6 rfl
                          dsimp only [List.eraseIdx] at H
                          replace H := H.front 6 rfl
                          dsimp only [List.eraseIdx] at H
                          replace H := H.front 6 rfl
                          dsimp only [List.eraseIdx] at H
                          obtain rfl := Option.some.inj ho14833
                          refine x_A fun a hf => ⟨v14658, c14659, x14660, rfl, r14661, hf.sub ⟨rfl, rfl, rfl, rfl, rfl, rfl, trivial⟩, H⟩
                      · rintro a wd14842 ⟨v14829, c14830, x14831, rfl, r14832, hf, H⟩
                        try dsimp only at ho14802
                        refine XX.at hf <| x_block ?_
                        replace H := H.front 6 rfl
                        dsimp only [List.eraseIdx] at H
                        replace H := H.front 6 rfl
                        dsimp only [List.eraseIdx] at H
                        replace H := H.front 6 rfl
                        dsimp only [List.eraseIdx] at H
                        replace H := H.front 6 rfl
                        dsimp only [List.eraseIdx] at H
                        replace H := H.front 6 rfl
                        dsimp only [List.eraseIdx] at H
                        replace H := H.front 6 rfl
                        dsimp only [List.eraseIdx] at H
                        replace H := H.front 6 rfl
                        dsimp only [List.eraseIdx] at H
                        obtain rfl := Option.some.inj ho14802
                        refine x_A fun a hf => ⟨v14829, c14830, x14831, rfl, r14832, hf.sub ⟨rfl, rfl, rfl, rfl, rfl, rfl, trivial⟩, H⟩
                    · rintro a wd14843 ⟨v14798, c14799, x14800, rfl, r14801, hf, H⟩
                      try dsimp only at hB14755
                      refine CW.at hf <| R_nd <| nq (Q_add rfl rfl) rfl rfl <| nq (Q_move rfl) rfl rfl <| WL_nil ?_
                      replace H := H.front 6 rfl
                      dsimp only [List.eraseIdx] at H
                      replace H := H.front 6 rfl
                      dsimp only [List.eraseIdx] at H
                      replace H := H.front 6 rfl
                      dsimp only [List.eraseIdx] at H
                      replace H := H.front 6 rfl
                      dsimp only [List.eraseIdx] at H
                      replace H := H.front 6 rfl
                      dsimp only [List.eraseIdx] at H
                      replace H := H.front 6 rfl
                      dsimp only [List.eraseIdx] at H
                      replace H := H.front 6 rfl
                      dsimp only [List.eraseIdx] at H
                      obtain rfl := Option.some.inj hB14755
                      refine x_A fun a hf => ⟨_, rfl, v14798, c14799, x14800, w64 (x14662 + 1), rfl, r14801, hf.sub ⟨rfl, rfl, rfl, rfl, rfl, rfl, trivial⟩, H⟩
                  · replace hB14755 := itF hb hB14755
                    refine C_exit <| x_then_exit <| x_then_exit <| x_block_exit ?_
                    replace H := H.front 6 rfl
                    dsimp only [List.eraseIdx] at H
                    replace H := H.front 6 rfl
                    dsimp only [List.eraseIdx] at H
                    replace H := H.front 6 rfl
                    dsimp only [List.eraseIdx] at H
                    replace H := H.front 6 rfl
                    dsimp only [List.eraseIdx] at H
                    replace H := H.front 6 rfl
                    dsimp only [List.eraseIdx] at H
                    replace H := H.front 6 rfl
                    dsimp only [List.eraseIdx] at H
                    replace H := H.front 6 rfl
                    dsimp only [List.eraseIdx] at H
                    obtain rfl := Option.some.inj hB14755
                    obtain rfl := hO14756 _ rfl
                    refine x_A fun a hf => ⟨v14658, c14659, x14660, rfl, r14661, hf.sub ⟨rfl, rfl, rfl, trivial⟩, H⟩
              · rintro a wd14844 ⟨v14562, c14563, x14564, rfl, r14565, hf, H⟩
                try dsimp only at hB13810
                refine XX.at hf <| x_then <| C_seq <| R_nd <| nq (Q_move rfl) rfl rfl <| nq (Q_lenA (k := 6) H.ok rfl r14565 (by decide) Try.underlying23 rfl) rfl rfl <| nq (Q_move rfl) rfl rfl <| WL_nil <| x_then ?_
                obtain ⟨o14952, ho14952, hB13810⟩ := bnd hB13810
                refine C_cutQ (fun a w' => ∃ (c14942 : (List Value)) (v14945 : Value) (c14946 : (List Value)) (v14948 : Value) (c14949 : (List Value)) (x14943 : (List Int)) (x14947 : (List (List Int))) (x14950 : (List (Int × Int))), (x14943, x14947, x14950) = o14952 ∧ rdL (eI .i64) ρ x14943 c14942 ∧ rdL (eP (eI .i64) (eI .u8)) ρ x14950 c14949 ∧ Fr 103 a [(0, .pointer (some ⟨b1, 0, none⟩))] ∧ Hp C w' ρ (Box b1 [v2, v5, v8, v11, v18, v14945, v14948] :: NA (eI .i64) 256 v11 c12 x13.flatten :: Arr v18 1 c14942 :: NA (eI .i64) 1 v14945 c14946 x14947 :: Arr v14948 2 c14949 :: hs)) ?_ ?_
                · refine C_block ?_
                  replace H := H.front 6 rfl
                  dsimp only [List.eraseIdx] at H
                  replace H := H.front 6 rfl
                  dsimp only [List.eraseIdx] at H
                  replace H := H.front 6 rfl
                  dsimp only [List.eraseIdx] at H
                  replace H := H.front 6 rfl
                  dsimp only [List.eraseIdx] at H
                  replace H := H.front 6 rfl
                  dsimp only [List.eraseIdx] at H
                  replace H := H.front 6 rfl
                  dsimp only [List.eraseIdx] at H
                  replace H := H.front 6 rfl
                  dsimp only [List.eraseIdx] at H
                  refine C_iter (f := fun s => F_hopcroft_splitter_run_l3 N x3 x6 x9 x13 x14097 x14564 s.1 s.2.1 s.2.2.1 s.2.2.2) ho14952 (fun s a w' => ∃ (c14984 : (List Value)) (v14987 : Value) (c14988 : (List Value)) (v14990 : Value) (c14991 : (List Value)) (x14985 : (List Int)) (x14989 : (List (List Int))) (x14992 : (List (Int × Int))) (x14994 : Int), (x14985, x14989, x14992, x14994) = s ∧ rdL (eI .i64) ρ x14985 c14984 ∧ rdL (eP (eI .i64) (eI .u8)) ρ x14992 c14991 ∧ Fr 103 a [(0, .pointer (some ⟨b1, 0, none⟩)), (3, v14095), (92, v14562), (93, .int .i64 (x14564.length : Int)), (94, .int .i64 x14994)] ∧ Hp C w' ρ (Box b1 [v2, v5, v8, v11, v18, v14987, v14990] :: NA (eI .i64) 256 v11 c12 x13.flatten :: Arr v18 1 c14984 :: NA (eI .i64) 1 v14987 c14988 x14989 :: Arr v14990 2 c14991 :: Arr v14095 1 c14096 :: Arr v14562 1 c14563 :: hs)) ?_ ?_
                  · exact fun a hf => ⟨c12551, v12554, c12555, v13872, c13873, x12552, x12556, x13874, 0, rfl, r12553, r13875, hf.sub ⟨rfl, rfl, rfl, rfl, rfl, trivial⟩, H⟩
                  · rintro s o15026 a wd15029 ⟨c14984, v14987, c14988, v14990, c14991, x14985, x14989, x14992, x14994, rfl, r14986, r14993, hf, H⟩ hB15027 hO15028
                    replace hB15027 : F_hopcroft_splitter_run_l3 N x3 x6 x9 x13 x14097 x14564 x14985 x14989 x14992 x14994 = some o15026 := hB15027
                    unfold F_hopcroft_splitter_run_l3 at hB15027
                    refine CW.at hf <| C_seq <| R_nd <| nq (Q_lss rfl rfl) rfl rfl <| WL_nil <| x_then <| C_seq ?_
                    refine C_cond rfl (fun hb => ?_) (fun hb => ?_)
                    · replace hB15027 := itT hb hB15027
                      refine C_skip <| x_then <| C_seq <| C_block <| C_seq <| R_nd ?_
                      obtain ⟨x15030, hx15030, hB15027⟩ := bnd hB15027
                      obtain ⟨b15031, o15032, hi15036, hc15034, ha15035⟩ := arr_at (hs := [Arr v14562 1 c14563]) (k := 0) (by decide) (H.okS (by simp)) rfl r14565 hx15030
                      refine nq (Q_idx hi15036 Try.underlying23 ty3 rfl rfl) rfl rfl <| nq (v := .int .i64 x15030) (Q_ld (show cellsAt _ _ _ [.int .i64 x15030] from (show _ = [_] from hc15034) ▸ (ha15035 _ (Ok.subS (by simp) H.ok))) ty3 rfl (fun _ => rfl) rfl rfl) rfl rfl <| nq (Q_assign rfl) rfl rfl <| WL_nil <| x_then <| R_nd <| nq (Q_move rfl) rfl rfl <| nq (Q_move rfl) rfl rfl <| nq (Q_move rfl) rfl rfl ?_
                      replace H := H.front 5 rfl
                      dsimp only [List.eraseIdx] at H
                      replace H := H.front 5 rfl
                      dsimp only [List.eraseIdx] at H
                      replace H := H.front 5 rfl
                      dsimp only [List.eraseIdx] at H
                      replace H := H.front 5 rfl
                      dsimp only [List.eraseIdx] at H
                      replace H := H.front 5 rfl
                      dsimp only [List.eraseIdx] at H
                      replace H := H.front 5 rfl
                      dsimp only [List.eraseIdx] at H
                      obtain ⟨q15037, hq15037, hB15027⟩ := bnd hB15027
                      obtain ⟨C', ρ', hl15038, HA, hL, hback⟩ := Hp.lend (A := [Box b1 [v2, v5, v8, v11, v18, v14987, v14990], NA (eI .i64) 256 v11 c12 x13.flatten, Arr v18 1 c14984, NA (eI .i64) 1 v14987 c14988 x14989, Arr v14990 2 c14991]) (L := [Arr v14095 1 c14096]) (F := Arr v14562 1 c14563 :: hs) H
                      refine ne (E_call fn25 rfl (c_25 HA  (r4.up hl15038) (r7.up hl15038) (r10.up hl15038) gl14 (r14986.up hl15038) (r14993.up hl15038) (arr_rd (by decide) hl15038 (hL (Arr v14095 1 c14096) (by simp)) r14098) hq15037)) rfl rfl ?_
                      rintro _ wd15049 ⟨c15039, v15040, c15041, v15042, c15043, x15044, x15045, x15046, rfl, rfl, r15047, r15048, H⟩
                      try dsimp only at hB15027
                      replace H := hback H
                      replace r15047 := rdL.flat (ρ := ρ') (ρ' := ρ) (flat_I _) r15047
                      replace r15048 := rdL.flat (ρ := ρ') (ρ' := ρ) (flat_P (flat_I _) (flat_I _)) r15048
                      dsimp only [List.cons_append, List.nil_append] at H
                      refine WL_nil <| x_block <| x_then <| R_nd <| nq (Q_add rfl rfl) rfl rfl <| nq (Q_move rfl) rfl rfl <| WL_nil ?_
                      replace H := H.front 6 rfl
                      dsimp only [List.eraseIdx] at H
                      replace H := H.front 6 rfl
                      dsimp only [List.eraseIdx] at H
                      replace H := H.front 6 rfl
                      dsimp only [List.eraseIdx] at H
                      replace H := H.front 6 rfl
                      dsimp only [List.eraseIdx] at H
                      replace H := H.front 6 rfl
                      dsimp only [List.eraseIdx] at H
                      replace H := H.front 6 rfl
                      dsimp only [List.eraseIdx] at H
                      replace H := H.front 6 rfl
                      dsimp only [List.eraseIdx] at H
                      obtain rfl := Option.some.inj hB15027
                      refine x_A fun a hf => ⟨_, rfl, c15039, v15040, c15041, v15042, c15043, x15044, x15045, x15046, w64 (x14994 + 1), rfl, r15047, r15048, hf.sub ⟨rfl, rfl, rfl, rfl, rfl, trivial⟩, H⟩
                    · replace hB15027 := itF hb hB15027
                      refine C_exit <| x_then_exit <| x_then_exit <| x_block_exit ?_
                      replace H := H.front 4 rfl
                      dsimp only [List.eraseIdx] at H
                      replace H := H.front 4 rfl
                      dsimp only [List.eraseIdx] at H
                      replace H := H.front 4 rfl
                      dsimp only [List.eraseIdx] at H
                      replace H := H.front 4 rfl
                      dsimp only [List.eraseIdx] at H
                      replace H := H.front 4 rfl
                      dsimp only [List.eraseIdx] at H
                      replace H := H.drop 5 rfl
                      dsimp only [List.eraseIdx] at H
                      replace H := H.drop 5 rfl
                      dsimp only [List.eraseIdx] at H
                      obtain rfl := Option.some.inj hB15027
                      obtain rfl := hO15028 _ rfl
                      refine x_A fun a hf => ⟨c14984, v14987, c14988, v14990, c14991, x14985, x14989, x14992, rfl, r14986, r14993, hf.sub ⟨rfl, trivial⟩, H⟩
                · rintro a wd15050 ⟨c14942, v14945, c14946, v14948, c14949, x14943, x14947, x14950, rfl, r14944, r14951, hf, H⟩
                  try dsimp only at hB13810
                  refine XX.at hf <| x_block ?_
                  replace H := H.front 4 rfl
                  dsimp only [List.eraseIdx] at H
                  replace H := H.front 4 rfl
                  dsimp only [List.eraseIdx] at H
                  replace H := H.front 4 rfl
                  dsimp only [List.eraseIdx] at H
                  replace H := H.front 4 rfl
                  dsimp only [List.eraseIdx] at H
                  replace H := H.front 4 rfl
                  dsimp only [List.eraseIdx] at H
                  obtain rfl := Option.some.inj hB13810
                  refine x_A fun a hf => ⟨_, rfl, c14942, v14945, c14946, v14948, c14949, x14943, x14947, x14950, rfl, r14944, r14951, hf.sub ⟨rfl, trivial⟩, H⟩
      · replace hB13810 := itF hb hB13810
        refine C_exit <| x_then_exit <| x_then_exit <| x_block_exit ?_
        replace H := H.front 4 rfl
        dsimp only [List.eraseIdx] at H
        replace H := H.front 4 rfl
        dsimp only [List.eraseIdx] at H
        replace H := H.front 4 rfl
        dsimp only [List.eraseIdx] at H
        replace H := H.front 4 rfl
        dsimp only [List.eraseIdx] at H
        replace H := H.front 4 rfl
        dsimp only [List.eraseIdx] at H
        obtain rfl := Option.some.inj hB13810
        obtain rfl := hO13811 _ rfl
        refine x_A fun a hf => ⟨c12551, v12554, c12555, v12557, c12558, x12552, x12556, x12559, rfl, r12553, r12560, hf.sub trivial, H⟩
  · rintro a wd15051 ⟨c11292, v11295, c11296, v11298, c11299, x11293, x11297, x11300, rfl, r11294, r11301, hf, H⟩
    try dsimp only at hF
    refine XX.at hf ?_
    replace H := H.front 4 rfl
    dsimp only [List.eraseIdx] at H
    replace H := H.front 4 rfl
    dsimp only [List.eraseIdx] at H
    replace H := H.front 4 rfl
    dsimp only [List.eraseIdx] at H
    replace H := H.front 4 rfl
    dsimp only [List.eraseIdx] at H
    replace H := H.front 4 rfl
    dsimp only [List.eraseIdx] at H
    obtain rfl := Option.some.inj hF
    exact fn_end (l := []) (vs := []) rfl rfl rfl ⟨c11292, v11295, c11296, v11298, c11299, x11293, x11297, x11300, rfl, rfl, r11294, r11301, H⟩
theorem c_16 {N : Nat} {C : Cx} {w : World} {ρ : View} {hs : List Hl} {v1 : Value} {v4 : Value} {v7 : Value} {x2 : (List (List Int))} {x5 : (List Int)} {x8 : (List Int)} (H : Hp C w ρ (hs)) (r3 : RdSl ρ (eA 256 (eI .i64)) v1 x2) (r6 : RdSl ρ (eI .i64) v4 x5) (r9 : RdSl ρ (eI .i64) v7 x8) {r : ((List Int) × Int)} (hF : F_hopcroft_parts N x2 x5 x8 = some r) :
    Calls Try.prog 16 [.agg #[v1, v4, v7]].toArray w (Rets (fun v w' => (∃ (v380 : Value) (c381 : (List Value)) (x382 : (List Int)) (x384 : Int), (x382, x384) = r ∧ .tuple [v380, .int .i64 x384].toArray = v ∧ rdL (eI .i64) ρ x382 c381 ∧ Hp C w' ρ (Arr v380 1 c381 :: hs)))) := by
  unfold F_hopcroft_parts at hF
  have h0 : Try.f16.body = some _ := rfl
  refine fn_calls' Try.func16 h0 (n := 50) rfl (by simp) <| C_seq <| R_nd <| ne (E_box H (vs := [v1, v4, v7]) rfl rfl) rfl rfl ?_
  rintro _ wd386 ⟨b385, rfl, H⟩
  refine nq (Q_assign rfl) rfl rfl <| nq (Q_assign rfl) rfl rfl <| WL_nil <| x_then <| C_seq <| R_nd <| nq (v := .agg #[v1, v4, v7]) (Q_ldB (k := 0) (cs := [v1, v4, v7]) H.ok rfl ty25 rfl rfl rfl (fun h => nomatch h) rfl) rfl rfl <| nq (v := .agg #[v1, v4, v7, .slice none 0 0, .slice none 0 0, .slice none 0 0, .slice none 0 0]) (Q_buildS st60.choose_spec (ps := [(0, [v1, v4, v7])]) rfl ⟨rfl, rfl, by simp, trivial⟩ rfl) rfl rfl <| ne (E_box H (vs := [v1, v4, v7, .slice none 0 0, .slice none 0 0, .slice none 0 0, .slice none 0 0]) rfl rfl) rfl rfl ?_
  rintro _ wd388 ⟨b387, rfl, H⟩
  refine nq (Q_assign rfl) rfl rfl <| WL_nil <| x_then <| C_seq <| R_nd <| nq (Q_move rfl) rfl rfl ?_
  have H := H.nilNA (eI .i64) 256
  have H := H.nilArr 1
  have H := H.nilNA (eI .i64) 1
  have H := H.nilArr 2
  replace H := H.front 1 rfl
  dsimp only [List.eraseIdx] at H
  replace H := H.front 2 rfl
  dsimp only [List.eraseIdx] at H
  replace H := H.front 3 rfl
  dsimp only [List.eraseIdx] at H
  replace H := H.front 4 rfl
  dsimp only [List.eraseIdx] at H
  obtain ⟨q389, hq389, hF⟩ := bnd hF
  refine ne (E_call fn20 rfl (c_20 H  r3 r6 r9 nil_gl rdL.nil rdL.nil hq389)) rfl rfl ?_
  rintro _ wd406 ⟨v391, c392, v393, c394, v395, c396, v397, c398, x399, x400, x401, x402, rfl, rfl, r403, r404, r405, H⟩
  try dsimp only at hF
  refine WL_nil <| x_then <| C_seq <| R_nd <| nq (Q_move rfl) rfl rfl ?_
  replace H := H.front 4 rfl
  dsimp only [List.eraseIdx] at H
  replace H := H.front 4 rfl
  dsimp only [List.eraseIdx] at H
  replace H := H.front 6 rfl
  dsimp only [List.eraseIdx] at H
  replace H := H.front 6 rfl
  dsimp only [List.eraseIdx] at H
  replace H := H.front 4 rfl
  dsimp only [List.eraseIdx] at H
  obtain ⟨q407, hq407, hF⟩ := bnd hF
  refine ne (E_call fn21 rfl (c_21 H  r3 r6 r9 r403 r404 r405 hq407)) rfl rfl ?_
  rintro _ wd419 ⟨c409, v410, c411, v412, c413, x414, x415, x416, rfl, rfl, r417, r418, H⟩
  try dsimp only at hF
  refine WL_nil <| x_then <| C_seq <| R_nd <| ne (E_makeMap (kI .i64) (Value.int .i64) H) rfl rfl ?_
  rintro _ wd421 ⟨b420, rfl, H⟩
  refine nq (Q_assign rfl) rfl rfl <| WL_nil <| x_then <| C_seq <| R_nd <| nq (Q_assign rfl) rfl rfl <| WL_nil <| x_then <| C_seq <| C_seq <| R_nd <| nq (Q_move rfl) rfl rfl <| nq (Q_nilP rfl) rfl rfl <| nq (v := .pointer (some ⟨b387, 4, none⟩)) (Q_fld Try.underlying60 rfl ty23 (by decide) rfl rfl) rfl rfl ?_
  refine nq (v := v393) (Q_ldB (k := 1) (cs := [v393]) H.ok rfl ty23 rfl rfl rfl (fun _ => rfl) rfl) rfl rfl <| nq (Q_lenA (k := 3) H.ok rfl r417 (by decide) Try.underlying23 rfl) rfl rfl <| nq (Q_move rfl) rfl rfl <| WL_nil <| x_then ?_
  obtain ⟨o590, ho590, hF⟩ := bnd hF
  refine C_cutQ (fun a w' => ∃ (v586 : Value) (c587 : (List Value)) (x585 : (List (Int × Int))) (x588 : (List Int)), (x585, x588) = o590 ∧ rdL (eI .i64) ρ x588 c587 ∧ Fr 50 a [(5, .map (some b420)), (6, v586)] ∧ Hp C w' ρ (Mp (kI .i64) (Value.int .i64) b420 x585 :: Arr v586 1 c587 :: hs)) ?_ ?_
  · refine C_block ?_
    have H := H.nilArr 1
    replace H := H.front 1 rfl
    dsimp only [List.eraseIdx] at H
    replace H := H.front 4 rfl
    dsimp only [List.eraseIdx] at H
    replace H := H.drop 3 rfl
    dsimp only [List.eraseIdx] at H
    replace H := H.drop 3 rfl
    dsimp only [List.eraseIdx] at H
    replace H := H.drop 3 rfl
    dsimp only [List.eraseIdx] at H
    replace H := H.drop 3 rfl
    dsimp only [List.eraseIdx] at H
    replace H := H.drop 3 rfl
    dsimp only [List.eraseIdx] at H
    replace H := H.drop 3 rfl
    dsimp only [List.eraseIdx] at H
    replace H := H.drop 3 rfl
    dsimp only [List.eraseIdx] at H
    refine C_iter (f := fun s => F_hopcroft_parts_l0 N x414 s.1 s.2.1 s.2.2) ho590 (fun s a w' => ∃ (v646 : Value) (c647 : (List Value)) (x644 : Int) (x645 : (List (Int × Int))) (x648 : (List Int)), (x644, x645, x648) = s ∧ rdL (eI .i64) ρ x648 c647 ∧ Fr 50 a [(5, .map (some b420)), (6, v646), (22, v393), (23, .int .i64 (x414.length : Int)), (24, .int .i64 x644)] ∧ Hp C w' ρ (Arr v393 1 c409 :: Mp (kI .i64) (Value.int .i64) b420 x645 :: Arr v646 1 c647 :: hs)) ?_ ?_
    · exact fun a hf => ⟨(.slice none 0 0), [], 0, ([] : List (Int × Int)), [], rfl, rdL.nil, hf.sub ⟨rfl, rfl, rfl, rfl, rfl, trivial⟩, H⟩
    · rintro s o703 a wd706 ⟨v646, c647, x644, x645, x648, rfl, r649, hf, H⟩ hB704 hO705
      replace hB704 : F_hopcroft_parts_l0 N x414 x644 x645 x648 = some o703 := hB704
      unfold F_hopcroft_parts_l0 at hB704
      refine CW.at hf <| C_seq <| R_nd <| nq (Q_lss rfl rfl) rfl rfl <| WL_nil <| x_then <| C_seq ?_
      refine C_cond rfl (fun hb => ?_) (fun hb => ?_)
      · replace hB704 := itT hb hB704
        refine C_skip <| x_then ?_
        obtain ⟨o732, ho732, hB704⟩ := bnd hB704
        refine C_cut (fun a w' => ∃ (v728 : Value) (c729 : (List Value)) (x727 : (List (Int × Int))) (x730 : (List Int)), (x727, x730) = o732 ∧ rdL (eI .i64) ρ x730 c729 ∧ Fr 50 a [(5, .map (some b420)), (6, v728), (22, v393), (23, .int .i64 (x414.length : Int)), (24, .int .i64 x644)] ∧ Hp C w' ρ (Arr v393 1 c409 :: Mp (kI .i64) (Value.int .i64) b420 x727 :: Arr v728 1 c729 :: hs)) ?_ ?_
        · refine C_block <| C_seq <| R_nd ?_
          obtain ⟨x733, hx733, ho732⟩ := bnd ho732
          obtain ⟨b734, o735, hi739, hc737, ha738⟩ := arr_at (hs := [Arr v393 1 c409]) (k := 0) (by decide) (H.okS (by simp)) rfl r417 hx733
          refine nq (Q_idx hi739 Try.underlying23 ty3 rfl rfl) rfl rfl <| nq (v := .int .i64 x733) (Q_ld (show cellsAt _ _ _ [.int .i64 x733] from (show _ = [_] from hc737) ▸ (ha738 _ (Ok.subS (by simp) H.ok))) ty3 rfl (fun _ => rfl) rfl rfl) rfl rfl <| nq (Q_assign rfl) rfl rfl <| WL_nil <| x_then <| C_seq <| C_seq <| R_nd <| nq (Q_move rfl) rfl rfl <| nq (Q_move rfl) rfl rfl <| nq (v := .tuple [.int .i64 ((mget x645 x733).getD 0), .bool ((mget x645 x733).isSome)].toArray) (Q_look (zp := 0) (k := 1) H.ok rfl Try.underlying61 (kOk_I Try.underlying3) trivial ty3 rfl rfl rfl) rfl rfl <| nq (Q_move rfl) rfl rfl <| nq (Q_extract rfl rfl) rfl rfl <| nq (Q_extract rfl rfl) rfl rfl ?_
          refine nq (Q_assign rfl) rfl rfl <| nq (Q_assign rfl) rfl rfl <| WL_nil <| x_then <| C_seq <| R_nd <| nq (Q_move rfl) rfl rfl <| nq (Q_not rfl) rfl rfl <| WL_nil <| x_then ?_
          obtain ⟨o742, ho742, ho732⟩ := bnd ho732
          refine C_cutQ (fun a w' => ∃ (x741 : (List (Int × Int))), x741 = o742 ∧ Fr 50 a [(5, .map (some b420)), (6, v646), (8, .int .i64 x733), (22, v393), (23, .int .i64 (x414.length : Int)), (24, .int .i64 x644)] ∧ Hp C w' ρ (Arr v393 1 c409 :: Mp (kI .i64) (Value.int .i64) b420 x741 :: Arr v646 1 c647 :: hs)) ?_ ?_
          · refine C_cond rfl (fun hb => ?_) (fun hb => ?_)
            · replace ho742 := itT hb ho742
              refine R_nd <| nq (Q_move rfl) rfl rfl <| nq (Q_move rfl) rfl rfl <| nq (Q_move rfl) rfl rfl <| nq (v := .int .i64 (x645.length : Int)) (Q_lenM (k := 1) H.ok rfl Try.underlying61 rfl) rfl rfl <| ne (E_mset (b := (x645.length : Int)) (k := 1) H rfl Try.underlying61 (kOk_I Try.underlying3) trivial rfl rfl rfl) rfl rfl ?_
              rintro _ wd743 H
              dsimp only [List.set] at H
              refine WL_nil ?_
              replace H := H.front 2 rfl
              dsimp only [List.eraseIdx] at H
              replace H := H.front 2 rfl
              dsimp only [List.eraseIdx] at H
              replace H := H.front 2 rfl
              dsimp only [List.eraseIdx] at H
              obtain rfl := Option.some.inj ho742
              refine x_A fun a hf => ⟨(mset x645 x733 (x645.length : Int)), rfl, hf.sub ⟨rfl, rfl, rfl, rfl, rfl, rfl, trivial⟩, H⟩
            · replace ho742 := itF hb ho742
              refine C_skip ?_
              replace H := H.front 2 rfl
              dsimp only [List.eraseIdx] at H
              replace H := H.front 2 rfl
              dsimp only [List.eraseIdx] at H
              replace H := H.front 2 rfl
              dsimp only [List.eraseIdx] at H
              obtain rfl := Option.some.inj ho742
              refine x_A fun a hf => ⟨x645, rfl, hf.sub ⟨rfl, rfl, rfl, rfl, rfl, rfl, trivial⟩, H⟩
          · rintro a wd744 ⟨x741, rfl, hf, H⟩
            try dsimp only at ho732
            refine XX.at hf <| x_then <| R_nd <| nq (Q_move rfl) rfl rfl <| nq (Q_move rfl) rfl rfl <| nq (Q_move rfl) rfl rfl <| nq (v := .int .i64 ((mget x741 x733).getD 0)) (Q_look1 (zp := 0) (k := 1) H.ok rfl Try.underlying61 (kOk_I Try.underlying3) trivial ty3 rfl rfl rfl) rfl rfl <| ne (E_bslice (xs := [.tmp 43]) (vs := [.int .i64 ((mget x741 x733).getD 0)]) H Try.underlying23 ty3 (by decide) (cs := [.int .i64 ((mget x741 x733).getD 0)]) rfl (sz_cons rfl sz_nil) rfl (by simp) (by simp) rfl rfl) rfl rfl ?_
            rintro _ wd746 ⟨b745, rfl, H⟩
            obtain ⟨x747, hx747, ho732⟩ := bnd ho732
            obtain ⟨ha748a, ha748b⟩ := app_some hx747
            have r750 : rdL (eI .i64) ρ x747 (c647 ++ ([.int .i64 ((mget x741 x733).getD 0)])) := ha748b ▸ rdL.app r649 (show rdL (eI .i64) ρ ([(mget x741 x733).getD 0]) ([.int .i64 ((mget x741 x733).getD 0)]) from ⟨([.int .i64 ((mget x741 x733).getD 0)]), _, rfl, rfl, rdL.nil⟩)
            refine ne (E_append (k := 3) H rfl Try.underlying23 ty3 rfl (by decide) (by decide) rfl rfl (Src.ofArr (k := 0) H.ok rfl) (rdL.one (show rdL (eI .i64) ρ ([(mget x741 x733).getD 0]) ([.int .i64 ((mget x741 x733).getD 0)]) from ⟨([.int .i64 ((mget x741 x733).getD 0)]), _, rfl, rfl, rdL.nil⟩)) (app_fit r649 (show rdL (eI .i64) ρ ([(mget x741 x733).getD 0]) ([.int .i64 ((mget x741 x733).getD 0)]) from ⟨([.int .i64 ((mget x741 x733).getD 0)]), _, rfl, rfl, rdL.nil⟩) ha748a)) rfl rfl ?_
            rintro v749 wd752 ⟨H, hc751⟩
            dsimp only [List.set] at H
            refine nq (Q_assign rfl) rfl rfl <| WL_nil <| x_block ?_
            replace H := H.front 3 rfl
            dsimp only [List.eraseIdx] at H
            replace H := H.front 3 rfl
            dsimp only [List.eraseIdx] at H
            replace H := H.front 3 rfl
            dsimp only [List.eraseIdx] at H
            replace H := H.drop 3 rfl
            dsimp only [List.eraseIdx] at H
            obtain rfl := Option.some.inj ho732
            refine x_A fun a hf => ⟨v749, (c647 ++ ([.int .i64 ((mget x741 x733).getD 0)])), x741, x747, rfl, r750, hf.sub ⟨rfl, rfl, rfl, rfl, rfl, trivial⟩, H⟩
        · rintro a wd753 ⟨v728, c729, x727, x730, rfl, r731, hf, H⟩
          try dsimp only at hB704
          refine CW.at hf <| R_nd <| nq (Q_add rfl rfl) rfl rfl <| nq (Q_move rfl) rfl rfl <| WL_nil ?_
          replace H := H.front 2 rfl
          dsimp only [List.eraseIdx] at H
          replace H := H.front 2 rfl
          dsimp only [List.eraseIdx] at H
          replace H := H.front 2 rfl
          dsimp only [List.eraseIdx] at H
          obtain rfl := Option.some.inj hB704
          refine x_A fun a hf => ⟨_, rfl, v728, c729, w64 (x644 + 1), x727, x730, rfl, r731, hf.sub ⟨rfl, rfl, rfl, rfl, rfl, trivial⟩, H⟩
      · replace hB704 := itF hb hB704
        refine C_exit <| x_then_exit <| x_then_exit <| x_block_exit ?_
        replace H := H.front 2 rfl
        dsimp only [List.eraseIdx] at H
        replace H := H.front 2 rfl
        dsimp only [List.eraseIdx] at H
        replace H := H.drop 2 rfl
        dsimp only [List.eraseIdx] at H
        obtain rfl := Option.some.inj hB704
        obtain rfl := hO705 _ rfl
        refine x_A fun a hf => ⟨v646, c647, x645, x648, rfl, r649, hf.sub ⟨rfl, rfl, trivial⟩, H⟩
  · rintro a wd754 ⟨v586, c587, x585, x588, rfl, r589, hf, H⟩
    try dsimp only at hF
    refine XX.at hf <| x_then <| C_seq <| R_nd <| nq (Q_move rfl) rfl rfl <| nq (Q_move rfl) rfl rfl <| nq (v := .int .i64 (x585.length : Int)) (Q_lenM (k := 0) H.ok rfl Try.underlying61 rfl) rfl rfl <| nq (Q_assign rfl) rfl rfl <| nq (Q_assign rfl) rfl rfl <| WL_nil <| x_then <| C_ret ?_
    replace H := H.front 1 rfl
    dsimp only [List.eraseIdx] at H
    replace H := H.drop 1 rfl
    dsimp only [List.eraseIdx] at H
    obtain rfl := Option.some.inj hF
    exact fn_ret (l := [.tmp 2, .tmp 3]) (vs := [v586, .int .i64 (x585.length : Int)]) rfl rfl rfl ⟨v586, c587, x588, (x585.length : Int), rfl, rfl, r589, H⟩
theorem c_10 {N : Nat} {C : Cx} {w : World} {ρ : View} {hs : List Hl} {v1 : Value} {v4 : Value} {v7 : Value} {x2 : (List (List Int))} {x5 : (List Int)} {x8 : (List Int)} (H : Hp C w ρ (hs)) (r3 : RdSl ρ (eA 256 (eI .i64)) v1 x2) (r6 : RdSl ρ (eI .i64) v4 x5) (r9 : RdSl ρ (eI .i64) v7 x8) {r : (List Int)} (hF : F_hopcroft_Parts N x2 x5 x8 = some r) :
    Calls Try.prog 10 [.agg #[v1, v4, v7]].toArray w (Rets (fun v w' => (∃ (v24 : Value) (c25 : (List Value)) (x26 : (List Int)), x26 = r ∧ v24 = v ∧ rdL (eI .i64) ρ x26 c25 ∧ Hp C w' ρ (Arr v24 1 c25 :: hs)))) := by
  unfold F_hopcroft_Parts at hF
  have h0 : Try.f10.body = some _ := rfl
  refine fn_calls' Try.func10 h0 (n := 14) rfl (by simp) <| C_seq <| R_nd <| ne (E_box H (vs := [v1, v4, v7]) rfl rfl) rfl rfl ?_
  rintro _ wd29 ⟨b28, rfl, H⟩
  refine nq (Q_assign rfl) rfl rfl <| WL_nil <| x_then <| C_seq <| C_seq <| R_nd <| nq (v := .agg #[v1, v4, v7]) (Q_ldB (k := 0) (cs := [v1, v4, v7]) H.ok rfl ty25 rfl rfl rfl (fun h => nomatch h) rfl) rfl rfl ?_
  obtain ⟨q30, hq30, hF⟩ := bnd hF
  refine ne (E_call fn13 rfl (c_13 H  r3 r6 r9 hq30)) rfl rfl ?_
  rintro _ wd33 ⟨x32, rfl, rfl, H⟩
  try dsimp only at hF
  refine nq (Q_not rfl) rfl rfl <| WL_nil <| x_then ?_
  refine C_cond rfl (fun hb => ?_) (fun hb => ?_)
  · replace hF := itT hb hF
    refine C_seq <| R_nd <| nq (Q_assign rfl) rfl rfl <| WL_nil <| x_then <| C_ret <| x_then_ret ?_
    have H := H.nilArr 1
    replace H := H.drop 1 rfl
    dsimp only [List.eraseIdx] at H
    obtain rfl := Option.some.inj hF
    exact fn_ret (l := [.tmp 2]) (vs := [(.slice none 0 0)]) rfl rfl rfl ⟨(.slice none 0 0), [], [], rfl, rfl, rdL.nil, H⟩
  · replace hF := itF hb hF
    refine C_skip <| x_then <| C_seq <| R_nd <| nq (v := .agg #[v1, v4, v7]) (Q_ldB (k := 0) (cs := [v1, v4, v7]) H.ok rfl ty25 rfl rfl rfl (fun h => nomatch h) rfl) rfl rfl ?_
    obtain ⟨q34, hq34, hF⟩ := bnd hF
    refine ne (E_call fn16 rfl (c_16 H  r3 r6 r9 hq34)) rfl rfl ?_
    rintro _ wd41 ⟨v36, c37, x38, x39, rfl, rfl, r40, H⟩
    try dsimp only at hF
    refine nq (Q_move rfl) rfl rfl <| nq (Q_extract rfl rfl) rfl rfl <| nq (Q_extract rfl rfl) rfl rfl <| nq (Q_assign rfl) rfl rfl <| nq (Q_assign rfl) rfl rfl <| WL_nil <| x_then <| C_seq <| R_nd <| nq (Q_move rfl) rfl rfl <| nq (Q_assign rfl) rfl rfl <| WL_nil <| x_then <| C_ret ?_
    replace H := H.drop 1 rfl
    dsimp only [List.eraseIdx] at H
    obtain rfl := Option.some.inj hF
    exact fn_ret (l := [.tmp 2]) (vs := [v36]) rfl rfl rfl ⟨v36, c37, x38, rfl, rfl, r40, H⟩
theorem c_9 {N : Nat} {C : Cx} {w : World} {ρ : View} {hs : List Hl} {v1 : Value} {v4 : Value} {x2 : (List Int)} {x5 : (List Int)} (H : Hp C w ρ (hs)) (r3 : RdSl ρ (eI .i64) v1 x2) (r6 : RdSl ρ (eI .i64) v4 x5) {r : Bool} (hF : F_doffernum_SameInts N x2 x5 = some r) :
    Calls Try.prog 9 [v1, v4].toArray w (Rets (fun v w' => (∃ (x107 : Bool), x107 = r ∧ .bool x107 = v ∧ Hp C w' ρ (hs)))) := by
  unfold F_doffernum_SameInts at hF
  have h0 : Try.f9.body = some _ := rfl
  refine fn_calls' Try.func9 h0 (n := 26) rfl (by simp) <| C_seq <| R_nd <| nq (Q_assign rfl) rfl rfl <| WL_nil <| x_then <| C_seq <| C_seq <| R_nd <| nq (Q_move rfl) rfl rfl <| nq (Q_len Try.underlying23 rfl r3) rfl rfl <| nq (Q_move rfl) rfl rfl <| nq (Q_len Try.underlying23 rfl r6) rfl rfl <| nq (Q_neq rfl rfl) rfl rfl ?_
  refine WL_nil <| x_then ?_
  refine C_cond rfl (fun hb => ?_) (fun hb => ?_)
  · replace hF := itT hb hF
    refine C_seq <| R_nd <| nq (Q_assign rfl) rfl rfl <| WL_nil <| x_then <| C_ret <| x_then_ret ?_
    obtain rfl := Option.some.inj hF
    exact fn_ret (l := [.tmp 4]) (vs := [.bool false]) rfl rfl rfl ⟨false, rfl, rfl, H⟩
  · replace hF := itF hb hF
    refine C_skip <| x_then <| C_seq <| C_seq <| R_nd <| nq (Q_move rfl) rfl rfl <| nq (Q_len Try.underlying23 rfl r3) rfl rfl <| nq (Q_move rfl) rfl rfl <| WL_nil <| x_then ?_
    obtain ⟨o157, ho157, hF⟩ := bnd hF
    refine C_cutQ (fun a w' => .inl () = o157 ∧ Fr 26 a [] ∧ Hp C w' ρ (hs)) ?_ ?_
    · refine C_block ?_
      refine C_iter (f := fun s => F_doffernum_SameInts_l0 N x2 x5 s) ho157 (fun s a w' => ∃ (x173 : Int), x173 = s ∧ Fr 26 a [(0, v1), (1, v4), (12, .int .i64 (x2.length : Int)), (13, .int .i64 x173)] ∧ Hp C w' ρ (hs)) ?_ ?_
      · exact fun a hf => ⟨0, rfl, hf.sub ⟨rfl, rfl, rfl, rfl, trivial⟩, H⟩
      · rintro s o189 a wd192 ⟨x173, rfl, hf, H⟩ hB190 hO191
        replace hB190 : F_doffernum_SameInts_l0 N x2 x5 x173 = some o189 := hB190
        unfold F_doffernum_SameInts_l0 at hB190
        refine CW.at hf <| C_seq <| R_nd <| nq (Q_lss rfl rfl) rfl rfl <| WL_nil <| x_then <| C_seq ?_
        refine C_cond rfl (fun hb => ?_) (fun hb => ?_)
        · replace hB190 := itT hb hB190
          refine C_skip <| x_then <| C_seq <| C_block <| C_seq <| R_nd <| nq (Q_move rfl) rfl rfl <| nq (Q_assign rfl) rfl rfl <| WL_nil <| x_then <| C_seq <| R_dr (.take 0 (.take 1 (.take 2 (.take 3 (.take 4 (.take 5 (.take 6 (.take 7 (.take 8 .done))))))))) (fun w' => Ok w' ρ []) (by kernel_rfl) (by kernel_rfl) (by kernel_rfl) (H.drew.okS (by simp)) ?_
          replace H := H.drew
          refine dq rfl (fun _ _ => Q_move rfl) rfl rfl <| dq rfl (fun _ _ => Q_move rfl) rfl rfl ?_
          obtain ⟨x193, hx193, hB190⟩ := bnd hB190
          obtain ⟨b194, o195, c196, hc197, ha198, hi199⟩ := idxR r3 hx193
          refine dq rfl (fun _ _ => Q_idx hi199 Try.underlying23 ty3 rfl rfl) rfl rfl <| dq (v := .int .i64 x193) rfl (fun _ hw => Q_ld (show cellsAt _ _ _ [.int .i64 x193] from (show _ = [_] from hc197) ▸ (ha198.up hw.view)) ty3 rfl (fun _ => rfl) rfl rfl) rfl rfl <| dq rfl (fun _ _ => Q_move rfl) rfl rfl <| dq rfl (fun _ _ => Q_move rfl) rfl rfl ?_
          obtain ⟨x200, hx200, hB190⟩ := bnd hB190
          obtain ⟨b201, o202, c203, hc204, ha205, hi206⟩ := idxR r6 hx200
          refine dq rfl (fun _ _ => Q_idx hi206 Try.underlying23 ty3 rfl rfl) rfl rfl <| dq (v := .int .i64 x200) rfl (fun _ hw => Q_ld (show cellsAt _ _ _ [.int .i64 x200] from (show _ = [_] from hc204) ▸ (ha205.up hw.view)) ty3 rfl (fun _ => rfl) rfl rfl) rfl rfl <| dq rfl (fun _ _ => Q_neq rfl rfl) rfl rfl <| DL_nil <| x_then ?_
          refine C_cond rfl (fun hb => ?_) (fun hb => ?_)
          · replace hB190 := itT hb hB190
            refine C_seq <| R_nd <| nq (Q_assign rfl) rfl rfl <| WL_nil <| x_then <| C_ret <| x_block_ret <| x_then_ret <| x_then_ret <| x_block_ret <| x_then_ret <| x_then_ret ?_
            obtain rfl := Option.some.inj hB190
            obtain rfl := hO191 _ rfl
            obtain rfl := Option.some.inj (show some _ = some _ from hF)
            exact fn_ret (l := [.tmp 4]) (vs := [.bool false]) rfl rfl rfl ⟨false, rfl, rfl, H⟩
          · replace hB190 := itF hb hB190
            refine C_skip <| x_block <| x_then <| R_nd <| nq (Q_add rfl rfl) rfl rfl <| nq (Q_move rfl) rfl rfl <| WL_nil ?_
            obtain rfl := Option.some.inj hB190
            refine x_A fun a hf => ⟨_, rfl, w64 (x173 + 1), rfl, hf.sub ⟨rfl, rfl, rfl, rfl, trivial⟩, H⟩
        · replace hB190 := itF hb hB190
          refine C_exit <| x_then_exit <| x_then_exit <| x_block_exit ?_
          obtain rfl := Option.some.inj hB190
          obtain rfl := hO191 _ rfl
          refine x_A fun a hf => ⟨rfl, hf.sub trivial, H⟩
    · rintro a wd207 ⟨rfl, hf, H⟩
      try dsimp only at hF
      refine XX.at hf <| x_then <| C_seq <| R_nd <| nq (Q_assign rfl) rfl rfl <| WL_nil <| x_then <| C_ret ?_
      obtain rfl := Option.some.inj hF
      exact fn_ret (l := [.tmp 4]) (vs := [.bool true]) rfl rfl rfl ⟨true, rfl, rfl, H⟩
theorem c_4 {N : Nat} {C : Cx} {w : World} {ρ : View} {hs : List Hl} (H : Hp C w ρ (hs)) {r : Bool} (hF : F_dofferlaw19_alive N = some r) :
    Calls Try.prog 4 [].toArray w (Rets (fun v w' => (∃ (x27 : Bool), x27 = r ∧ .bool x27 = v ∧ Hp C w' ρ (hs)))) := by
  unfold F_dofferlaw19_alive at hF
  have h0 : Try.f4.body = some _ := rfl
  refine fn_calls' Try.func4 h0 (n := 5) rfl (by simp) <| C_seq <| R_nd <| nq (Q_assign rfl) rfl rfl <| WL_nil <| x_then <| C_seq <| R_nd ?_
  obtain ⟨q28, hq28, hF⟩ := bnd hF
  refine ne (E_call fn11 rfl (c_11 H   hq28)) rfl rfl ?_
  rintro _ wd40 ⟨v30, c31, v32, c33, v34, c35, x36, rfl, rfl, r37, r38, r39, H⟩
  try dsimp only at hF
  replace H := H.front 2 rfl
  dsimp only [List.eraseIdx] at H
  replace H := H.front 2 rfl
  dsimp only [List.eraseIdx] at H
  replace H := H.front 2 rfl
  dsimp only [List.eraseIdx] at H
  obtain ⟨q41, hq41, hF⟩ := bnd hF
  obtain ⟨C', ρ', hl42, HA, hL, hback⟩ := Hp.lend (A := []) (L := [Arr v30 256 c31, Arr v32 1 c33, Arr v34 1 c35]) (F := hs) H
  refine ne (E_call fn10 rfl (c_10 HA  (arr_rd (by decide) hl42 (hL (Arr v30 256 c31) (by simp)) r37) (arr_rd (by decide) hl42 (hL (Arr v32 1 c33) (by simp)) r38) (arr_rd (by decide) hl42 (hL (Arr v34 1 c35) (by simp)) r39) hq41)) rfl rfl ?_
  rintro _ wd47 ⟨v43, c44, x45, rfl, rfl, r46, H⟩
  try dsimp only at hF
  replace H := hback H
  replace r46 := rdL.flat (ρ := ρ') (ρ' := ρ) (flat_I _) r46
  dsimp only [List.cons_append, List.nil_append] at H
  refine ne (E_bslice (xs := [.const (.int .i64 0), .const (.int .i64 1), .const (.int .i64 1)]) (vs := [.int .i64 0, .int .i64 1, .int .i64 1]) H Try.underlying23 ty3 (by decide) (cs := [.int .i64 0, .int .i64 1, .int .i64 1]) rfl (sz_cons rfl (sz_cons rfl (sz_cons rfl sz_nil))) rfl (by simp) (by simp) rfl rfl) rfl rfl ?_
  rintro _ wd49 ⟨b48, rfl, H⟩
  replace H := H.front 1 rfl
  dsimp only [List.eraseIdx] at H
  obtain ⟨q50, hq50, hF⟩ := bnd hF
  obtain ⟨C', ρ', hl51, HA, hL, hback⟩ := Hp.lend (A := []) (L := [Arr v43 1 c44, Arr (.slice (some ⟨b48, 0, none⟩) 3 3) 1 ([.int .i64 0, .int .i64 1, .int .i64 1])]) (F := Arr v30 256 c31 :: Arr v32 1 c33 :: Arr v34 1 c35 :: hs) H
  refine ne (E_call fn9 rfl (c_9 HA  (arr_rd (by decide) hl51 (hL (Arr v43 1 c44) (by simp)) r46) (arr_rd (by decide) hl51 (hL (Arr (.slice (some ⟨b48, 0, none⟩) 3 3) 1 ([.int .i64 0, .int .i64 1, .int .i64 1])) (by simp)) (show rdL (eI .i64) ρ ([0, 1, 1]) ([.int .i64 0, .int .i64 1, .int .i64 1]) from ⟨([.int .i64 0]), _, rfl, rfl, ⟨([.int .i64 1]), _, rfl, rfl, ⟨([.int .i64 1]), _, rfl, rfl, rdL.nil⟩⟩⟩)) hq50)) rfl rfl ?_
  rintro _ wd53 ⟨x52, rfl, rfl, H⟩
  try dsimp only at hF
  replace H := hback H
  dsimp only [List.cons_append, List.nil_append] at H
  refine nq (Q_assign rfl) rfl rfl <| WL_nil <| x_then <| C_ret ?_
  replace H := H.drop 0 rfl
  dsimp only [List.eraseIdx] at H
  replace H := H.drop 0 rfl
  dsimp only [List.eraseIdx] at H
  replace H := H.drop 0 rfl
  dsimp only [List.eraseIdx] at H
  replace H := H.drop 0 rfl
  dsimp only [List.eraseIdx] at H
  replace H := H.drop 0 rfl
  dsimp only [List.eraseIdx] at H
  obtain rfl := Option.some.inj hF
  exact fn_ret (l := [.tmp 0]) (vs := [.bool x52]) rfl rfl rfl ⟨x52, rfl, rfl, H⟩
theorem c_5 {N : Nat} {C : Cx} {w : World} {ρ : View} {hs : List Hl} {v1 : Value} {v4 : Value} {v7 : Value} {x2 : (List (List Int))} {x5 : (List Int)} {x8 : (List Int)} {x10 : Int} (H : Hp C w ρ (hs)) (r3 : RdSl ρ (eA 256 (eI .i64)) v1 x2) (r6 : RdSl ρ (eI .i64) v4 x5) (r9 : RdSl ρ (eI .i64) v7 x8) {r : ((List (List Int)) × Bool)} (hF : F_dofferlaw17_Of N x2 x5 x8 x10 = some r) :
    Calls Try.prog 5 [.agg #[v1, v4, v7], .int .i64 x10].toArray w (Rets (fun v w' => (∃ (v181 : Value) (c182 : (List Value)) (x183 : (List (List Int))) (x185 : Bool), (x183, x185) = r ∧ .tuple [.agg #[v181, v4, v7], .bool x185].toArray = v ∧ rdL (eA 256 (eI .i64)) ρ x183 c182 ∧ Hp C w' ρ (Arr v181 256 c182 :: hs)))) := by
  unfold F_dofferlaw17_Of at hF
  have h0 : Try.f5.body = some _ := rfl
  refine fn_calls' Try.func5 h0 (n := 48) rfl (by simp) <| C_seq <| R_nd <| ne (E_box H (vs := [v1, v4, v7]) rfl rfl) rfl rfl ?_
  rintro _ wd187 ⟨b186, rfl, H⟩
  refine ne (E_alloc H ty29 (zs := [.slice none 0 0, .slice none 0 0, .slice none 0 0]) rfl) rfl rfl ?_
  rintro _ wd189 ⟨b188, rfl, H⟩
  refine nq (Q_assign rfl) rfl rfl <| WL_nil <| x_then <| C_seq <| R_nd <| nq (v := .pointer (some ⟨b186, 1, none⟩)) (Q_fld Try.underlying25 rfl ty23 (by decide) rfl rfl) rfl rfl <| nq (v := v4) (Q_ldB (k := 1) (cs := [v4]) H.ok rfl ty23 rfl rfl rfl (fun _ => rfl) rfl) rfl rfl <| nq (v := .pointer (some ⟨b186, 2, none⟩)) (Q_fld Try.underlying25 rfl ty23 (by decide) rfl rfl) rfl rfl <| nq (v := v7) (Q_ldB (k := 1) (cs := [v7]) H.ok rfl ty23 rfl rfl rfl (fun _ => rfl) rfl) rfl rfl <| nq (v := .agg #[.slice none 0 0, v4, v7]) (Q_buildS st29.choose_spec (ps := [(1, [v4]), (2, [v7])]) rfl ⟨rfl, (RdSl.cells r6), by simp, ⟨rfl, (RdSl.cells r9), by simp, trivial⟩⟩ rfl) rfl rfl <| ne (E_alloc H ty29 (zs := [.slice none 0 0, .slice none 0 0, .slice none 0 0]) rfl) rfl rfl ?_
  rintro _ wd191 ⟨b190, rfl, H⟩
  refine ne (E_stB (k := 0) (cs := [.slice none 0 0, v4, v7]) (vs' := [.slice none 0 0, v4, v7]) H rfl ty29 rfl rfl rfl rfl (one_cons rfl (one_cons (RdSl.one r6) (one_cons (RdSl.one r9) one_nil))) (by simp) rfl) rfl rfl ?_
  rintro _ wd192 H
  dsimp only [List.set] at H
  refine WL_nil <| x_then <| C_seq ?_
  obtain ⟨o194, ho194, hF⟩ := bnd hF
  refine C_cut (fun a w' => ∃ (x193 : Bool), x193 = o194 ∧ Fr 48 a [(2, .pointer (some ⟨b186, 0, none⟩)), (4, .pointer (some ⟨b188, 0, none⟩)), (6, .pointer (some ⟨b190, 0, none⟩)), (31, .bool x193)] ∧ Hp C w' ρ (Box b186 [v1, v4, v7] :: Box b188 [.slice none 0 0, .slice none 0 0, .slice none 0 0] :: Box b190 [.slice none 0 0, v4, v7] :: hs)) ?_ ?_
  · refine R_nd <| nq (v := .pointer (some ⟨b186, 0, none⟩)) (Q_fld Try.underlying25 rfl ty22 (by decide) rfl rfl) rfl rfl <| nq (v := v1) (Q_ldB (k := 2) (cs := [v1]) H.ok rfl ty22 rfl rfl rfl (fun _ => rfl) rfl) rfl rfl <| nq (Q_len Try.underlying22 rfl r3) rfl rfl <| nq (Q_move rfl) rfl rfl <| nq (Q_gtr rfl rfl) rfl rfl <| nq (Q_move rfl) rfl rfl ?_
    rcases Bool.eq_false_or_eq_true (decide ((x2.length : Int) > x10)) with hb | hb
    · rw [hb]
      replace ho194 := itT hb ho194
      refine gs rfl rfl rfl rfl <| gs rfl rfl rfl rfl <| gs rfl rfl rfl rfl <| gs rfl rfl rfl rfl <| gs rfl rfl rfl rfl <| nq (Q_pickT rfl rfl) rfl rfl <| nq (Q_move rfl) rfl rfl <| gs rfl rfl rfl rfl <| gs rfl rfl rfl rfl <| gs rfl rfl rfl rfl <| gs rfl rfl rfl rfl <| nq (Q_pickT rfl rfl) rfl rfl <| WL_nil ?_
      replace H := H.front 1 rfl
      dsimp only [List.eraseIdx] at H
      replace H := H.front 2 rfl
      dsimp only [List.eraseIdx] at H
      obtain rfl := Option.some.inj ho194
      refine x_A fun a hf => ⟨true, rfl, hf.sub ⟨rfl, rfl, rfl, rfl, trivial⟩, H⟩
    · rw [hb]
      replace ho194 := itF hb ho194
      refine gq (v := .pointer (some ⟨b186, 1, none⟩)) (Q_fld Try.underlying25 rfl ty23 (by decide) rfl rfl) rfl rfl rfl <| gq (v := v4) (Q_ldB (k := 2) (cs := [v4]) H.ok rfl ty23 rfl rfl rfl (fun _ => rfl) rfl) rfl rfl rfl <| gq (Q_len Try.underlying23 rfl r6) rfl rfl rfl <| gq (Q_move rfl) rfl rfl rfl <| gq (Q_gtr rfl rfl) rfl rfl rfl <| nq (Q_pickF rfl rfl) rfl rfl <| nq (Q_move rfl) rfl rfl ?_
      rcases Bool.eq_false_or_eq_true (decide ((x5.length : Int) > x10)) with hb | hb
      · rw [hb]
        replace ho194 := itT hb ho194
        refine gs rfl rfl rfl rfl <| gs rfl rfl rfl rfl <| gs rfl rfl rfl rfl <| gs rfl rfl rfl rfl <| nq (Q_pickT rfl rfl) rfl rfl <| WL_nil ?_
        replace H := H.front 1 rfl
        dsimp only [List.eraseIdx] at H
        replace H := H.front 2 rfl
        dsimp only [List.eraseIdx] at H
        obtain rfl := Option.some.inj ho194
        refine x_A fun a hf => ⟨true, rfl, hf.sub ⟨rfl, rfl, rfl, rfl, trivial⟩, H⟩
      · rw [hb]
        replace ho194 := itF hb ho194
        refine gq (v := .pointer (some ⟨b186, 2, none⟩)) (Q_fld Try.underlying25 rfl ty23 (by decide) rfl rfl) rfl rfl rfl <| gq (v := v7) (Q_ldB (k := 2) (cs := [v7]) H.ok rfl ty23 rfl rfl rfl (fun _ => rfl) rfl) rfl rfl rfl <| gq (Q_len Try.underlying23 rfl r9) rfl rfl rfl <| gq (Q_gtr rfl rfl) rfl rfl rfl <| nq (Q_pickF rfl rfl) rfl rfl <| WL_nil ?_
        replace H := H.front 1 rfl
        dsimp only [List.eraseIdx] at H
        replace H := H.front 2 rfl
        dsimp only [List.eraseIdx] at H
        obtain rfl := Option.some.inj ho194
        refine x_A fun a hf => ⟨decide ((x8.length : Int) > 20), rfl, hf.sub ⟨rfl, rfl, rfl, rfl, trivial⟩, H⟩
  · rintro a wd195 ⟨x193, rfl, hf, H⟩
    try dsimp only at hF
    refine CW.at hf ?_
    refine C_cond rfl (fun hb => ?_) (fun hb => ?_)
    · replace hF := itT hb hF
      refine C_seq <| R_nd <| nq (v := .agg #[.slice none 0 0, v4, v7]) (Q_ldB (k := 2) (cs := [.slice none 0 0, v4, v7]) H.ok rfl ty29 rfl rfl rfl (fun h => nomatch h) rfl) rfl rfl <| ne (E_stB (k := 1) (cs := [.slice none 0 0, v4, v7]) (vs' := [.slice none 0 0, v4, v7]) H rfl ty29 rfl rfl rfl rfl (one_cons rfl (one_cons (RdSl.one r6) (one_cons (RdSl.one r9) one_nil))) (by simp) rfl) rfl rfl ?_
      rintro _ wd196 H
      dsimp only [List.set] at H
      refine nq (Q_assign rfl) rfl rfl <| WL_nil <| x_then <| C_ret <| x_then_ret ?_
      have H := H.nilArr 256
      have hRV : RV Try.prog wd196 [(4, .pointer (some ⟨b188, 0, none⟩)), (5, .bool false)] [.cell 4 29, .tmp 5] [.agg #[(.slice none 0 0), v4, v7], .bool false] := ⟨⟨_, rfl, run_ldv ty29 rfl (fun h => nomatch h) (box_at (H.ok.get (k := 2) rfl) 0 3)⟩, rfl, trivial⟩
      replace H := H.drop 1 rfl
      dsimp only [List.eraseIdx] at H
      replace H := H.drop 1 rfl
      dsimp only [List.eraseIdx] at H
      replace H := H.drop 1 rfl
      dsimp only [List.eraseIdx] at H
      obtain rfl := Option.some.inj hF
      exact fn_retV (rs := [.cell 4 29, .tmp 5]) (vs := [.agg #[(.slice none 0 0), v4, v7], .bool false]) rfl hRV ⟨(.slice none 0 0), [], [], false, rfl, rfl, rdL.nil, H⟩
    · replace hF := itF hb hF
      refine C_skip <| x_then <| C_seq <| C_seq <| R_nd <| nq (v := .pointer (some ⟨b186, 0, none⟩)) (Q_fld Try.underlying25 rfl ty22 (by decide) rfl rfl) rfl rfl <| nq (v := v1) (Q_ldB (k := 0) (cs := [v1]) H.ok rfl ty22 rfl rfl rfl (fun _ => rfl) rfl) rfl rfl <| nq (Q_len Try.underlying22 rfl r3) rfl rfl <| nq (Q_move rfl) rfl rfl <| WL_nil <| x_then ?_
      obtain ⟨o277, ho277, hF⟩ := bnd hF
      refine C_cutQ (fun a w' => ∃ (v273 : Value) (c274 : (List Value)) (x275 : (List (List Int))), x275 = o277 ∧ rdL (eA 256 (eI .i64)) ρ x275 c274 ∧ Fr 48 a [(4, .pointer (some ⟨b188, 0, none⟩)), (6, .pointer (some ⟨b190, 0, none⟩))] ∧ Hp C w' ρ (Box b188 [.slice none 0 0, .slice none 0 0, .slice none 0 0] :: Box b190 [v273, v4, v7] :: Arr v273 256 c274 :: hs)) ?_ ?_
      · refine C_block ?_
        have H := H.nilArr 256
        replace H := H.front 3 rfl
        dsimp only [List.eraseIdx] at H
        replace H := H.front 3 rfl
        dsimp only [List.eraseIdx] at H
        replace H := H.drop 3 rfl
        dsimp only [List.eraseIdx] at H
        refine C_iter (f := fun s => F_dofferlaw17_Of_l0 N x2 s.1 s.2) ho277 (fun s a w' => ∃ (v303 : Value) (c304 : (List Value)) (x302 : Int) (x305 : (List (List Int))), (x302, x305) = s ∧ rdL (eA 256 (eI .i64)) ρ x305 c304 ∧ Fr 48 a [(4, .pointer (some ⟨b188, 0, none⟩)), (6, .pointer (some ⟨b190, 0, none⟩)), (34, v1), (35, .int .i64 (x2.length : Int)), (36, .int .i64 x302)] ∧ Hp C w' ρ (Box b188 [.slice none 0 0, .slice none 0 0, .slice none 0 0] :: Box b190 [v303, v4, v7] :: Arr v303 256 c304 :: hs)) ?_ ?_
        · exact fun a hf => ⟨(.slice none 0 0), [], 0, [], rfl, rdL.nil, hf.sub ⟨rfl, rfl, rfl, rfl, rfl, trivial⟩, H⟩
        · rintro s o331 a wd334 ⟨v303, c304, x302, x305, rfl, r306, hf, H⟩ hB332 hO333
          replace hB332 : F_dofferlaw17_Of_l0 N x2 x302 x305 = some o331 := hB332
          unfold F_dofferlaw17_Of_l0 at hB332
          refine CW.at hf <| C_seq <| R_nd <| nq (Q_lss rfl rfl) rfl rfl <| WL_nil <| x_then <| C_seq ?_
          refine C_cond rfl (fun hb => ?_) (fun hb => ?_)
          · replace hB332 := itT hb hB332
            refine C_skip <| x_then <| C_seq <| C_block <| C_seq <| R_nd ?_
            obtain ⟨x335, hx335, hB332⟩ := bnd hB332
            obtain ⟨b336, o337, c338, hc339, ha340, hi341⟩ := idxR r3 hx335
            refine nq (Q_idx hi341 Try.underlying22 ty42 rfl rfl) rfl rfl <| nq (v := .agg c338.toArray) (Q_ld (ha340.up H.ok.view) ty42 ((eA 256 (eI .i64)).len hc339) (fun h => nomatch h) rfl rfl) rfl rfl <| ne (E_allocA (N := 256) (n := 1) (zs := (repC 256 [.int .i64 0])) H ty42 rfl (by simp [repC_length])) rfl rfl ?_
            rintro _ wd343 ⟨b342, rfl, H⟩
            refine ne (E_stW (k := 0) H rfl ty42 rfl rfl (rdL.one hc339.2) (arr_clen (rdL_rep (e:=(eI .i64)) (ρ:=ρ) (rfl) 256) List.length_replicate) (arr_clen hc339.2 hc339.1)) rfl rfl ?_
            rintro _ wd344 H
            dsimp only [List.set] at H
            refine WL_nil <| x_then <| R_nd <| nq (v := .pointer (some ⟨b190, 0, none⟩)) (Q_fld Try.underlying29 rfl ty27 (by decide) rfl rfl) rfl rfl <| nq (v := v303) (Q_ldB (k := 2) (cs := [v303]) H.ok rfl ty27 rfl rfl rfl (fun _ => rfl) rfl) rfl rfl <| nq (Q_ldW (k := 0) H.ok rfl ty42 rfl (arr_clen hc339.2 hc339.1)) rfl rfl <| ne (E_bslice (xs := [.tmp 42]) (vs := [.agg c338.toArray]) H Try.underlying27 ty41 (by decide) (cs := c338) rfl (sz_cons (arr_clen hc339.2 hc339.1) sz_nil) (by simp [Value.cells]) (by simp) (by simp) rfl rfl) rfl rfl ?_
            rintro _ wd346 ⟨b345, rfl, H⟩
            obtain ⟨x347, hx347, hB332⟩ := bnd hB332
            obtain ⟨ha348a, ha348b⟩ := app_some hx347
            have r350 : rdL (eA 256 (eI .i64)) ρ x347 (c304 ++ c338) := ha348b ▸ rdL.app r306 (show rdL (eA 256 (eI .i64)) ρ ([x335]) c338 from rdL.single ⟨hc339.1, hc339.2⟩)
            refine ne (E_append (k := 4) H rfl Try.underlying27 ty41 rfl (by decide) (by decide) rfl rfl (Src.ofArr (k := 0) H.ok rfl) (rdL.one (show rdL (eA 256 (eI .i64)) ρ ([x335]) c338 from rdL.single ⟨hc339.1, hc339.2⟩)) (app_fit r306 (show rdL (eA 256 (eI .i64)) ρ ([x335]) c338 from rdL.single ⟨hc339.1, hc339.2⟩) ha348a)) rfl rfl ?_
            rintro v349 wd352 ⟨H, hc351⟩
            dsimp only [List.set] at H
            refine nq (v := .pointer (some ⟨b190, 0, none⟩)) (Q_fld Try.underlying29 rfl ty27 (by decide) rfl rfl) rfl rfl <| ne (E_stB (k := 3) (cs := [v349]) (vs' := [v349, v4, v7]) H rfl ty27 rfl rfl (arr_cells (H.ok.get (k := 4) rfl)).1 rfl (one_cons (arr_cells (H.ok.get (k := 4) rfl)).2 one_nil) (by simp) rfl) rfl rfl ?_
            rintro _ wd353 H
            dsimp only [List.set] at H
            refine WL_nil <| x_block <| x_then <| R_nd <| nq (Q_add rfl rfl) rfl rfl <| nq (Q_move rfl) rfl rfl <| WL_nil ?_
            replace H := H.front 4 rfl
            dsimp only [List.eraseIdx] at H
            replace H := H.front 4 rfl
            dsimp only [List.eraseIdx] at H
            replace H := H.front 4 rfl
            dsimp only [List.eraseIdx] at H
            replace H := H.drop 3 rfl
            dsimp only [List.eraseIdx] at H
            replace H := H.drop 3 rfl
            dsimp only [List.eraseIdx] at H
            obtain rfl := Option.some.inj hB332
            refine x_A fun a hf => ⟨_, rfl, v349, (c304 ++ c338), w64 (x302 + 1), x347, rfl, r350, hf.sub ⟨rfl, rfl, rfl, rfl, rfl, trivial⟩, H⟩
          · replace hB332 := itF hb hB332
            refine C_exit <| x_then_exit <| x_then_exit <| x_block_exit ?_
            replace H := H.front 2 rfl
            dsimp only [List.eraseIdx] at H
            replace H := H.front 2 rfl
            dsimp only [List.eraseIdx] at H
            replace H := H.front 2 rfl
            dsimp only [List.eraseIdx] at H
            obtain rfl := Option.some.inj hB332
            obtain rfl := hO333 _ rfl
            refine x_A fun a hf => ⟨v303, c304, x305, rfl, r306, hf.sub ⟨rfl, rfl, trivial⟩, H⟩
      · rintro a wd354 ⟨v273, c274, x275, rfl, r276, hf, H⟩
        try dsimp only at hF
        refine XX.at hf <| x_then <| C_seq <| R_nd <| nq (v := .agg #[v273, v4, v7]) (Q_ldB (k := 1) (cs := [v273, v4, v7]) H.ok rfl ty29 rfl rfl rfl (fun h => nomatch h) rfl) rfl rfl <| ne (E_stB (k := 0) (cs := [v273, v4, v7]) (vs' := [v273, v4, v7]) H rfl ty29 rfl rfl rfl rfl (one_cons (arr_cells (H.ok.get (k := 2) rfl)).2 (one_cons (RdSl.one r6) (one_cons (RdSl.one r9) one_nil))) (by simp) rfl) rfl rfl ?_
        rintro _ wd355 H
        dsimp only [List.set] at H
        refine nq (Q_assign rfl) rfl rfl <| WL_nil <| x_then <| C_ret ?_
        have hRV : RV Try.prog wd355 [(4, .pointer (some ⟨b188, 0, none⟩)), (5, .bool true)] [.cell 4 29, .tmp 5] [.agg #[v273, v4, v7], .bool true] := ⟨⟨_, rfl, run_ldv ty29 rfl (fun h => nomatch h) (box_at (H.ok.get (k := 0) rfl) 0 3)⟩, rfl, trivial⟩
        replace H := H.front 2 rfl
        dsimp only [List.eraseIdx] at H
        replace H := H.drop 1 rfl
        dsimp only [List.eraseIdx] at H
        replace H := H.drop 1 rfl
        dsimp only [List.eraseIdx] at H
        obtain rfl := Option.some.inj hF
        exact fn_retV (rs := [.cell 4 29, .tmp 5]) (vs := [.agg #[v273, v4, v7], .bool true]) rfl hRV ⟨v273, c274, x275, true, rfl, rfl, r276, H⟩
theorem c_12 {N : Nat} {C : Cx} {w : World} {ρ : View} {hs : List Hl} {b2 : Nat} {v3 : Value} {v6 : Value} {v9 : Value} {x1 : Int} {x4 : (List (List Int))} {x7 : (List Int)} {x10 : (List Int)} (H : Hp C w ρ (Box b2 [v3, v6, v9] :: hs)) (r5 : RdSl ρ (eA 256 (eI .i64)) v3 x4) (_r8 : RdSl ρ (eI .i64) v6 x7) (_r11 : RdSl ρ (eI .i64) v9 x10) {r : Bool} (hF : F_hopcroft_Apart_1 N x1 x4 x7 x10 = some r) :
    Calls Try.prog 12 [.int .i64 x1, .pointer (some ⟨b2, 0, none⟩)].toArray w (Rets (fun v w' => (∃ (x15 : Bool), x15 = r ∧ .bool x15 = v ∧ Hp C w' ρ (Box b2 [v3, v6, v9] :: hs)))) := by
  unfold F_hopcroft_Apart_1 at hF
  have h0 : Try.f12.body = some _ := rfl
  refine fn_calls' Try.func12 h0 (n := 13) rfl (by simp) <| C_seq <| R_nd <| nq (Q_assign rfl) rfl rfl <| WL_nil <| x_then ?_
  obtain ⟨o17, ho17, hF⟩ := bnd hF
  refine C_cut (fun a w' => ∃ (x16 : Bool), x16 = o17 ∧ Fr 13 a [(3, .bool x16)] ∧ Hp C w' ρ (Box b2 [v3, v6, v9] :: hs)) ?_ ?_
  · refine R_nd <| nq (Q_move rfl) rfl rfl <| nq (Q_lss rfl rfl) rfl rfl <| nq (Q_move rfl) rfl rfl ?_
    rcases Bool.eq_false_or_eq_true (decide (x1 < 0)) with hb | hb
    · rw [hb]
      replace ho17 := itT hb ho17
      refine gs rfl rfl rfl rfl <| gs rfl rfl rfl rfl <| gs rfl rfl rfl rfl <| gs rfl rfl rfl rfl <| gs rfl rfl rfl rfl <| nq (Q_pickT rfl rfl) rfl rfl <| nq (Q_assign rfl) rfl rfl <| WL_nil ?_
      obtain rfl := Option.some.inj ho17
      refine x_A fun a hf => ⟨true, rfl, hf.sub ⟨rfl, trivial⟩, H⟩
    · rw [hb]
      replace ho17 := itF hb ho17
      refine gq (Q_move rfl) rfl rfl rfl <| gq (v := .pointer (some ⟨b2, 0, none⟩)) (Q_fld Try.underlying25 rfl ty22 (by decide) rfl rfl) rfl rfl rfl <| gq (v := v3) (Q_ldB (k := 0) (cs := [v3]) H.ok rfl ty22 rfl rfl rfl (fun _ => rfl) rfl) rfl rfl rfl <| gq (Q_len Try.underlying22 rfl r5) rfl rfl rfl <| gq (Q_geq rfl rfl) rfl rfl rfl <| nq (Q_pickF rfl rfl) rfl rfl <| nq (Q_assign rfl) rfl rfl <| WL_nil ?_
      obtain rfl := Option.some.inj ho17
      refine x_A fun a hf => ⟨decide (x1 ≥ (x4.length : Int)), rfl, hf.sub ⟨rfl, trivial⟩, H⟩
  · rintro a wd18 ⟨x16, rfl, hf, H⟩
    try dsimp only at hF
    refine CW.at hf <| C_ret ?_
    obtain rfl := Option.some.inj hF
    exact fn_ret (l := [.tmp 3]) (vs := [.bool x16]) rfl rfl rfl ⟨x16, rfl, rfl, H⟩
theorem c_14 {N : Nat} {C : Cx} {w : World} {ρ : View} {hs : List Hl} {v : Value} {x : (List Int)} (H : Hp C w ρ (hs)) (r3 : RdSl ρ (eI .u8) v x) {r : (List Int)} (hF : F_clone_14 N x = some r) :
    Calls Try.prog 14 [v].toArray w (Rets (fun v w' => (∃ (v1 : Value) (c1 : List Value) (x1 : (List Int)), x1 = r ∧ v1 = v ∧ rdL (eI .u8) ρ x1 c1 ∧ Hp C w' ρ (Arr v1 1 c1 :: hs)))) := by
  unfold F_clone_14 at hF
  refine fn_calls' (args := [v]) Try.func14 rfl (n := 8) rfl (by simp) ?_
  refine C_seq ?_
  refine R_nd ?_
  refine nq (v := .slice none 0 0) (Q_assign rfl) rfl rfl ?_
  refine WL_nil ?_
  refine x_then ?_
  refine C_seq ?_
  refine C_seq ?_
  refine R_nd ?_
  refine nq (v := v) (Q_move rfl) rfl rfl ?_
  obtain ⟨o, c, news, rfl, hn, hs3⟩ : ∃ o c news, v = .slice o x.length c ∧ rdL (eI .u8) ρ x news ∧ (o = none → x = []) ∧ ∀ h', View.le ρ h' → Src h' v 1 news := by
    rcases r3 with ⟨ad, cap, rfl, rfl⟩ | ⟨b, o, cap, cs, rfl, _, h2, h3⟩
    · exact ⟨ad, cap, [], rfl, rdL.nil, fun _ => rfl, fun _ _ => .inl ⟨ad, cap, rfl, rfl⟩⟩
    · exact ⟨_, cap, cs, rfl, h2, fun h => (nomatch h), fun _ hl => .inr ⟨b, o, _, cap, rfl, h2.len, h3.up hl⟩⟩
  obtain ⟨hs3, hs4⟩ := hs3
  cases o with
  | none =>
    obtain rfl := hs3 rfl
    refine nq (v := .bool true) (Q_eqlS (o := none) Try.underlying32 rfl) rfl rfl ?_
    refine WL_nil ?_
    refine x_then ?_
    refine C_cond rfl (fun _ => ?_) (fun h => nomatch h)
    refine C_seq ?_
    refine R_nd ?_
    refine nq (v := .slice none 0 0) (Q_assign rfl) rfl rfl ?_
    refine WL_nil ?_
    refine x_then ?_
    refine C_ret ?_
    refine x_then_ret ?_
    obtain ⟨_, rfl⟩ := app_some hF
    exact fn_ret (l := [.tmp 2]) (vs := [.slice none 0 0]) rfl rfl rfl ⟨_, [], _, rfl, rfl, rdL.nil, H.nilArr 1⟩
  | some a =>
    refine nq (v := .bool false) (Q_eqlS (o := some a) Try.underlying32 rfl) rfl rfl ?_
    refine WL_nil ?_
    refine x_then ?_
    refine C_cond rfl (fun h => nomatch h) (fun _ => ?_)
    refine C_skip ?_
    refine x_then ?_
    obtain ⟨ha, rfl⟩ := app_some hF
    refine C_seq ?_
    refine R_nd ?_
    refine ne (E_bslice0 H Try.underlying32 ty5) rfl rfl ?_
    rintro _ w1 ⟨b1, rfl, H1⟩
    refine nq (Q_move rfl) rfl rfl ?_
    have hs5 := hs4 _ H1.view
    refine ne (E_append (k := 0) (cs := []) (news := news) H1 rfl Try.underlying32 ty5 rfl (by decide) (by decide) rfl rfl hs5 (rdL.one hn) (app_fit rdL.nil hn ha)) rfl rfl ?_
    rintro v2 w2 ⟨H2, _⟩
    refine nq (v := v2) (Q_assign rfl) rfl rfl ?_
    refine WL_nil ?_
    refine x_then ?_
    refine C_ret ?_
    exact fn_ret (l := [.tmp 2]) (vs := [v2]) rfl rfl rfl ⟨v2, _, _, rfl, rfl, rdL.app rdL.nil hn, H2⟩
end Go.Proofs.Yteiaphkejkgfkaa
