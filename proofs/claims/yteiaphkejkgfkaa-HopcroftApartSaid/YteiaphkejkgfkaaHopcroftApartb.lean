/-
  The walks of the law HopcroftApart, printed by my program, part 2: each function of the code computes its pure function.
-/
import Derived.Test.YteiaphkejkgfkaaHopcroftAparta
namespace Go.Proofs.Yteiaphkejkgfkaa
open Go Go.Eng
set_option maxRecDepth 100000
theorem c_6 {N : Nat} {C : Cx} {w : World} {ρ : View} {hs : List Hl} {v1 : Value} {v4 : Value} {v7 : Value} {x2 : (List (List Int))} {x5 : (List Int)} {x8 : (List Int)} {x10 : Int} {x11 : Int} (H : Hp C w ρ (hs)) (r3 : RdSl ρ (eA 256 (eI .i64)) v1 x2) (r6 : RdSl ρ (eI .i64) v4 x5) (r9 : RdSl ρ (eI .i64) v7 x8) {r : (Unit ⊕ (List Int))} (hF : F_hopcroft_Apart N x2 x5 x8 x10 x11 = some r) :
    Calls Try.prog 6 [.agg #[v1, v4, v7], .int .i64 x10, .int .i64 x11].toArray w (Rets (fun v w' => (∃ (ρ' : View), .inl () = r ∧ .tuple [(.slice none 0 0), .bool false].toArray = v ∧ View.le ρ ρ' ∧ Hp C w' ρ' (Arr (.slice none 0 0) 1 ([]) :: hs)) ∨ (∃ (ρ' : View) (v7231 : Value) (x7232 : (List Int)), .inr x7232 = r ∧ .tuple [v7231, .bool true].toArray = v ∧ View.le ρ ρ' ∧ RdSl ρ' (eI .u8) v7231 x7232 ∧ Hp C w' ρ' (hs)))) := by
  unfold F_hopcroft_Apart at hF
  have h0 : Try.f6.body = some _ := rfl
  refine fn_calls' Try.func6 h0 (n := 109) rfl (by simp) <| C_seq <| R_nd <| ne (E_box H (vs := [v1, v4, v7]) rfl rfl) rfl rfl ?_
  rintro _ wd7235 ⟨b7234, rfl, H⟩
  refine nq (Q_assign rfl) rfl rfl <| nq (Q_assign rfl) rfl rfl <| WL_nil <| x_then <| C_seq <| R_nd <| nq (v := .func (.func 12) #[] [.pointer (some ⟨b7234, 0, none⟩)].toArray) (Q_func rfl) rfl rfl <| nq (Q_assign rfl) rfl rfl <| WL_nil <| x_then <| C_seq ?_
  obtain ⟨o7249, ho7249, hF⟩ := bnd hF
  refine C_cut (fun a w' => ∃ (x7248 : Bool), x7248 = o7249 ∧ Fr 109 a [(1, .int .i64 x10), (2, .int .i64 x11), (3, .pointer (some ⟨b7234, 0, none⟩)), (28, .bool x7248)] ∧ Hp C w' ρ (Box b7234 [v1, v4, v7] :: hs)) ?_ ?_
  · refine R_nd <| nq (v := .agg #[v1, v4, v7]) (Q_ldB (k := 0) (cs := [v1, v4, v7]) H.ok rfl ty25 rfl rfl rfl (fun h => nomatch h) rfl) rfl rfl ?_
    obtain ⟨q7250, hq7250, ho7249⟩ := bnd ho7249
    refine ne (E_call fn13 rfl (c_13 H  r3 r6 r9 hq7250)) rfl rfl ?_
    rintro _ wd7253 ⟨x7252, rfl, rfl, H⟩
    try dsimp only at ho7249
    refine nq (Q_not rfl) rfl rfl <| nq (Q_move rfl) rfl rfl ?_
    rcases Bool.eq_false_or_eq_true (!x7252) with hb | hb
    · rw [hb]
      replace ho7249 := itT hb ho7249
      refine gs rfl rfl rfl rfl <| gs rfl rfl rfl rfl <| gs rfl rfl rfl rfl <| nq (Q_pickT rfl rfl) rfl rfl <| nq (Q_move rfl) rfl rfl <| gs rfl rfl rfl rfl <| gs rfl rfl rfl rfl <| gs rfl rfl rfl rfl <| nq (Q_pickT rfl rfl) rfl rfl <| WL_nil ?_
      obtain rfl := Option.some.inj ho7249
      refine x_A fun a hf => ⟨true, rfl, hf.sub ⟨rfl, rfl, rfl, rfl, trivial⟩, H⟩
    · rw [hb]
      replace ho7249 := itF hb ho7249
      refine gq (Q_move rfl) rfl rfl rfl <| gq (Q_move rfl) rfl rfl rfl ?_
      obtain ⟨q7254, hq7254, ho7249⟩ := bnd ho7249
      refine ge (E_callV fn12 rfl rfl (c_12 H  r3 r6 r9 hq7254)) rfl rfl rfl ?_
      rintro _ wd7257 ⟨x7256, rfl, rfl, H⟩
      try dsimp only at ho7249
      refine nq (Q_pickF rfl rfl) rfl rfl <| nq (Q_move rfl) rfl rfl ?_
      rcases Bool.eq_false_or_eq_true x7256 with hb | hb
      · rw [hb]
        replace ho7249 := itT hb ho7249
        refine gs rfl rfl rfl rfl <| gs rfl rfl rfl rfl <| gs rfl rfl rfl rfl <| nq (Q_pickT rfl rfl) rfl rfl <| WL_nil ?_
        obtain rfl := Option.some.inj ho7249
        refine x_A fun a hf => ⟨true, rfl, hf.sub ⟨rfl, rfl, rfl, rfl, trivial⟩, H⟩
      · rw [hb]
        replace ho7249 := itF hb ho7249
        refine gq (Q_move rfl) rfl rfl rfl <| gq (Q_move rfl) rfl rfl rfl ?_
        obtain ⟨q7258, hq7258, ho7249⟩ := bnd ho7249
        refine ge (E_callV fn12 rfl rfl (c_12 H  r3 r6 r9 hq7258)) rfl rfl rfl ?_
        rintro _ wd7261 ⟨x7260, rfl, rfl, H⟩
        try dsimp only at ho7249
        refine nq (Q_pickF rfl rfl) rfl rfl <| WL_nil ?_
        obtain rfl := Option.some.inj ho7249
        refine x_A fun a hf => ⟨x7260, rfl, hf.sub ⟨rfl, rfl, rfl, rfl, trivial⟩, H⟩
  · rintro a wd7262 ⟨x7248, rfl, hf, H⟩
    try dsimp only at hF
    refine CW.at hf ?_
    refine C_cond rfl (fun hb => ?_) (fun hb => ?_)
    · replace hF := itT hb hF
      refine C_seq <| R_nd <| nq (Q_assign rfl) rfl rfl <| nq (Q_assign rfl) rfl rfl <| WL_nil <| x_then <| C_ret <| x_then_ret ?_
      have H := H.nilArr 1
      replace H := H.drop 1 rfl
      dsimp only [List.eraseIdx] at H
      obtain rfl := Option.some.inj hF
      exact fn_ret (l := [.tmp 6, .tmp 7]) (vs := [(.slice none 0 0), .bool false]) rfl rfl rfl (.inl ⟨ρ, rfl, rfl, (View.le_refl _), H⟩)
    · replace hF := itF hb hF
      refine C_skip <| x_then <| C_seq <| R_nd <| ne (E_makeMap (kA 2 .i64) Value.bool H) rfl rfl ?_
      rintro _ wd7264 ⟨b7263, rfl, H⟩
      refine nq (Q_move rfl) rfl rfl <| nq (Q_move rfl) rfl rfl <| nq (v := .agg ([.int .i64 x10, .int .i64 x11]).toArray) (Q_buildA (zs := (repC 2 [.int .i64 0])) (res := [.int .i64 x10, .int .i64 x11]) (parts := [(0, .tmp 30), (1, .tmp 31)]) ty45 rfl Try.underlying45 ty3 rfl rfl) rfl rfl <| ne (E_minsert (b := true) (k := 0) H rfl Try.underlying46 (kOk_A Try.underlying45 ty3 Try.underlying3) (rfl : List.length [x10, x11] = 2) rfl (kA_ev (rdL_ints .i64 ρ [x10, x11]) rfl) rfl) rfl rfl ?_
      rintro _ wd7265 H
      dsimp only [List.set] at H
      refine nq (Q_move rfl) rfl rfl <| nq (Q_assign rfl) rfl rfl <| WL_nil <| x_then <| C_seq <| R_nd <| nq (Q_move rfl) rfl rfl <| nq (Q_move rfl) rfl rfl <| nq (v := .agg #[.int .i64 x10, .int .i64 x11, .slice none 0 0]) (Q_buildS st48.choose_spec (ps := [(0, [.int .i64 x10]), (1, [.int .i64 x11])]) rfl ⟨rfl, rfl, by simp, ⟨rfl, rfl, by simp, trivial⟩⟩ rfl) rfl rfl <| ne (E_bslice (xs := [.tmp 36]) (vs := [.agg #[.int .i64 x10, .int .i64 x11, .slice none 0 0]]) H Try.underlying49 ty48 (by decide) (cs := [.int .i64 x10, .int .i64 x11, .slice none 0 0]) rfl (sz_cons rfl sz_nil) rfl (by simp) (by simp) rfl rfl) rfl rfl ?_
      rintro _ wd7267 ⟨b7266, rfl, H⟩
      refine nq (Q_assign rfl) rfl rfl <| WL_nil <| x_then ?_
      obtain ⟨o10858, ho10858, hF⟩ := bnd hF
      refine C_cut (fun a w' => ∃ (ρ' : View), View.le ρ ρ' ∧ .inl () = o10858 ∧ Fr 109 a [] ∧ Hp C w' ρ' (hs)) ?_ ?_
      · refine C_block ?_
        replace H := H.front 1 rfl
        dsimp only [List.eraseIdx] at H
        replace H := H.front 2 rfl
        dsimp only [List.eraseIdx] at H
        replace H := H.front 2 rfl
        dsimp only [List.eraseIdx] at H
        refine C_iter (f := fun s => F_hopcroft_Apart_l0 N x2 x5 s.1 s.2) ho10858 (fun s a w' => ∃ (ρ' : View) (v12054 : Value) (c12055 : (List Value)) (x12056 : (List (Int × Int × (List Int)))) (x12058 : (List ((List Int) × Bool))), View.le ρ ρ' ∧ (x12056, x12058) = s ∧ rdL (eP (eI .i64) (eP (eI .i64) (eL (eI .u8)))) ρ' x12056 c12055 ∧ Fr 109 a [(3, .pointer (some ⟨b7234, 0, none⟩)), (9, .map (some b7263)), (10, v12054)] ∧ Hp C w' ρ' (Arr v12054 3 c12055 :: Box b7234 [v1, v4, v7] :: Mp (kA 2 .i64) Value.bool b7263 x12058 :: hs)) ?_ ?_
        · exact fun a hf => ⟨ρ, (.slice (some ⟨b7266, 0, none⟩) 1 1), [.int .i64 x10, .int .i64 x11, .slice none 0 0], [(x10, x11, [])], (mset ([] : List ((List Int) × Bool)) ([x10, x11]) true), (View.le_refl _), rfl, (show rdL (eP (eI .i64) (eP (eI .i64) (eL (eI .u8)))) ρ ([(x10, x11, [])]) ([.int .i64 x10, .int .i64 x11, .slice none 0 0]) from ⟨([.int .i64 x10, .int .i64 x11, .slice none 0 0]), _, rfl, ⟨[.int .i64 x10], _, rfl, rfl, ⟨[.int .i64 x11], _, rfl, rfl, ⟨_, rfl, RdSl.nil⟩⟩⟩, rdL.nil⟩), hf.sub ⟨rfl, rfl, rfl, trivial⟩, H⟩
        · rintro s o13254 a wd13257 ⟨ρ, v12054, c12055, x12056, x12058, lw13258, rfl, r12057, hf, H⟩ hB13255 hO13256
          replace hB13255 : F_hopcroft_Apart_l0 N x2 x5 x12056 x12058 = some o13254 := hB13255
          unfold F_hopcroft_Apart_l0 at hB13255
          refine CW.at hf ?_
          replace r3 := RdSl.up lw13258 r3
          replace r6 := RdSl.up lw13258 r6
          replace r9 := RdSl.up lw13258 r9
          refine C_seq <| C_seq <| R_nd <| nq (Q_move rfl) rfl rfl <| nq (Q_lenA (k := 0) H.ok rfl r12057 (by decide) Try.underlying49 rfl) rfl rfl <| nq (Q_gtr rfl rfl) rfl rfl <| WL_nil <| x_then ?_
          refine C_cond rfl (fun hb => ?_) (fun hb => ?_)
          · replace hB13255 := itT hb hB13255
            refine C_skip <| x_then <| C_block <| C_seq <| R_nd <| nq (Q_move rfl) rfl rfl ?_
            obtain ⟨x13259, hx13259, hB13255⟩ := bnd hB13255
            obtain ⟨b13260, o13261, hi13265, hc13263, ha13264⟩ := arr_at (hs := [Arr v12054 3 c12055]) (k := 0) (by decide) (H.okS (by simp)) rfl r12057 hx13259
            refine nq (Q_idx hi13265 Try.underlying49 ty48 rfl rfl) rfl rfl ?_
            obtain ⟨c13266, c13267, he13268, hc13269, hc13270⟩ := hc13263
            obtain ⟨c13271, c13272, he13273, hc13274, hc13275⟩ := hc13270
            obtain ⟨v13276, he13277, r13278⟩ := hc13275
            refine nq (v := .agg #[.int .i64 x13259.1, .int .i64 x13259.2.1, v13276]) (Q_ld (show cellsAt _ _ _ [.int .i64 x13259.1, .int .i64 x13259.2.1, v13276] from cellsAt.cg (cat2 he13268 (rdI hc13269) (cat2 he13273 (rdI hc13274) he13277)) (ha13264 _ (Ok.subS (by simp) H.ok))) ty48 rfl (fun h => nomatch h) rfl rfl) rfl rfl <| ne (E_alloc H ty48 (zs := [.int .i64 0, .int .i64 0, .slice none 0 0]) rfl) rfl rfl ?_
            rintro _ wd13280 ⟨b13279, rfl, H⟩
            refine ne (E_stB (k := 0) (cs := [.int .i64 x13259.1, .int .i64 x13259.2.1, v13276]) (vs' := [.int .i64 x13259.1, .int .i64 x13259.2.1, v13276]) H rfl ty48 rfl rfl rfl rfl (one_cons rfl (one_cons rfl (one_cons (RdSl.one r13278) one_nil))) (by simp) rfl) rfl rfl ?_
            rintro _ wd13281 H
            dsimp only [List.set] at H
            refine WL_nil <| x_then <| C_seq <| R_nd <| nq (Q_move rfl) rfl rfl ?_
            obtain ⟨x13282, hx13282, hB13255⟩ := bnd hB13255
            obtain ⟨v13284, c13287, H, r13285, hq13288⟩ := sliceW (P := Try.prog) (en := (eP (eI .i64) (eP (eI .i64) (eL (eI .u8))))) (k := 1) H rfl (by decide) r12057 hx13282
            dsimp only [List.set] at H
            replace H : Hp C _ ρ (Box b13279 [.int .i64 x13259.1, .int .i64 x13259.2.1, v13276] :: Arr v13284 3 c13287 :: Box b7234 [v1, v4, v7] :: Mp (kA 2 .i64) Value.bool b7263 x12058 :: hs) := H
            refine nq (v := v13284) (hq13288 _ _ _ _ _ _ _ _ _ _ _ _ _ _ _ Try.underlying49 ty48 rfl ⟨_, rfl⟩ rfl) rfl rfl <| nq (Q_assign rfl) rfl rfl <| WL_nil <| x_then <| C_seq <| C_seq <| R_dr (.take 0 (.take 1 (.take 2 (.take 3 (.take 4 (.take 5 (.take 6 (.take 7 (.take 8 (.take 9 (.take 10 (.take 11 (.take 12 .done))))))))))))) (fun w' => Ok w' ρ [Box b13279 [.int .i64 x13259.1, .int .i64 x13259.2.1, v13276], Arr v13284 3 c13287, Box b7234 [v1, v4, v7], Mp (kA 2 .i64) Value.bool b7263 x12058]) (by kernel_rfl) (by kernel_rfl) (by kernel_rfl) (H.drew.okS (by simp)) ?_
            replace H := H.drew
            refine dq (v := .pointer (some ⟨b7234, 1, none⟩)) rfl (fun _ _ => Q_fld Try.underlying25 rfl ty23 (by decide) rfl rfl) rfl rfl <| dq (v := v4) rfl (fun _ hw => Q_ldB (k := 2) (cs := [v4]) hw rfl ty23 rfl rfl rfl (fun _ => rfl) rfl) rfl rfl <| dq (v := .pointer (some ⟨b13279, 0, none⟩)) rfl (fun _ _ => Q_fld Try.underlying48 rfl ty3 (by decide) rfl rfl) rfl rfl <| dq (v := .int .i64 x13259.1) rfl (fun _ hw => Q_ldB (k := 0) (cs := [.int .i64 x13259.1]) hw rfl ty3 rfl rfl rfl (fun _ => rfl) rfl) rfl rfl ?_
            obtain ⟨x13289, hx13289, hB13255⟩ := bnd hB13255
            obtain ⟨b13290, o13291, c13292, hc13293, ha13294, hi13295⟩ := idxR r6 hx13289
            refine dq rfl (fun _ _ => Q_idx hi13295 Try.underlying23 ty3 rfl rfl) rfl rfl <| dq (v := .int .i64 x13289) rfl (fun _ hw => Q_ld (show cellsAt _ _ _ [.int .i64 x13289] from (show _ = [_] from hc13293) ▸ (ha13294.up hw.view)) ty3 rfl (fun _ => rfl) rfl rfl) rfl rfl <| dq (v := .pointer (some ⟨b7234, 1, none⟩)) rfl (fun _ _ => Q_fld Try.underlying25 rfl ty23 (by decide) rfl rfl) rfl rfl <| dq (v := v4) rfl (fun _ hw => Q_ldB (k := 2) (cs := [v4]) hw rfl ty23 rfl rfl rfl (fun _ => rfl) rfl) rfl rfl <| dq (v := .pointer (some ⟨b13279, 1, none⟩)) rfl (fun _ _ => Q_fld Try.underlying48 rfl ty3 (by decide) rfl rfl) rfl rfl <| dq (v := .int .i64 x13259.2.1) rfl (fun _ hw => Q_ldB (k := 0) (cs := [.int .i64 x13259.2.1]) hw rfl ty3 rfl rfl rfl (fun _ => rfl) rfl) rfl rfl ?_
            obtain ⟨x13296, hx13296, hB13255⟩ := bnd hB13255
            obtain ⟨b13297, o13298, c13299, hc13300, ha13301, hi13302⟩ := idxR r6 hx13296
            refine dq rfl (fun _ _ => Q_idx hi13302 Try.underlying23 ty3 rfl rfl) rfl rfl <| dq (v := .int .i64 x13296) rfl (fun _ hw => Q_ld (show cellsAt _ _ _ [.int .i64 x13296] from (show _ = [_] from hc13300) ▸ (ha13301.up hw.view)) ty3 rfl (fun _ => rfl) rfl rfl) rfl rfl <| dq rfl (fun _ _ => Q_neq rfl rfl) rfl rfl <| DL_nil <| x_then ?_
            refine C_cond rfl (fun hb => ?_) (fun hb => ?_)
            · replace hB13255 := itT hb hB13255
              refine C_seq <| R_nd <| nq (v := .pointer (some ⟨b13279, 2, none⟩)) (Q_fld Try.underlying48 rfl ty32 (by decide) rfl rfl) rfl rfl <| nq (v := v13276) (Q_ldB (k := 0) (cs := [v13276]) H.ok rfl ty32 rfl rfl rfl (fun _ => rfl) rfl) rfl rfl <| nq (Q_assign rfl) rfl rfl <| nq (Q_assign rfl) rfl rfl <| WL_nil <| x_then <| C_ret <| x_then_ret <| x_block_ret <| x_then_ret <| x_block_ret <| x_then_ret ?_
              replace H := H.drop 0 rfl
              dsimp only [List.eraseIdx] at H
              replace H := H.drop 0 rfl
              dsimp only [List.eraseIdx] at H
              replace H := H.drop 0 rfl
              dsimp only [List.eraseIdx] at H
              replace H := H.drop 0 rfl
              dsimp only [List.eraseIdx] at H
              obtain rfl := Option.some.inj hB13255
              obtain rfl := hO13256 _ rfl
              obtain rfl := Option.some.inj (show some _ = some _ from hF)
              exact fn_ret (l := [.tmp 6, .tmp 7]) (vs := [v13276, .bool true]) rfl rfl rfl (.inr ⟨ρ, v13276, x13259.2.2, rfl, rfl, lw13258, r13278, H⟩)
            · replace hB13255 := itF hb hB13255
              refine C_skip <| x_then <| C_seq <| R_nd <| nq (Q_move rfl) rfl rfl <| WL_nil <| x_then ?_
              obtain ⟨o13877, ho13877, hB13255⟩ := bnd hB13255
              refine C_cutQ (fun a w' => ∃ (ρ' : View) (v13872 : Value) (c13873 : (List Value)) (x13874 : (List (Int × Int × (List Int)))) (x13876 : (List ((List Int) × Bool))), View.le ρ ρ' ∧ (x13874, x13876) = o13877 ∧ rdL (eP (eI .i64) (eP (eI .i64) (eL (eI .u8)))) ρ' x13874 c13873 ∧ Fr 109 a [(3, .pointer (some ⟨b7234, 0, none⟩)), (9, .map (some b7263)), (10, v13872)] ∧ Hp C w' ρ' (Arr v13872 3 c13873 :: Box b7234 [v1, v4, v7] :: Mp (kA 2 .i64) Value.bool b7263 x13876 :: hs)) ?_ ?_
              · refine C_block ?_
                replace H := H.front 3 rfl
                dsimp only [List.eraseIdx] at H
                replace H := H.front 3 rfl
                dsimp only [List.eraseIdx] at H
                replace H := H.front 2 rfl
                dsimp only [List.eraseIdx] at H
                replace H := H.front 3 rfl
                dsimp only [List.eraseIdx] at H
                refine C_iter (f := fun s => F_hopcroft_Apart_l1 N x2 x13259 s.1 s.2.1 s.2.2) ho13877 (fun s a w' => ∃ (ρ' : View) (v14066 : Value) (c14067 : (List Value)) (x14068 : (List (Int × Int × (List Int)))) (x14070 : Int) (x14071 : (List ((List Int) × Bool))), View.le ρ ρ' ∧ (x14068, x14070, x14071) = s ∧ rdL (eP (eI .i64) (eP (eI .i64) (eL (eI .u8)))) ρ' x14068 c14067 ∧ Fr 109 a [(3, .pointer (some ⟨b7234, 0, none⟩)), (9, .map (some b7263)), (10, v14066), (11, .pointer (some ⟨b13279, 0, none⟩)), (61, .int .i64 x14070)] ∧ Hp C w' ρ' (Arr v14066 3 c14067 :: Box b13279 [.int .i64 x13259.1, .int .i64 x13259.2.1, v13276] :: Box b7234 [v1, v4, v7] :: Mp (kA 2 .i64) Value.bool b7263 x14071 :: hs)) ?_ ?_
                · exact fun a hf => ⟨ρ, v13284, c13287, x13282, 0, x12058, (View.le_refl _), rfl, r13285, hf.sub ⟨rfl, rfl, rfl, rfl, rfl, trivial⟩, H⟩
                · rintro s o14260 a wd14263 ⟨ρ, v14066, c14067, x14068, x14070, x14071, lw14264, rfl, r14069, hf, H⟩ hB14261 hO14262
                  replace hB14261 : F_hopcroft_Apart_l1 N x2 x13259 x14068 x14070 x14071 = some o14260 := hB14261
                  unfold F_hopcroft_Apart_l1 at hB14261
                  refine CW.at hf ?_
                  replace r13278 := RdSl.up lw14264 r13278
                  replace r3 := RdSl.up lw14264 r3
                  replace r6 := RdSl.up lw14264 r6
                  replace r9 := RdSl.up lw14264 r9
                  refine C_seq <| R_nd <| nq (Q_lss rfl rfl) rfl rfl <| WL_nil <| x_then <| C_seq ?_
                  refine C_cond rfl (fun hb => ?_) (fun hb => ?_)
                  · replace hB14261 := itT hb hB14261
                    refine C_skip <| x_then ?_
                    obtain ⟨o14357, ho14357, hB14261⟩ := bnd hB14261
                    refine C_cut (fun a w' => ∃ (ρ' : View) (v14352 : Value) (c14353 : (List Value)) (x14354 : (List (Int × Int × (List Int)))) (x14356 : (List ((List Int) × Bool))), View.le ρ ρ' ∧ (x14354, x14356) = o14357 ∧ rdL (eP (eI .i64) (eP (eI .i64) (eL (eI .u8)))) ρ' x14354 c14353 ∧ Fr 109 a [(3, .pointer (some ⟨b7234, 0, none⟩)), (9, .map (some b7263)), (10, v14352), (11, .pointer (some ⟨b13279, 0, none⟩)), (61, .int .i64 x14070)] ∧ Hp C w' ρ' (Arr v14352 3 c14353 :: Box b13279 [.int .i64 x13259.1, .int .i64 x13259.2.1, v13276] :: Box b7234 [v1, v4, v7] :: Mp (kA 2 .i64) Value.bool b7263 x14356 :: hs)) ?_ ?_
                    · refine C_block <| C_seq <| R_nd <| nq (Q_move rfl) rfl rfl <| nq (Q_assign rfl) rfl rfl <| WL_nil <| x_then <| C_seq <| R_dr (.take 0 (.take 1 (.take 2 (.take 3 (.take 4 (.take 5 (.take 6 (.take 7 (.take 8 (.take 9 (.take 10 (.take 11 (.take 12 (.take 13 (.take 14 (.take 15 (.take 16 (.take 17 .done)))))))))))))))))) (fun w' => Ok w' ρ [Arr v14066 3 c14067, Box b13279 [.int .i64 x13259.1, .int .i64 x13259.2.1, v13276], Box b7234 [v1, v4, v7], Mp (kA 2 .i64) Value.bool b7263 x14071]) (by kernel_rfl) (by kernel_rfl) (by kernel_rfl) (H.drew.okS (by simp)) ?_
                      replace H := H.drew
                      refine dq (v := .pointer (some ⟨b7234, 0, none⟩)) rfl (fun _ _ => Q_fld Try.underlying25 rfl ty22 (by decide) rfl rfl) rfl rfl <| dq (v := v1) rfl (fun _ hw => Q_ldB (k := 2) (cs := [v1]) hw rfl ty22 rfl rfl rfl (fun _ => rfl) rfl) rfl rfl <| dq (v := .pointer (some ⟨b13279, 0, none⟩)) rfl (fun _ _ => Q_fld Try.underlying48 rfl ty3 (by decide) rfl rfl) rfl rfl <| dq (v := .int .i64 x13259.1) rfl (fun _ hw => Q_ldB (k := 1) (cs := [.int .i64 x13259.1]) hw rfl ty3 rfl rfl rfl (fun _ => rfl) rfl) rfl rfl <| dq rfl (fun _ _ => Q_move rfl) rfl rfl ?_
                      obtain ⟨x14358, hx14358, ho14357⟩ := bnd ho14357
                      obtain ⟨b14359, o14360, c14361, hc14362, ha14363, hi14364⟩ := idxR r3 hx14358
                      refine dq rfl (fun _ _ => Q_idx hi14364 Try.underlying22 ty42 rfl rfl) rfl rfl ?_
                      obtain ⟨x14365, hx14365, ho14357⟩ := bnd ho14357
                      have hn14366 := idx_lt hc14362.1 hx14365
                      refine dq rfl (fun _ _ => Q_idxA hn14366.1 hn14366.2 Try.underlying42 ty3 rfl rfl) rfl rfl ?_
                      obtain ⟨c14367, hc14368, ha14369, _⟩ := arrR hc14362 ha14363 hx14365
                      refine dq (v := .int .i64 x14365) rfl (fun _ hw => Q_ld (show cellsAt _ _ _ [.int .i64 x14365] from (show _ = [_] from hc14368) ▸ (ha14369.up hw.view)) ty3 rfl (fun _ => rfl) rfl rfl) rfl rfl <| dq (v := .pointer (some ⟨b7234, 0, none⟩)) rfl (fun _ _ => Q_fld Try.underlying25 rfl ty22 (by decide) rfl rfl) rfl rfl <| dq (v := v1) rfl (fun _ hw => Q_ldB (k := 2) (cs := [v1]) hw rfl ty22 rfl rfl rfl (fun _ => rfl) rfl) rfl rfl <| dq (v := .pointer (some ⟨b13279, 1, none⟩)) rfl (fun _ _ => Q_fld Try.underlying48 rfl ty3 (by decide) rfl rfl) rfl rfl <| dq (v := .int .i64 x13259.2.1) rfl (fun _ hw => Q_ldB (k := 1) (cs := [.int .i64 x13259.2.1]) hw rfl ty3 rfl rfl rfl (fun _ => rfl) rfl) rfl rfl <| dq rfl (fun _ _ => Q_move rfl) rfl rfl ?_
                      obtain ⟨x14370, hx14370, ho14357⟩ := bnd ho14357
                      obtain ⟨b14371, o14372, c14373, hc14374, ha14375, hi14376⟩ := idxR r3 hx14370
                      refine dq rfl (fun _ _ => Q_idx hi14376 Try.underlying22 ty42 rfl rfl) rfl rfl ?_
                      obtain ⟨x14377, hx14377, ho14357⟩ := bnd ho14357
                      have hn14378 := idx_lt hc14374.1 hx14377
                      refine dq rfl (fun _ _ => Q_idxA hn14378.1 hn14378.2 Try.underlying42 ty3 rfl rfl) rfl rfl ?_
                      obtain ⟨c14379, hc14380, ha14381, _⟩ := arrR hc14374 ha14375 hx14377
                      refine dq (v := .int .i64 x14377) rfl (fun _ hw => Q_ld (show cellsAt _ _ _ [.int .i64 x14377] from (show _ = [_] from hc14380) ▸ (ha14381.up hw.view)) ty3 rfl (fun _ => rfl) rfl rfl) rfl rfl <| dq rfl (fun _ _ => Q_assign rfl) rfl rfl <| dq rfl (fun _ _ => Q_assign rfl) rfl rfl <| DL_nil <| x_then ?_
                      obtain ⟨o14383, ho14383, ho14357⟩ := bnd ho14357
                      refine C_cut (fun a w' => ∃ (x14382 : Bool), x14382 = o14383 ∧ Fr 109 a [(3, .pointer (some ⟨b7234, 0, none⟩)), (9, .map (some b7263)), (10, v14066), (11, .pointer (some ⟨b13279, 0, none⟩)), (12, .int .i64 x14070), (13, .int .i64 x14365), (14, .int .i64 x14377), (61, .int .i64 x14070), (90, .bool x14382)] ∧ Hp C w' ρ (Arr v14066 3 c14067 :: Box b13279 [.int .i64 x13259.1, .int .i64 x13259.2.1, v13276] :: Box b7234 [v1, v4, v7] :: Mp (kA 2 .i64) Value.bool b7263 x14071 :: hs)) ?_ ?_
                      · refine R_nd <| nq (Q_move rfl) rfl rfl <| nq (Q_move rfl) rfl rfl <| nq (Q_neq rfl rfl) rfl rfl <| nq (Q_move rfl) rfl rfl ?_
                        rcases Bool.eq_false_or_eq_true (x14365 != x14377) with hb | hb
                        · rw [hb]
                          replace ho14383 := itT hb ho14383
                          refine gq (Q_move rfl) rfl rfl rfl <| gq (Q_move rfl) rfl rfl rfl <| gq (Q_move rfl) rfl rfl rfl <| gq (v := .agg ([.int .i64 x14365, .int .i64 x14377]).toArray) (Q_buildA (zs := (repC 2 [.int .i64 0])) (res := [.int .i64 x14365, .int .i64 x14377]) (parts := [(0, .tmp 85), (1, .tmp 86)]) ty45 rfl Try.underlying45 ty3 rfl rfl) rfl rfl rfl <| gq (v := .bool ((mget x14071 ([x14365, x14377])).getD false)) (Q_look1 (zp := false) (k := 3) H.ok rfl Try.underlying46 (kOk_A Try.underlying45 ty3 Try.underlying3) (rfl : List.length [x14365, x14377] = 2) ty4 rfl rfl (kA_ev (rdL_ints .i64 ρ [x14365, x14377]) rfl)) rfl rfl rfl <| gq (Q_not rfl) rfl rfl rfl <| nq (Q_pickT rfl rfl) rfl rfl <| WL_nil ?_
                          replace H := H.front 3 rfl
                          dsimp only [List.eraseIdx] at H
                          replace H := H.front 3 rfl
                          dsimp only [List.eraseIdx] at H
                          replace H := H.front 3 rfl
                          dsimp only [List.eraseIdx] at H
                          replace H := H.front 3 rfl
                          dsimp only [List.eraseIdx] at H
                          obtain rfl := Option.some.inj ho14383
                          refine x_A fun a hf => ⟨!((mget x14071 ([x14365, x14377])).getD false), rfl, hf.sub ⟨rfl, rfl, rfl, rfl, rfl, rfl, rfl, rfl, rfl, trivial⟩, H⟩
                        · rw [hb]
                          replace ho14383 := itF hb ho14383
                          refine gs rfl rfl rfl rfl <| gs rfl rfl rfl rfl <| gs rfl rfl rfl rfl <| gs rfl rfl rfl rfl <| gs rfl rfl rfl rfl <| gs rfl rfl rfl rfl <| nq (Q_pickF rfl rfl) rfl rfl <| WL_nil ?_
                          replace H := H.front 3 rfl
                          dsimp only [List.eraseIdx] at H
                          replace H := H.front 3 rfl
                          dsimp only [List.eraseIdx] at H
                          replace H := H.front 3 rfl
                          dsimp only [List.eraseIdx] at H
                          replace H := H.front 3 rfl
                          dsimp only [List.eraseIdx] at H
                          obtain rfl := Option.some.inj ho14383
                          refine x_A fun a hf => ⟨false, rfl, hf.sub ⟨rfl, rfl, rfl, rfl, rfl, rfl, rfl, rfl, rfl, trivial⟩, H⟩
                      · rintro a wd14384 ⟨x14382, rfl, hf, H⟩
                        try dsimp only at ho14357
                        refine CW.at hf ?_
                        obtain ⟨o14416, ho14416, ho14357⟩ := bnd ho14357
                        refine C_cutQ (fun a w' => ∃ (ρ' : View) (v14411 : Value) (c14412 : (List Value)) (x14413 : (List (Int × Int × (List Int)))) (x14415 : (List ((List Int) × Bool))), View.le ρ ρ' ∧ (x14413, x14415) = o14416 ∧ rdL (eP (eI .i64) (eP (eI .i64) (eL (eI .u8)))) ρ' x14413 c14412 ∧ Fr 109 a [(3, .pointer (some ⟨b7234, 0, none⟩)), (9, .map (some b7263)), (10, v14411), (11, .pointer (some ⟨b13279, 0, none⟩)), (61, .int .i64 x14070)] ∧ Hp C w' ρ' (Arr v14411 3 c14412 :: Box b13279 [.int .i64 x13259.1, .int .i64 x13259.2.1, v13276] :: Box b7234 [v1, v4, v7] :: Mp (kA 2 .i64) Value.bool b7263 x14415 :: hs)) ?_ ?_
                        · refine C_cond rfl (fun hb => ?_) (fun hb => ?_)
                          · replace ho14416 := itT hb ho14416
                            refine C_seq <| R_nd <| nq (Q_move rfl) rfl rfl <| nq (Q_move rfl) rfl rfl <| nq (Q_move rfl) rfl rfl <| nq (v := .agg ([.int .i64 x14365, .int .i64 x14377]).toArray) (Q_buildA (zs := (repC 2 [.int .i64 0])) (res := [.int .i64 x14365, .int .i64 x14377]) (parts := [(0, .tmp 92), (1, .tmp 93)]) ty45 rfl Try.underlying45 ty3 rfl rfl) rfl rfl <| ne (E_mset (b := true) (k := 3) H rfl Try.underlying46 (kOk_A Try.underlying45 ty3 Try.underlying3) (rfl : List.length [x14365, x14377] = 2) rfl (kA_ev (rdL_ints .i64 ρ [x14365, x14377]) rfl) rfl) rfl rfl ?_
                            rintro _ wd14417 H
                            dsimp only [List.set] at H
                            refine WL_nil <| x_then <| R_nd <| nq (Q_move rfl) rfl rfl <| nq (Q_move rfl) rfl rfl <| nq (Q_move rfl) rfl rfl <| nq (v := .pointer (some ⟨b13279, 2, none⟩)) (Q_fld Try.underlying48 rfl ty32 (by decide) rfl rfl) rfl rfl <| nq (v := v13276) (Q_ldB (k := 1) (cs := [v13276]) H.ok rfl ty32 rfl rfl rfl (fun _ => rfl) rfl) rfl rfl ?_
                            obtain ⟨q14418, hq14418, ho14416⟩ := bnd ho14416
                            refine ne (E_call fn14 rfl (c_14 H  r13278 hq14418)) rfl rfl ?_
                            rintro _ wd14424 ⟨v14420, c14421, x14422, rfl, rfl, r14423, H⟩
                            try dsimp only at ho14416
                            refine nq (Q_move rfl) rfl rfl <| nq (Q_cvI ⟨_, Try.underlying3⟩ Try.underlying5 rfl) rfl rfl <| ne (E_bslice (xs := [.tmp 102]) (vs := [.int .u8 (IntKind.wrap .u8 x14070)]) H Try.underlying32 ty5 (by decide) (cs := [.int .u8 (IntKind.wrap .u8 x14070)]) rfl (sz_cons rfl sz_nil) rfl (by simp) (by simp) rfl rfl) rfl rfl ?_
                            rintro _ wd14426 ⟨b14425, rfl, H⟩
                            obtain ⟨x14427, hx14427, ho14416⟩ := bnd ho14416
                            obtain ⟨ha14428a, ha14428b⟩ := app_some hx14427
                            have r14430 : rdL (eI .u8) ρ x14427 (c14421 ++ ([.int .u8 (IntKind.wrap .u8 x14070)])) := ha14428b ▸ rdL.app r14423 (show rdL (eI .u8) ρ ([IntKind.wrap .u8 x14070]) ([.int .u8 (IntKind.wrap .u8 x14070)]) from ⟨([.int .u8 (IntKind.wrap .u8 x14070)]), _, rfl, rfl, rdL.nil⟩)
                            refine ne (E_append (k := 1) H rfl Try.underlying32 ty5 rfl (by decide) (by decide) rfl rfl (Src.ofArr (k := 0) H.ok rfl) (rdL.one (show rdL (eI .u8) ρ ([IntKind.wrap .u8 x14070]) ([.int .u8 (IntKind.wrap .u8 x14070)]) from ⟨([.int .u8 (IntKind.wrap .u8 x14070)]), _, rfl, rfl, rdL.nil⟩)) (app_fit r14423 (show rdL (eI .u8) ρ ([IntKind.wrap .u8 x14070]) ([.int .u8 (IntKind.wrap .u8 x14070)]) from ⟨([.int .u8 (IntKind.wrap .u8 x14070)]), _, rfl, rfl, rdL.nil⟩) ha14428a)) rfl rfl ?_
                            rintro v14429 wd14432 ⟨H, hc14431⟩
                            dsimp only [List.set] at H
                            refine nq (v := .agg #[.int .i64 x14365, .int .i64 x14377, v14429]) (Q_buildS st48.choose_spec (ps := [(0, [.int .i64 x14365]), (1, [.int .i64 x14377]), (2, [v14429])]) rfl ⟨rfl, rfl, by simp, ⟨rfl, rfl, by simp, ⟨rfl, (arr_cells (H.ok.get (k := 1) rfl)).1, by simp, trivial⟩⟩⟩ rfl) rfl rfl ?_
                            replace H := H.front 1 rfl
                            dsimp only [List.eraseIdx] at H
                            obtain ⟨ρ, lw14433, H, r14434⟩ := Hp.frz (en := (eI .u8)) H (by decide) r14430
                            replace r14069 := rdL.up lw14433 r14069
                            replace r13278 := RdSl.up lw14433 r13278
                            replace r3 := RdSl.up lw14433 r3
                            replace r6 := RdSl.up lw14433 r6
                            replace r9 := RdSl.up lw14433 r9
                            refine ne (E_bslice (xs := [.tmp 105]) (vs := [.agg #[.int .i64 x14365, .int .i64 x14377, v14429]]) H Try.underlying49 ty48 (by decide) (cs := [.int .i64 x14365, .int .i64 x14377, v14429]) rfl (sz_cons rfl sz_nil) rfl (by simp) (by simp) rfl rfl) rfl rfl ?_
                            rintro _ wd14436 ⟨b14435, rfl, H⟩
                            obtain ⟨x14437, hx14437, ho14416⟩ := bnd ho14416
                            obtain ⟨ha14438a, ha14438b⟩ := app_some hx14437
                            have r14440 : rdL (eP (eI .i64) (eP (eI .i64) (eL (eI .u8)))) ρ x14437 (c14067 ++ ([.int .i64 x14365, .int .i64 x14377, v14429])) := ha14438b ▸ rdL.app r14069 (show rdL (eP (eI .i64) (eP (eI .i64) (eL (eI .u8)))) ρ ([(x14365, x14377, x14427)]) ([.int .i64 x14365, .int .i64 x14377, v14429]) from ⟨([.int .i64 x14365, .int .i64 x14377, v14429]), _, rfl, ⟨[.int .i64 x14365], _, rfl, rfl, ⟨[.int .i64 x14377], _, rfl, rfl, ⟨_, rfl, r14434⟩⟩⟩, rdL.nil⟩)
                            refine ne (E_append (k := 2) H rfl Try.underlying49 ty48 rfl (by decide) (by decide) rfl rfl (Src.ofArr (k := 0) H.ok rfl) (rdL.one (show rdL (eP (eI .i64) (eP (eI .i64) (eL (eI .u8)))) ρ ([(x14365, x14377, x14427)]) ([.int .i64 x14365, .int .i64 x14377, v14429]) from ⟨([.int .i64 x14365, .int .i64 x14377, v14429]), _, rfl, ⟨[.int .i64 x14365], _, rfl, rfl, ⟨[.int .i64 x14377], _, rfl, rfl, ⟨_, rfl, r14434⟩⟩⟩, rdL.nil⟩)) (app_fit r14069 (show rdL (eP (eI .i64) (eP (eI .i64) (eL (eI .u8)))) ρ ([(x14365, x14377, x14427)]) ([.int .i64 x14365, .int .i64 x14377, v14429]) from ⟨([.int .i64 x14365, .int .i64 x14377, v14429]), _, rfl, ⟨[.int .i64 x14365], _, rfl, rfl, ⟨[.int .i64 x14377], _, rfl, rfl, ⟨_, rfl, r14434⟩⟩⟩, rdL.nil⟩) ha14438a)) rfl rfl ?_
                            rintro v14439 wd14442 ⟨H, hc14441⟩
                            dsimp only [List.set] at H
                            refine nq (Q_assign rfl) rfl rfl <| WL_nil ?_
                            replace H := H.front 5 rfl
                            dsimp only [List.eraseIdx] at H
                            replace H := H.front 5 rfl
                            dsimp only [List.eraseIdx] at H
                            replace H := H.front 5 rfl
                            dsimp only [List.eraseIdx] at H
                            replace H := H.front 5 rfl
                            dsimp only [List.eraseIdx] at H
                            replace H := H.drop 4 rfl
                            dsimp only [List.eraseIdx] at H
                            replace H := H.drop 4 rfl
                            dsimp only [List.eraseIdx] at H
                            obtain rfl := Option.some.inj ho14416
                            refine x_A fun a hf => ⟨ρ, v14439, (c14067 ++ ([.int .i64 x14365, .int .i64 x14377, v14429])), x14437, (mset x14071 ([x14365, x14377]) true), lw14433, rfl, r14440, hf.sub ⟨rfl, rfl, rfl, rfl, rfl, trivial⟩, H⟩
                          · replace ho14416 := itF hb ho14416
                            refine C_skip ?_
                            replace H := H.front 3 rfl
                            dsimp only [List.eraseIdx] at H
                            replace H := H.front 3 rfl
                            dsimp only [List.eraseIdx] at H
                            replace H := H.front 3 rfl
                            dsimp only [List.eraseIdx] at H
                            replace H := H.front 3 rfl
                            dsimp only [List.eraseIdx] at H
                            obtain rfl := Option.some.inj ho14416
                            refine x_A fun a hf => ⟨ρ, v14066, c14067, x14068, x14071, (View.le_refl _), rfl, r14069, hf.sub ⟨rfl, rfl, rfl, rfl, rfl, trivial⟩, H⟩
                        · rintro a wd14443 ⟨ρ, v14411, c14412, x14413, x14415, lw14444, rfl, r14414, hf, H⟩
                          try dsimp only at ho14357
                          replace r13278 := RdSl.up lw14444 r13278
                          replace r3 := RdSl.up lw14444 r3
                          replace r6 := RdSl.up lw14444 r6
                          replace r9 := RdSl.up lw14444 r9
                          refine XX.at hf <| x_block ?_
                          replace H := H.front 3 rfl
                          dsimp only [List.eraseIdx] at H
                          replace H := H.front 3 rfl
                          dsimp only [List.eraseIdx] at H
                          replace H := H.front 3 rfl
                          dsimp only [List.eraseIdx] at H
                          replace H := H.front 3 rfl
                          dsimp only [List.eraseIdx] at H
                          obtain rfl := Option.some.inj ho14357
                          refine x_A fun a hf => ⟨ρ, v14411, c14412, x14413, x14415, lw14444, rfl, r14414, hf.sub ⟨rfl, rfl, rfl, rfl, rfl, trivial⟩, H⟩
                    · rintro a wd14445 ⟨ρ, v14352, c14353, x14354, x14356, lw14446, rfl, r14355, hf, H⟩
                      try dsimp only at hB14261
                      replace r13278 := RdSl.up lw14446 r13278
                      replace r3 := RdSl.up lw14446 r3
                      replace r6 := RdSl.up lw14446 r6
                      replace r9 := RdSl.up lw14446 r9
                      refine CW.at hf <| R_nd <| nq (Q_add rfl rfl) rfl rfl <| nq (Q_move rfl) rfl rfl <| WL_nil ?_
                      replace H := H.front 3 rfl
                      dsimp only [List.eraseIdx] at H
                      replace H := H.front 3 rfl
                      dsimp only [List.eraseIdx] at H
                      replace H := H.front 3 rfl
                      dsimp only [List.eraseIdx] at H
                      replace H := H.front 3 rfl
                      dsimp only [List.eraseIdx] at H
                      obtain rfl := Option.some.inj hB14261
                      refine x_A fun a hf => ⟨_, rfl, ρ, v14352, c14353, x14354, w64 (x14070 + 1), x14356, (View.le_trans lw14264 lw14446), rfl, r14355, hf.sub ⟨rfl, rfl, rfl, rfl, rfl, trivial⟩, H⟩
                  · replace hB14261 := itF hb hB14261
                    refine C_exit <| x_then_exit <| x_then_exit <| x_block_exit ?_
                    replace H := H.front 3 rfl
                    dsimp only [List.eraseIdx] at H
                    replace H := H.front 3 rfl
                    dsimp only [List.eraseIdx] at H
                    replace H := H.front 2 rfl
                    dsimp only [List.eraseIdx] at H
                    replace H := H.drop 3 rfl
                    dsimp only [List.eraseIdx] at H
                    obtain rfl := Option.some.inj hB14261
                    obtain rfl := hO14262 _ rfl
                    refine x_A fun a hf => ⟨ρ, v14066, c14067, x14068, x14071, lw14264, rfl, r14069, hf.sub ⟨rfl, rfl, rfl, trivial⟩, H⟩
              · rintro a wd14447 ⟨ρ, v13872, c13873, x13874, x13876, lw14448, rfl, r13875, hf, H⟩
                try dsimp only at hB13255
                replace r3 := RdSl.up lw14448 r3
                replace r6 := RdSl.up lw14448 r6
                replace r9 := RdSl.up lw14448 r9
                refine XX.at hf <| x_block ?_
                replace H := H.front 2 rfl
                dsimp only [List.eraseIdx] at H
                replace H := H.front 2 rfl
                dsimp only [List.eraseIdx] at H
                replace H := H.front 2 rfl
                dsimp only [List.eraseIdx] at H
                obtain rfl := Option.some.inj hB13255
                refine x_A fun a hf => ⟨_, rfl, ρ, v13872, c13873, x13874, x13876, (View.le_trans lw13258 lw14448), rfl, r13875, hf.sub ⟨rfl, rfl, rfl, trivial⟩, H⟩
          · replace hB13255 := itF hb hB13255
            refine C_exit <| x_then_exit <| x_then_exit <| x_block_exit ?_
            replace H := H.drop 0 rfl
            dsimp only [List.eraseIdx] at H
            replace H := H.drop 0 rfl
            dsimp only [List.eraseIdx] at H
            replace H := H.drop 0 rfl
            dsimp only [List.eraseIdx] at H
            obtain rfl := Option.some.inj hB13255
            obtain rfl := hO13256 _ rfl
            refine x_A fun a hf => ⟨ρ, lw13258, rfl, hf.sub trivial, H⟩
      · rintro a wd14449 ⟨ρ, lw14450, rfl, hf, H⟩
        try dsimp only at hF
        refine CW.at hf <| C_seq <| R_nd <| nq (Q_assign rfl) rfl rfl <| nq (Q_assign rfl) rfl rfl <| WL_nil <| x_then <| C_ret ?_
        have H := H.nilArr 1
        obtain rfl := Option.some.inj hF
        exact fn_ret (l := [.tmp 6, .tmp 7]) (vs := [(.slice none 0 0), .bool false]) rfl rfl rfl (.inl ⟨ρ, rfl, rfl, lw14450, H⟩)
theorem c_7 {N : Nat} {C : Cx} {w : World} {ρ : View} {hs : List Hl} {v1 : Value} {v4 : Value} {v7 : Value} {x2 : (List (List Int))} {x5 : (List Int)} {x8 : (List Int)} (H : Hp C w ρ (hs)) (r3 : RdSl ρ (eA 256 (eI .i64)) v1 x2) (r6 : RdSl ρ (eI .i64) v4 x5) (r9 : RdSl ρ (eI .i64) v7 x8) {r : Bool} (hF : F_dofferref17_Right N x2 x5 x8 = some r) :
    Calls Try.prog 7 [.agg #[v1, v4, v7]].toArray w (Rets (fun v w' => (∃ (x600 : Bool), x600 = r ∧ .bool x600 = v ∧ Hp C w' ρ (hs)))) := by
  unfold F_dofferref17_Right at hF
  have h0 : Try.f7.body = some _ := rfl
  refine fn_calls' Try.func7 h0 (n := 101) rfl (by simp) <| C_seq <| R_nd <| ne (E_box H (vs := [v1, v4, v7]) rfl rfl) rfl rfl ?_
  rintro _ wd602 ⟨b601, rfl, H⟩
  refine nq (Q_assign rfl) rfl rfl <| WL_nil <| x_then <| C_seq <| R_nd <| nq (v := .pointer (some ⟨b601, 0, none⟩)) (Q_fld Try.underlying29 rfl ty27 (by decide) rfl rfl) rfl rfl <| nq (v := v1) (Q_ldB (k := 0) (cs := [v1]) H.ok rfl ty27 rfl rfl rfl (fun _ => rfl) rfl) rfl rfl <| nq (Q_len Try.underlying27 rfl r3) rfl rfl <| nq (Q_assign rfl) rfl rfl <| WL_nil <| x_then <| C_seq ?_
  obtain ⟨o604, ho604, hF⟩ := bnd hF
  refine C_cut (fun a w' => ∃ (x603 : Bool), x603 = o604 ∧ Fr 101 a [(1, .pointer (some ⟨b601, 0, none⟩)), (3, .int .i64 (x2.length : Int)), (37, .bool x603)] ∧ Hp C w' ρ (Box b601 [v1, v4, v7] :: hs)) ?_ ?_
  · refine R_nd <| nq (Q_move rfl) rfl rfl <| nq (Q_lss rfl rfl) rfl rfl <| nq (Q_move rfl) rfl rfl ?_
    rcases Bool.eq_false_or_eq_true (decide ((x2.length : Int) < 1)) with hb | hb
    · rw [hb]
      replace ho604 := itT hb ho604
      refine gs rfl rfl rfl rfl <| gs rfl rfl rfl rfl <| nq (Q_pickT rfl rfl) rfl rfl <| nq (Q_move rfl) rfl rfl <| gs rfl rfl rfl rfl <| gs rfl rfl rfl rfl <| gs rfl rfl rfl rfl <| gs rfl rfl rfl rfl <| gs rfl rfl rfl rfl <| nq (Q_pickT rfl rfl) rfl rfl <| nq (Q_move rfl) rfl rfl <| gs rfl rfl rfl rfl <| gs rfl rfl rfl rfl <| gs rfl rfl rfl rfl ?_
      refine gs rfl rfl rfl rfl <| nq (Q_pickT rfl rfl) rfl rfl <| nq (Q_move rfl) rfl rfl <| gs rfl rfl rfl rfl <| gs rfl rfl rfl rfl <| gs rfl rfl rfl rfl <| gs rfl rfl rfl rfl <| nq (Q_pickT rfl rfl) rfl rfl <| WL_nil ?_
      obtain rfl := Option.some.inj ho604
      refine x_A fun a hf => ⟨true, rfl, hf.sub ⟨rfl, rfl, rfl, trivial⟩, H⟩
    · rw [hb]
      replace ho604 := itF hb ho604
      refine gq (Q_move rfl) rfl rfl rfl <| gq (Q_gtr rfl rfl) rfl rfl rfl <| nq (Q_pickF rfl rfl) rfl rfl <| nq (Q_move rfl) rfl rfl ?_
      rcases Bool.eq_false_or_eq_true (decide ((x2.length : Int) > 200)) with hb | hb
      · rw [hb]
        replace ho604 := itT hb ho604
        refine gs rfl rfl rfl rfl <| gs rfl rfl rfl rfl <| gs rfl rfl rfl rfl <| gs rfl rfl rfl rfl <| gs rfl rfl rfl rfl <| nq (Q_pickT rfl rfl) rfl rfl <| nq (Q_move rfl) rfl rfl <| gs rfl rfl rfl rfl <| gs rfl rfl rfl rfl <| gs rfl rfl rfl rfl <| gs rfl rfl rfl rfl <| nq (Q_pickT rfl rfl) rfl rfl <| nq (Q_move rfl) rfl rfl <| gs rfl rfl rfl rfl ?_
        refine gs rfl rfl rfl rfl <| gs rfl rfl rfl rfl <| gs rfl rfl rfl rfl <| nq (Q_pickT rfl rfl) rfl rfl <| WL_nil ?_
        obtain rfl := Option.some.inj ho604
        refine x_A fun a hf => ⟨true, rfl, hf.sub ⟨rfl, rfl, rfl, trivial⟩, H⟩
      · rw [hb]
        replace ho604 := itF hb ho604
        refine gq (v := .pointer (some ⟨b601, 1, none⟩)) (Q_fld Try.underlying29 rfl ty23 (by decide) rfl rfl) rfl rfl rfl <| gq (v := v4) (Q_ldB (k := 0) (cs := [v4]) H.ok rfl ty23 rfl rfl rfl (fun _ => rfl) rfl) rfl rfl rfl <| gq (Q_len Try.underlying23 rfl r6) rfl rfl rfl <| gq (Q_move rfl) rfl rfl rfl <| gq (Q_neq rfl rfl) rfl rfl rfl <| nq (Q_pickF rfl rfl) rfl rfl <| nq (Q_move rfl) rfl rfl ?_
        rcases Bool.eq_false_or_eq_true ((x5.length : Int) != (x2.length : Int)) with hb | hb
        · rw [hb]
          replace ho604 := itT hb ho604
          refine gs rfl rfl rfl rfl <| gs rfl rfl rfl rfl <| gs rfl rfl rfl rfl <| gs rfl rfl rfl rfl <| nq (Q_pickT rfl rfl) rfl rfl <| nq (Q_move rfl) rfl rfl <| gs rfl rfl rfl rfl <| gs rfl rfl rfl rfl <| gs rfl rfl rfl rfl <| gs rfl rfl rfl rfl <| nq (Q_pickT rfl rfl) rfl rfl <| WL_nil ?_
          obtain rfl := Option.some.inj ho604
          refine x_A fun a hf => ⟨true, rfl, hf.sub ⟨rfl, rfl, rfl, trivial⟩, H⟩
        · rw [hb]
          replace ho604 := itF hb ho604
          refine gq (v := .pointer (some ⟨b601, 2, none⟩)) (Q_fld Try.underlying29 rfl ty23 (by decide) rfl rfl) rfl rfl rfl <| gq (v := v7) (Q_ldB (k := 0) (cs := [v7]) H.ok rfl ty23 rfl rfl rfl (fun _ => rfl) rfl) rfl rfl rfl <| gq (Q_len Try.underlying23 rfl r9) rfl rfl rfl <| gq (Q_lss rfl rfl) rfl rfl rfl <| nq (Q_pickF rfl rfl) rfl rfl <| nq (Q_move rfl) rfl rfl ?_
          rcases Bool.eq_false_or_eq_true (decide ((x8.length : Int) < 1)) with hb | hb
          · rw [hb]
            replace ho604 := itT hb ho604
            refine gs rfl rfl rfl rfl <| gs rfl rfl rfl rfl <| gs rfl rfl rfl rfl <| gs rfl rfl rfl rfl <| nq (Q_pickT rfl rfl) rfl rfl <| WL_nil ?_
            obtain rfl := Option.some.inj ho604
            refine x_A fun a hf => ⟨true, rfl, hf.sub ⟨rfl, rfl, rfl, trivial⟩, H⟩
          · rw [hb]
            replace ho604 := itF hb ho604
            refine gq (v := .pointer (some ⟨b601, 2, none⟩)) (Q_fld Try.underlying29 rfl ty23 (by decide) rfl rfl) rfl rfl rfl <| gq (v := v7) (Q_ldB (k := 0) (cs := [v7]) H.ok rfl ty23 rfl rfl rfl (fun _ => rfl) rfl) rfl rfl rfl <| gq (Q_len Try.underlying23 rfl r9) rfl rfl rfl <| gq (Q_gtr rfl rfl) rfl rfl rfl <| nq (Q_pickF rfl rfl) rfl rfl <| WL_nil ?_
            obtain rfl := Option.some.inj ho604
            refine x_A fun a hf => ⟨decide ((x8.length : Int) > 8), rfl, hf.sub ⟨rfl, rfl, rfl, trivial⟩, H⟩
  · rintro a wd605 ⟨x603, rfl, hf, H⟩
    try dsimp only at hF
    refine CW.at hf ?_
    refine C_cond rfl (fun hb => ?_) (fun hb => ?_)
    · replace hF := itT hb hF
      refine C_seq <| R_nd <| nq (Q_assign rfl) rfl rfl <| WL_nil <| x_then <| C_ret <| x_then_ret ?_
      replace H := H.drop 0 rfl
      dsimp only [List.eraseIdx] at H
      obtain rfl := Option.some.inj hF
      exact fn_ret (l := [.tmp 2]) (vs := [.bool false]) rfl rfl rfl ⟨false, rfl, rfl, H⟩
    · replace hF := itF hb hF
      refine C_skip <| x_then <| C_seq <| C_seq <| R_nd <| nq (v := .pointer (some ⟨b601, 0, none⟩)) (Q_fld Try.underlying29 rfl ty27 (by decide) rfl rfl) rfl rfl <| nq (v := v1) (Q_ldB (k := 0) (cs := [v1]) H.ok rfl ty27 rfl rfl rfl (fun _ => rfl) rfl) rfl rfl <| nq (Q_len Try.underlying27 rfl r3) rfl rfl <| nq (Q_move rfl) rfl rfl <| WL_nil <| x_then ?_
      obtain ⟨o856, ho856, hF⟩ := bnd hF
      refine C_cutQ (fun a w' => .inl () = o856 ∧ Fr 101 a [(1, .pointer (some ⟨b601, 0, none⟩)), (3, .int .i64 (x2.length : Int))] ∧ Hp C w' ρ (Box b601 [v1, v4, v7] :: hs)) ?_ ?_
      · refine C_block ?_
        refine C_iter (f := fun s => F_dofferref17_Right_l0 N x2 x5 s) ho856 (fun s a w' => ∃ (x939 : Int), x939 = s ∧ Fr 101 a [(1, .pointer (some ⟨b601, 0, none⟩)), (3, .int .i64 (x2.length : Int)), (39, v1), (40, .int .i64 (x2.length : Int)), (41, .int .i64 x939)] ∧ Hp C w' ρ (Box b601 [v1, v4, v7] :: hs)) ?_ ?_
        · exact fun a hf => ⟨0, rfl, hf.sub ⟨rfl, rfl, rfl, rfl, rfl, trivial⟩, H⟩
        · rintro s o1022 a wd1025 ⟨x939, rfl, hf, H⟩ hB1023 hO1024
          replace hB1023 : F_dofferref17_Right_l0 N x2 x5 x939 = some o1022 := hB1023
          unfold F_dofferref17_Right_l0 at hB1023
          refine CW.at hf <| C_seq <| R_nd <| nq (Q_lss rfl rfl) rfl rfl <| WL_nil <| x_then <| C_seq ?_
          refine C_cond rfl (fun hb => ?_) (fun hb => ?_)
          · replace hB1023 := itT hb hB1023
            refine C_skip <| x_then <| C_seq <| C_block <| C_seq <| R_nd <| nq (Q_move rfl) rfl rfl ?_
            obtain ⟨x1026, hx1026, hB1023⟩ := bnd hB1023
            obtain ⟨b1027, o1028, c1029, hc1030, ha1031, hi1032⟩ := idxR r3 hx1026
            refine nq (Q_idx hi1032 Try.underlying27 ty41 rfl rfl) rfl rfl <| nq (v := .agg c1029.toArray) (Q_ld (ha1031.up H.ok.view) ty41 ((eA 256 (eI .i64)).len hc1030) (fun h => nomatch h) rfl rfl) rfl rfl <| ne (E_allocA (N := 256) (n := 1) (zs := (repC 256 [.int .i64 0])) H ty41 rfl (by simp [repC_length])) rfl rfl ?_
            rintro _ wd1034 ⟨b1033, rfl, H⟩
            refine nq (Q_assign rfl) rfl rfl <| ne (E_stW (k := 0) H rfl ty41 rfl rfl (rdL.one hc1030.2) (arr_clen (rdL_rep (e:=(eI .i64)) (ρ:=ρ) (rfl) 256) List.length_replicate) (arr_clen hc1030.2 hc1030.1)) rfl rfl ?_
            rintro _ wd1035 H
            dsimp only [List.set] at H
            refine WL_nil <| x_then <| C_seq ?_
            obtain ⟨o1051, ho1051, hB1023⟩ := bnd hB1023
            refine C_cut (fun a w' => ∃ (x1050 : Bool), x1050 = o1051 ∧ Fr 101 a [(1, .pointer (some ⟨b601, 0, none⟩)), (3, .int .i64 (x2.length : Int)), (4, .int .i64 x939), (5, .pointer (some ⟨b1033, 0, none⟩)), (39, v1), (40, .int .i64 (x2.length : Int)), (41, .int .i64 x939), (59, .bool x1050)] ∧ Hp C w' ρ (Box b601 [v1, v4, v7] :: Arr (.slice (some ⟨b1033, 0, none⟩) 256 256) 1 c1029 :: hs)) ?_ ?_
            · refine R_nd <| nq (v := .pointer (some ⟨b601, 1, none⟩)) (Q_fld Try.underlying29 rfl ty23 (by decide) rfl rfl) rfl rfl <| nq (v := v4) (Q_ldB (k := 1) (cs := [v4]) H.ok rfl ty23 rfl rfl rfl (fun _ => rfl) rfl) rfl rfl <| nq (Q_move rfl) rfl rfl ?_
              obtain ⟨x1052, hx1052, ho1051⟩ := bnd ho1051
              obtain ⟨b1053, o1054, c1055, hc1056, ha1057, hi1058⟩ := idxR r6 hx1052
              refine nq (Q_idx hi1058 Try.underlying23 ty3 rfl rfl) rfl rfl <| nq (v := .int .i64 x1052) (Q_ld (show cellsAt _ _ _ [.int .i64 x1052] from (show _ = [_] from hc1056) ▸ (ha1057.up H.ok.view)) ty3 rfl (fun _ => rfl) rfl rfl) rfl rfl <| nq (Q_lss rfl rfl) rfl rfl <| nq (Q_move rfl) rfl rfl ?_
              rcases Bool.eq_false_or_eq_true (decide (x1052 < (-1))) with hb | hb
              · rw [hb]
                replace ho1051 := itT hb ho1051
                refine gs rfl rfl rfl rfl <| gs rfl rfl rfl rfl <| gs rfl rfl rfl rfl <| gs rfl rfl rfl rfl <| gs rfl rfl rfl rfl <| gs rfl rfl rfl rfl <| nq (Q_pickT rfl rfl) rfl rfl <| WL_nil ?_
                replace H := H.front 1 rfl
                dsimp only [List.eraseIdx] at H
                obtain rfl := Option.some.inj ho1051
                refine x_A fun a hf => ⟨true, rfl, hf.sub ⟨rfl, rfl, rfl, rfl, rfl, rfl, rfl, rfl, trivial⟩, H⟩
              · rw [hb]
                replace ho1051 := itF hb ho1051
                refine gq (v := .pointer (some ⟨b601, 1, none⟩)) (Q_fld Try.underlying29 rfl ty23 (by decide) rfl rfl) rfl rfl rfl <| gq (v := v4) (Q_ldB (k := 1) (cs := [v4]) H.ok rfl ty23 rfl rfl rfl (fun _ => rfl) rfl) rfl rfl rfl <| gq (Q_move rfl) rfl rfl rfl ?_
                obtain ⟨x1059, hx1059, ho1051⟩ := bnd ho1051
                obtain ⟨b1060, o1061, c1062, hc1063, ha1064, hi1065⟩ := idxR r6 hx1059
                refine gq (Q_idx hi1065 Try.underlying23 ty3 rfl rfl) rfl rfl rfl <| gq (v := .int .i64 x1059) (Q_ld (show cellsAt _ _ _ [.int .i64 x1059] from (show _ = [_] from hc1063) ▸ (ha1064.up H.ok.view)) ty3 rfl (fun _ => rfl) rfl rfl) rfl rfl rfl <| gq (Q_gtr rfl rfl) rfl rfl rfl <| nq (Q_pickF rfl rfl) rfl rfl <| WL_nil ?_
                replace H := H.front 1 rfl
                dsimp only [List.eraseIdx] at H
                obtain rfl := Option.some.inj ho1051
                refine x_A fun a hf => ⟨decide (x1059 > 47), rfl, hf.sub ⟨rfl, rfl, rfl, rfl, rfl, rfl, rfl, rfl, trivial⟩, H⟩
            · rintro a wd1066 ⟨x1050, rfl, hf, H⟩
              try dsimp only at hB1023
              refine CW.at hf ?_
              refine C_cond rfl (fun hb => ?_) (fun hb => ?_)
              · replace hB1023 := itT hb hB1023
                refine C_seq <| R_nd <| nq (Q_assign rfl) rfl rfl <| WL_nil <| x_then <| C_ret <| x_then_ret <| x_block_ret <| x_then_ret <| x_then_ret <| x_block_ret <| x_then_ret <| x_then_ret ?_
                replace H := H.drop 0 rfl
                dsimp only [List.eraseIdx] at H
                replace H := H.drop 0 rfl
                dsimp only [List.eraseIdx] at H
                obtain rfl := Option.some.inj hB1023
                obtain rfl := hO1024 _ rfl
                obtain rfl := Option.some.inj (show some _ = some _ from hF)
                exact fn_ret (l := [.tmp 2]) (vs := [.bool false]) rfl rfl rfl ⟨false, rfl, rfl, H⟩
              · replace hB1023 := itF hb hB1023
                refine C_skip <| x_then <| C_seq <| R_nd <| nq (Q_ldW (k := 1) H.ok rfl ty41 rfl (arr_clen hc1030.2 hc1030.1)) rfl rfl <| nq (Q_move rfl) rfl rfl <| WL_nil <| x_then ?_
                obtain ⟨o1086, ho1086, hB1023⟩ := bnd hB1023
                refine C_cutQ (fun a w' => .inl () = o1086 ∧ Fr 101 a [(1, .pointer (some ⟨b601, 0, none⟩)), (3, .int .i64 (x2.length : Int)), (39, v1), (40, .int .i64 (x2.length : Int)), (41, .int .i64 x939)] ∧ Hp C w' ρ (Box b601 [v1, v4, v7] :: hs)) ?_ ?_
                · refine C_block ?_
                  replace H := H.drop 1 rfl
                  dsimp only [List.eraseIdx] at H
                  refine C_iter (f := fun s => F_dofferref17_Right_l1 N x2 x939 x1026 s) ho1086 (fun s a w' => ∃ (x1092 : Int), x1092 = s ∧ Fr 101 a [(1, .pointer (some ⟨b601, 0, none⟩)), (3, .int .i64 (x2.length : Int)), (4, .int .i64 x939), (39, v1), (40, .int .i64 (x2.length : Int)), (41, .int .i64 x939), (60, .agg c1029.toArray), (61, .int .i64 x1092)] ∧ Hp C w' ρ (Box b601 [v1, v4, v7] :: hs)) ?_ ?_
                  · exact fun a hf => ⟨0, rfl, hf.sub ⟨rfl, rfl, rfl, rfl, rfl, rfl, rfl, rfl, trivial⟩, H⟩
                  · rintro s o1098 a wd1101 ⟨x1092, rfl, hf, H⟩ hB1099 hO1100
                    replace hB1099 : F_dofferref17_Right_l1 N x2 x939 x1026 x1092 = some o1098 := hB1099
                    unfold F_dofferref17_Right_l1 at hB1099
                    refine CW.at hf <| C_seq <| R_nd <| nq (Q_lss rfl rfl) rfl rfl <| WL_nil <| x_then <| C_seq ?_
                    refine C_cond rfl (fun hb => ?_) (fun hb => ?_)
                    · replace hB1099 := itT hb hB1099
                      refine C_skip <| x_then <| C_seq <| C_block <| C_seq <| R_nd ?_
                      obtain ⟨x1102, hx1102, hB1099⟩ := bnd hB1099
                      refine nq (Q_ixI hc1030.2 hc1030.1 hx1102 Try.underlying41 rfl rfl ty3 rfl) rfl rfl <| nq (Q_assign rfl) rfl rfl <| WL_nil <| x_then ?_
                      obtain ⟨o1104, ho1104, hB1099⟩ := bnd hB1099
                      refine C_cut (fun a w' => ∃ (x1103 : Bool), x1103 = o1104 ∧ Fr 101 a [(1, .pointer (some ⟨b601, 0, none⟩)), (3, .int .i64 (x2.length : Int)), (4, .int .i64 x939), (39, v1), (40, .int .i64 (x2.length : Int)), (41, .int .i64 x939), (60, .agg c1029.toArray), (61, .int .i64 x1092), (78, .bool x1103)] ∧ Hp C w' ρ (Box b601 [v1, v4, v7] :: hs)) ?_ ?_
                      · refine R_nd <| nq (Q_move rfl) rfl rfl <| nq (Q_lss rfl rfl) rfl rfl <| nq (Q_move rfl) rfl rfl ?_
                        rcases Bool.eq_false_or_eq_true (decide (x1102 < 0)) with hb | hb
                        · rw [hb]
                          replace ho1104 := itT hb ho1104
                          refine gs rfl rfl rfl rfl <| gs rfl rfl rfl rfl <| gs rfl rfl rfl rfl <| nq (Q_pickT rfl rfl) rfl rfl <| nq (Q_move rfl) rfl rfl <| gs rfl rfl rfl rfl <| gs rfl rfl rfl rfl <| gs rfl rfl rfl rfl <| gsu rfl ⟨_, _, rfl, rfl, rfl⟩ rfl <| gsu rfl ⟨_, _, rfl, rfl, rfl⟩ rfl <| gs rfl rfl rfl rfl <| nq (Q_pickT rfl rfl) rfl rfl <| WL_nil ?_
                          obtain rfl := Option.some.inj ho1104
                          refine x_A fun a hf => ⟨true, rfl, hf.sub ⟨rfl, rfl, rfl, rfl, rfl, rfl, rfl, rfl, rfl, trivial⟩, H⟩
                        · rw [hb]
                          replace ho1104 := itF hb ho1104
                          refine gq (Q_move rfl) rfl rfl rfl <| gq (Q_move rfl) rfl rfl rfl <| gq (Q_geq rfl rfl) rfl rfl rfl <| nq (Q_pickF rfl rfl) rfl rfl <| nq (Q_move rfl) rfl rfl ?_
                          rcases Bool.eq_false_or_eq_true (decide (x1102 ≥ (x2.length : Int))) with hb | hb
                          · rw [hb]
                            replace ho1104 := itT hb ho1104
                            refine gs rfl rfl rfl rfl <| gs rfl rfl rfl rfl <| gs rfl rfl rfl rfl <| gsu rfl ⟨_, _, rfl, rfl, rfl⟩ rfl <| gsu rfl ⟨_, _, rfl, rfl, rfl⟩ rfl <| gs rfl rfl rfl rfl <| nq (Q_pickT rfl rfl) rfl rfl <| WL_nil ?_
                            obtain rfl := Option.some.inj ho1104
                            refine x_A fun a hf => ⟨true, rfl, hf.sub ⟨rfl, rfl, rfl, rfl, rfl, rfl, rfl, rfl, rfl, trivial⟩, H⟩
                          · rw [hb]
                            replace ho1104 := itF hb ho1104
                            refine gq (Q_move rfl) rfl rfl rfl <| gq (Q_eql rfl rfl) rfl rfl rfl <| gq (Q_move rfl) rfl rfl rfl ?_
                            rcases Bool.eq_false_or_eq_true (x939 == 0) with hb | hb
                            · rw [hb]
                              replace ho1104 := itT hb ho1104
                              refine gq (Q_move rfl) rfl rfl rfl <| gq (Q_neq rfl rfl) rfl rfl rfl <| gq (Q_pickT rfl rfl) rfl rfl rfl <| nq (Q_pickF rfl rfl) rfl rfl <| WL_nil ?_
                              obtain rfl := Option.some.inj ho1104
                              refine x_A fun a hf => ⟨x1102 != 0, rfl, hf.sub ⟨rfl, rfl, rfl, rfl, rfl, rfl, rfl, rfl, rfl, trivial⟩, H⟩
                            · rw [hb]
                              replace ho1104 := itF hb ho1104
                              refine gs rfl rfl rfl rfl <| gs rfl rfl rfl rfl <| gq (Q_pickF rfl rfl) rfl rfl rfl <| nq (Q_pickF rfl rfl) rfl rfl <| WL_nil ?_
                              obtain rfl := Option.some.inj ho1104
                              refine x_A fun a hf => ⟨false, rfl, hf.sub ⟨rfl, rfl, rfl, rfl, rfl, rfl, rfl, rfl, rfl, trivial⟩, H⟩
                      · rintro a wd1105 ⟨x1103, rfl, hf, H⟩
                        try dsimp only at hB1099
                        refine CW.at hf ?_
                        refine C_cond rfl (fun hb => ?_) (fun hb => ?_)
                        · replace hB1099 := itT hb hB1099
                          refine C_seq <| R_nd <| nq (Q_assign rfl) rfl rfl <| WL_nil <| x_then <| C_ret <| x_block_ret <| x_then_ret <| x_then_ret <| x_block_ret <| x_then_ret <| x_block_ret <| x_then_ret <| x_then_ret ?_
                          refine x_block_ret <| x_then_ret <| x_then_ret ?_
                          replace H := H.drop 0 rfl
                          dsimp only [List.eraseIdx] at H
                          obtain rfl := Option.some.inj hB1099
                          obtain rfl := hO1100 _ rfl
                          obtain rfl := Option.some.inj (show some _ = some _ from hB1023)
                          obtain rfl := hO1024 _ rfl
                          obtain rfl := Option.some.inj (show some _ = some _ from hF)
                          exact fn_ret (l := [.tmp 2]) (vs := [.bool false]) rfl rfl rfl ⟨false, rfl, rfl, H⟩
                        · replace hB1099 := itF hb hB1099
                          refine C_skip <| x_block <| x_then <| R_nd <| nq (Q_add rfl rfl) rfl rfl <| nq (Q_move rfl) rfl rfl <| WL_nil ?_
                          obtain rfl := Option.some.inj hB1099
                          refine x_A fun a hf => ⟨_, rfl, w64 (x1092 + 1), rfl, hf.sub ⟨rfl, rfl, rfl, rfl, rfl, rfl, rfl, rfl, trivial⟩, H⟩
                    · replace hB1099 := itF hb hB1099
                      refine C_exit <| x_then_exit <| x_then_exit <| x_block_exit ?_
                      obtain rfl := Option.some.inj hB1099
                      obtain rfl := hO1100 _ rfl
                      refine x_A fun a hf => ⟨rfl, hf.sub ⟨rfl, rfl, rfl, rfl, rfl, trivial⟩, H⟩
                · rintro a wd1106 ⟨rfl, hf, H⟩
                  try dsimp only at hB1023
                  refine XX.at hf <| x_block <| x_then <| R_nd <| nq (Q_add rfl rfl) rfl rfl <| nq (Q_move rfl) rfl rfl <| WL_nil ?_
                  obtain rfl := Option.some.inj hB1023
                  refine x_A fun a hf => ⟨_, rfl, w64 (x939 + 1), rfl, hf.sub ⟨rfl, rfl, rfl, rfl, rfl, trivial⟩, H⟩
          · replace hB1023 := itF hb hB1023
            refine C_exit <| x_then_exit <| x_then_exit <| x_block_exit ?_
            obtain rfl := Option.some.inj hB1023
            obtain rfl := hO1024 _ rfl
            refine x_A fun a hf => ⟨rfl, hf.sub ⟨rfl, rfl, trivial⟩, H⟩
      · rintro a wd1107 ⟨rfl, hf, H⟩
        try dsimp only at hF
        refine XX.at hf <| x_then <| C_seq <| C_seq <| R_nd <| nq (v := .pointer (some ⟨b601, 2, none⟩)) (Q_fld Try.underlying29 rfl ty23 (by decide) rfl rfl) rfl rfl <| nq (v := v7) (Q_ldB (k := 0) (cs := [v7]) H.ok rfl ty23 rfl rfl rfl (fun _ => rfl) rfl) rfl rfl <| nq (Q_len Try.underlying23 rfl r9) rfl rfl <| nq (Q_move rfl) rfl rfl <| WL_nil <| x_then ?_
        obtain ⟨o1145, ho1145, hF⟩ := bnd hF
        refine C_cutQ (fun a w' => .inl () = o1145 ∧ Fr 101 a [(1, .pointer (some ⟨b601, 0, none⟩))] ∧ Hp C w' ρ (Box b601 [v1, v4, v7] :: hs)) ?_ ?_
        · refine C_block ?_
          refine C_iter (f := fun s => F_dofferref17_Right_l2 N x2 x8 s) ho1145 (fun s a w' => ∃ (x1157 : Int), x1157 = s ∧ Fr 101 a [(1, .pointer (some ⟨b601, 0, none⟩)), (3, .int .i64 (x2.length : Int)), (82, v7), (83, .int .i64 (x8.length : Int)), (84, .int .i64 x1157)] ∧ Hp C w' ρ (Box b601 [v1, v4, v7] :: hs)) ?_ ?_
          · exact fun a hf => ⟨0, rfl, hf.sub ⟨rfl, rfl, rfl, rfl, rfl, trivial⟩, H⟩
          · rintro s o1169 a wd1172 ⟨x1157, rfl, hf, H⟩ hB1170 hO1171
            replace hB1170 : F_dofferref17_Right_l2 N x2 x8 x1157 = some o1169 := hB1170
            unfold F_dofferref17_Right_l2 at hB1170
            refine CW.at hf <| C_seq <| R_nd <| nq (Q_lss rfl rfl) rfl rfl <| WL_nil <| x_then <| C_seq ?_
            refine C_cond rfl (fun hb => ?_) (fun hb => ?_)
            · replace hB1170 := itT hb hB1170
              refine C_skip <| x_then <| C_seq <| C_block <| C_seq <| R_nd ?_
              obtain ⟨x1173, hx1173, hB1170⟩ := bnd hB1170
              obtain ⟨b1174, o1175, c1176, hc1177, ha1178, hi1179⟩ := idxR r9 hx1173
              refine nq (Q_idx hi1179 Try.underlying23 ty3 rfl rfl) rfl rfl <| nq (v := .int .i64 x1173) (Q_ld (show cellsAt _ _ _ [.int .i64 x1173] from (show _ = [_] from hc1177) ▸ (ha1178.up H.ok.view)) ty3 rfl (fun _ => rfl) rfl rfl) rfl rfl <| nq (Q_assign rfl) rfl rfl <| WL_nil <| x_then ?_
              obtain ⟨o1181, ho1181, hB1170⟩ := bnd hB1170
              refine C_cut (fun a w' => ∃ (x1180 : Bool), x1180 = o1181 ∧ Fr 101 a [(1, .pointer (some ⟨b601, 0, none⟩)), (3, .int .i64 (x2.length : Int)), (82, v7), (83, .int .i64 (x8.length : Int)), (84, .int .i64 x1157), (94, .bool x1180)] ∧ Hp C w' ρ (Box b601 [v1, v4, v7] :: hs)) ?_ ?_
              · refine R_nd <| nq (Q_move rfl) rfl rfl <| nq (Q_lss rfl rfl) rfl rfl <| nq (Q_move rfl) rfl rfl ?_
                rcases Bool.eq_false_or_eq_true (decide (x1173 < 0)) with hb | hb
                · rw [hb]
                  replace ho1181 := itT hb ho1181
                  refine gs rfl rfl rfl rfl <| gs rfl rfl rfl rfl <| gs rfl rfl rfl rfl <| nq (Q_pickT rfl rfl) rfl rfl <| WL_nil ?_
                  obtain rfl := Option.some.inj ho1181
                  refine x_A fun a hf => ⟨true, rfl, hf.sub ⟨rfl, rfl, rfl, rfl, rfl, rfl, trivial⟩, H⟩
                · rw [hb]
                  replace ho1181 := itF hb ho1181
                  refine gq (Q_move rfl) rfl rfl rfl <| gq (Q_move rfl) rfl rfl rfl <| gq (Q_geq rfl rfl) rfl rfl rfl <| nq (Q_pickF rfl rfl) rfl rfl <| WL_nil ?_
                  obtain rfl := Option.some.inj ho1181
                  refine x_A fun a hf => ⟨decide (x1173 ≥ (x2.length : Int)), rfl, hf.sub ⟨rfl, rfl, rfl, rfl, rfl, rfl, trivial⟩, H⟩
              · rintro a wd1182 ⟨x1180, rfl, hf, H⟩
                try dsimp only at hB1170
                refine CW.at hf ?_
                refine C_cond rfl (fun hb => ?_) (fun hb => ?_)
                · replace hB1170 := itT hb hB1170
                  refine C_seq <| R_nd <| nq (Q_assign rfl) rfl rfl <| WL_nil <| x_then <| C_ret <| x_block_ret <| x_then_ret <| x_then_ret <| x_block_ret <| x_then_ret <| x_then_ret ?_
                  replace H := H.drop 0 rfl
                  dsimp only [List.eraseIdx] at H
                  obtain rfl := Option.some.inj hB1170
                  obtain rfl := hO1171 _ rfl
                  obtain rfl := Option.some.inj (show some _ = some _ from hF)
                  exact fn_ret (l := [.tmp 2]) (vs := [.bool false]) rfl rfl rfl ⟨false, rfl, rfl, H⟩
                · replace hB1170 := itF hb hB1170
                  refine C_skip <| x_block <| x_then <| R_nd <| nq (Q_add rfl rfl) rfl rfl <| nq (Q_move rfl) rfl rfl <| WL_nil ?_
                  obtain rfl := Option.some.inj hB1170
                  refine x_A fun a hf => ⟨_, rfl, w64 (x1157 + 1), rfl, hf.sub ⟨rfl, rfl, rfl, rfl, rfl, trivial⟩, H⟩
            · replace hB1170 := itF hb hB1170
              refine C_exit <| x_then_exit <| x_then_exit <| x_block_exit ?_
              obtain rfl := Option.some.inj hB1170
              obtain rfl := hO1171 _ rfl
              refine x_A fun a hf => ⟨rfl, hf.sub ⟨rfl, trivial⟩, H⟩
        · rintro a wd1183 ⟨rfl, hf, H⟩
          try dsimp only at hF
          refine XX.at hf <| x_then <| C_seq <| R_nd <| nq (v := .pointer (some ⟨b601, 1, none⟩)) (Q_fld Try.underlying29 rfl ty23 (by decide) rfl rfl) rfl rfl <| nq (v := v4) (Q_ldB (k := 0) (cs := [v4]) H.ok rfl ty23 rfl rfl rfl (fun _ => rfl) rfl) rfl rfl ?_
          obtain ⟨x1184, hx1184, hF⟩ := bnd hF
          obtain ⟨b1185, o1186, c1187, hc1188, ha1189, hi1190⟩ := idxR r6 hx1184
          refine nq (Q_idx hi1190 Try.underlying23 ty3 rfl rfl) rfl rfl <| nq (v := .int .i64 x1184) (Q_ld (show cellsAt _ _ _ [.int .i64 x1184] from (show _ = [_] from hc1188) ▸ (ha1189.up H.ok.view)) ty3 rfl (fun _ => rfl) rfl rfl) rfl rfl <| nq (Q_eql rfl rfl) rfl rfl <| nq (Q_assign rfl) rfl rfl <| WL_nil <| x_then <| C_ret ?_
          replace H := H.drop 0 rfl
          dsimp only [List.eraseIdx] at H
          obtain rfl := Option.some.inj hF
          exact fn_ret (l := [.tmp 2]) (vs := [.bool (x1184 == (-1))]) rfl rfl rfl ⟨x1184 == (-1), rfl, rfl, H⟩
theorem c_15 {N : Nat} {C : Cx} {w : World} {ρ : View} {hs : List Hl} {v1 : Value} {v4 : Value} {v7 : Value} {x2 : (List (List Int))} {x5 : (List Int)} {x8 : (List Int)} (H : Hp C w ρ (hs)) (r3 : RdSl ρ (eA 256 (eI .i64)) v1 x2) (r6 : RdSl ρ (eI .i64) v4 x5) (_r9 : RdSl ρ (eI .i64) v7 x8) {r : (List (List Int))} (hF : F_dofferref19_Far N x2 x5 x8 = some r) :
    Calls Try.prog 15 [.agg #[v1, v4, v7]].toArray w (Rets (fun v w' => (∃ (v260083 : Value) (c260084 : (List Value)) (x260085 : (List (List Int))), x260085 = r ∧ v260083 = v ∧ Hp C w' ρ (NA (eI .i64) 1 v260083 c260084 x260085 :: hs)))) := by
  unfold F_dofferref19_Far at hF
  have h0 : Try.f15.body = some _ := rfl
  refine fn_calls' Try.func15 h0 (n := 108) rfl (by simp) <| C_seq <| R_nd <| ne (E_box H (vs := [v1, v4, v7]) rfl rfl) rfl rfl ?_
  rintro _ wd260087 ⟨b260086, rfl, H⟩
  refine nq (Q_assign rfl) rfl rfl <| WL_nil <| x_then <| C_seq <| R_nd <| nq (v := .pointer (some ⟨b260086, 0, none⟩)) (Q_fld Try.underlying29 rfl ty27 (by decide) rfl rfl) rfl rfl <| nq (v := v1) (Q_ldB (k := 0) (cs := [v1]) H.ok rfl ty27 rfl rfl rfl (fun _ => rfl) rfl) rfl rfl <| nq (Q_len Try.underlying27 rfl r3) rfl rfl <| nq (Q_assign rfl) rfl rfl <| WL_nil <| x_then <| C_seq <| R_nd <| ne (E_bslice0 H Try.underlying51 ty23) rfl rfl ?_
  rintro _ wd260089 ⟨b260088, rfl, H⟩
  replace H := H.njoin0 (eI .i64)
  refine nq (Q_assign rfl) rfl rfl <| WL_nil <| x_then <| C_seq <| C_seq <| R_nd <| nq (Q_assign rfl) rfl rfl <| WL_nil <| x_then ?_
  obtain ⟨o262218, ho262218, hF⟩ := bnd hF
  refine C_cutQ (fun a w' => ∃ (v262215 : Value) (c262216 : (List Value)) (x262217 : (List (List Int))), x262217 = o262218 ∧ Fr 108 a [(1, .pointer (some ⟨b260086, 0, none⟩)), (3, .int .i64 (x2.length : Int)), (4, v262215)] ∧ Hp C w' ρ (Box b260086 [v1, v4, v7] :: NA (eI .i64) 1 v262215 c262216 x262217 :: hs)) ?_ ?_
  · refine C_block ?_
    replace H := H.front 1 rfl
    dsimp only [List.eraseIdx] at H
    refine C_iter (f := fun s => F_dofferref19_Far_l0 N x2 x5 s.1 s.2) ho262218 (fun s a w' => ∃ (v262926 : Value) (c262927 : (List Value)) (x262928 : (List (List Int))) (x262929 : Int), (x262928, x262929) = s ∧ Fr 108 a [(1, .pointer (some ⟨b260086, 0, none⟩)), (3, .int .i64 (x2.length : Int)), (4, v262926), (5, .int .i64 x262929)] ∧ Hp C w' ρ (Box b260086 [v1, v4, v7] :: NA (eI .i64) 1 v262926 c262927 x262928 :: hs)) ?_ ?_
    · exact fun a hf => ⟨(.slice (some ⟨b260088, 0, none⟩) 0 0), [], [], 0, rfl, hf.sub ⟨rfl, rfl, rfl, rfl, trivial⟩, H⟩
    · rintro s o263637 a wd263640 ⟨v262926, c262927, x262928, x262929, rfl, hf, H⟩ hB263638 hO263639
      replace hB263638 : F_dofferref19_Far_l0 N x2 x5 x262928 x262929 = some o263637 := hB263638
      unfold F_dofferref19_Far_l0 at hB263638
      refine CW.at hf <| C_seq <| C_seq <| R_nd <| nq (Q_move rfl) rfl rfl <| nq (Q_move rfl) rfl rfl <| nq (Q_lss rfl rfl) rfl rfl <| WL_nil <| x_then ?_
      refine C_cond rfl (fun hb => ?_) (fun hb => ?_)
      · replace hB263638 := itT hb hB263638
        refine C_skip <| x_then <| C_seq <| C_block <| C_seq <| R_nd <| nq (Q_move rfl) rfl rfl ?_
        obtain ⟨x263641, hx263641, hB263638⟩ := bnd hB263638
        obtain ⟨hm263643a, hm263643b, hm263643c⟩ := mk_some hx263641
        refine ne (E_make H Try.underlying23 ty3 (zs := [.int .i64 0]) rfl rfl (by decide) (by decide) rfl hm263643a hm263643b) rfl rfl ?_
        rintro _ wd263644 ⟨b263642, rfl, H⟩
        refine nq (Q_assign rfl) rfl rfl <| WL_nil <| x_then <| C_seq <| C_seq <| R_nd <| nq (Q_assign rfl) rfl rfl <| WL_nil <| x_then ?_
        obtain ⟨o263991, ho263991, hB263638⟩ := bnd hB263638
        refine C_cutQ (fun a w' => ∃ (c263988 : (List Value)) (x263989 : (List Int)), x263989 = o263991 ∧ rdL (eI .i64) ρ x263989 c263988 ∧ Fr 108 a [(1, .pointer (some ⟨b260086, 0, none⟩)), (3, .int .i64 (x2.length : Int)), (4, v262926), (5, .int .i64 x262929), (6, (.slice (some ⟨b263642, 0, none⟩) (x2.length : Int).toNat (x2.length : Int).toNat))] ∧ Hp C w' ρ (Box b260086 [v1, v4, v7] :: NA (eI .i64) 1 v262926 c262927 x262928 :: Arr (.slice (some ⟨b263642, 0, none⟩) (x2.length : Int).toNat (x2.length : Int).toNat) 1 c263988 :: hs)) ?_ ?_
        · refine C_block ?_
          replace H := H.front 2 rfl
          dsimp only [List.eraseIdx] at H
          replace H := H.front 2 rfl
          dsimp only [List.eraseIdx] at H
          refine C_iter (f := fun s => F_dofferref19_Far_l1 N x2 x5 x262929 s.1 s.2) ho263991 (fun s a w' => ∃ (c264105 : (List Value)) (x264106 : (List Int)) (x264108 : Int), (x264106, x264108) = s ∧ rdL (eI .i64) ρ x264106 c264105 ∧ Fr 108 a [(1, .pointer (some ⟨b260086, 0, none⟩)), (3, .int .i64 (x2.length : Int)), (4, v262926), (5, .int .i64 x262929), (6, (.slice (some ⟨b263642, 0, none⟩) (x2.length : Int).toNat (x2.length : Int).toNat)), (7, .int .i64 x264108)] ∧ Hp C w' ρ (Box b260086 [v1, v4, v7] :: NA (eI .i64) 1 v262926 c262927 x262928 :: Arr (.slice (some ⟨b263642, 0, none⟩) (x2.length : Int).toNat (x2.length : Int).toNat) 1 c264105 :: hs)) ?_ ?_
          · exact fun a hf => ⟨(repC (x2.length : Int).toNat [.int .i64 0]), x263641, 0, rfl, (hm263643c ▸ rdL_rep (e := (eI .i64)) (ρ := ρ) (rfl) _), hf.sub ⟨rfl, rfl, rfl, rfl, rfl, rfl, trivial⟩, H⟩
          · rintro s o264222 a wd264225 ⟨c264105, x264106, x264108, rfl, r264107, hf, H⟩ hB264223 hO264224
            replace hB264223 : F_dofferref19_Far_l1 N x2 x5 x262929 x264106 x264108 = some o264222 := hB264223
            unfold F_dofferref19_Far_l1 at hB264223
            refine CW.at hf <| C_seq <| C_seq <| R_nd <| nq (Q_move rfl) rfl rfl <| nq (Q_move rfl) rfl rfl <| nq (Q_lss rfl rfl) rfl rfl <| WL_nil <| x_then ?_
            refine C_cond rfl (fun hb => ?_) (fun hb => ?_)
            · replace hB264223 := itT hb hB264223
              refine C_skip <| x_then ?_
              obtain ⟨o264281, ho264281, hB264223⟩ := bnd hB264223
              refine C_cut (fun a w' => ∃ (c264278 : (List Value)) (x264279 : (List Int)), x264279 = o264281 ∧ rdL (eI .i64) ρ x264279 c264278 ∧ Fr 108 a [(1, .pointer (some ⟨b260086, 0, none⟩)), (3, .int .i64 (x2.length : Int)), (4, v262926), (5, .int .i64 x262929), (6, (.slice (some ⟨b263642, 0, none⟩) (x2.length : Int).toNat (x2.length : Int).toNat)), (7, .int .i64 x264108)] ∧ Hp C w' ρ (Box b260086 [v1, v4, v7] :: NA (eI .i64) 1 v262926 c262927 x262928 :: Arr (.slice (some ⟨b263642, 0, none⟩) (x2.length : Int).toNat (x2.length : Int).toNat) 1 c264278 :: hs)) ?_ ?_
              · refine C_block <| C_seq <| R_nd <| nq (Q_move rfl) rfl rfl <| nq (Q_move rfl) rfl rfl ?_
                obtain ⟨x264282, hx264282, ho264281⟩ := bnd ho264281
                obtain ⟨b264283, o264284, hi264288, hc264286, ha264287⟩ := arr_at (hs := [Arr (.slice (some ⟨b263642, 0, none⟩) (x2.length : Int).toNat (x2.length : Int).toNat) 1 c264105]) (k := 0) (by decide) (H.okS (by simp)) rfl r264107 hx264282
                refine nq (Q_idx hi264288 Try.underlying23 ty3 rfl rfl) rfl rfl ?_
                obtain ⟨x264289, hx264289, ho264281⟩ := bnd ho264281
                obtain ⟨hs264290a, hs264290b, hs264290c⟩ := setI_some hx264289
                have r264291 : rdL (eI .i64) ρ x264289 (setC c264105 (x264108.toNat * 1 + 0) [.int .i64 (-1)]) := hs264290c ▸ rdL.set r264107 hs264290b (rfl)
                refine ne (E_stA (k := 2) (j := 0) (c := [.int .i64 (-1)]) H rfl ty3 hi264288 rfl rfl rfl rfl (one_cons rfl one_nil) (by decide)) rfl rfl ?_
                rintro _ wd264292 H
                dsimp only [List.set] at H
                refine WL_nil <| x_then <| C_seq <| R_dr (.take 0 (.take 1 (.take 2 (.take 3 (.take 4 (.take 5 (.take 6 (.take 7 (.take 8 (.take 9 (.take 10 .done))))))))))) (fun w' => Ok w' ρ [Box b260086 [v1, v4, v7], NA (eI .i64) 1 v262926 c262927 x262928, Arr (.slice (some ⟨b263642, 0, none⟩) (x2.length : Int).toNat (x2.length : Int).toNat) 1 (setC c264105 (x264108.toNat * 1 + 0) [.int .i64 (-1)])]) (by kernel_rfl) (by kernel_rfl) (by kernel_rfl) (H.drew.okS (by simp)) ?_
                replace H := H.drew
                refine dq (v := .pointer (some ⟨b260086, 1, none⟩)) rfl (fun _ _ => Q_fld Try.underlying29 rfl ty23 (by decide) rfl rfl) rfl rfl <| dq (v := v4) rfl (fun _ hw => Q_ldB (k := 0) (cs := [v4]) hw rfl ty23 rfl rfl rfl (fun _ => rfl) rfl) rfl rfl <| dq rfl (fun _ _ => Q_move rfl) rfl rfl ?_
                obtain ⟨x264293, hx264293, ho264281⟩ := bnd ho264281
                obtain ⟨b264294, o264295, c264296, hc264297, ha264298, hi264299⟩ := idxR r6 hx264293
                refine dq rfl (fun _ _ => Q_idx hi264299 Try.underlying23 ty3 rfl rfl) rfl rfl <| dq (v := .int .i64 x264293) rfl (fun _ hw => Q_ld (show cellsAt _ _ _ [.int .i64 x264293] from (show _ = [_] from hc264297) ▸ (ha264298.up hw.view)) ty3 rfl (fun _ => rfl) rfl rfl) rfl rfl <| dq (v := .pointer (some ⟨b260086, 1, none⟩)) rfl (fun _ _ => Q_fld Try.underlying29 rfl ty23 (by decide) rfl rfl) rfl rfl <| dq (v := v4) rfl (fun _ hw => Q_ldB (k := 0) (cs := [v4]) hw rfl ty23 rfl rfl rfl (fun _ => rfl) rfl) rfl rfl <| dq rfl (fun _ _ => Q_move rfl) rfl rfl ?_
                obtain ⟨x264300, hx264300, ho264281⟩ := bnd ho264281
                obtain ⟨b264301, o264302, c264303, hc264304, ha264305, hi264306⟩ := idxR r6 hx264300
                refine dq rfl (fun _ _ => Q_idx hi264306 Try.underlying23 ty3 rfl rfl) rfl rfl <| dq (v := .int .i64 x264300) rfl (fun _ hw => Q_ld (show cellsAt _ _ _ [.int .i64 x264300] from (show _ = [_] from hc264304) ▸ (ha264305.up hw.view)) ty3 rfl (fun _ => rfl) rfl rfl) rfl rfl <| dq rfl (fun _ _ => Q_neq rfl rfl) rfl rfl <| DL_nil <| x_then ?_
                obtain ⟨o264321, ho264321, ho264281⟩ := bnd ho264281
                refine C_cutQ (fun a w' => ∃ (c264318 : (List Value)) (x264319 : (List Int)), x264319 = o264321 ∧ rdL (eI .i64) ρ x264319 c264318 ∧ Fr 108 a [(1, .pointer (some ⟨b260086, 0, none⟩)), (3, .int .i64 (x2.length : Int)), (4, v262926), (5, .int .i64 x262929), (6, (.slice (some ⟨b263642, 0, none⟩) (x2.length : Int).toNat (x2.length : Int).toNat)), (7, .int .i64 x264108)] ∧ Hp C w' ρ (Box b260086 [v1, v4, v7] :: NA (eI .i64) 1 v262926 c262927 x262928 :: Arr (.slice (some ⟨b263642, 0, none⟩) (x2.length : Int).toNat (x2.length : Int).toNat) 1 c264318 :: hs)) ?_ ?_
                · refine C_cond rfl (fun hb => ?_) (fun hb => ?_)
                  · replace ho264321 := itT hb ho264321
                    refine R_nd <| nq (Q_move rfl) rfl rfl <| nq (Q_move rfl) rfl rfl ?_
                    obtain ⟨x264322, hx264322, ho264321⟩ := bnd ho264321
                    obtain ⟨b264323, o264324, hi264328, hc264326, ha264327⟩ := arr_at (hs := [Arr (.slice (some ⟨b263642, 0, none⟩) (x2.length : Int).toNat (x2.length : Int).toNat) 1 (setC c264105 (x264108.toNat * 1 + 0) [.int .i64 (-1)])]) (k := 0) (by decide) (H.okS (by simp)) rfl r264291 hx264322
                    refine nq (Q_idx hi264328 Try.underlying23 ty3 rfl rfl) rfl rfl ?_
                    obtain ⟨x264329, hx264329, ho264321⟩ := bnd ho264321
                    obtain ⟨hs264330a, hs264330b, hs264330c⟩ := setI_some hx264329
                    have r264331 : rdL (eI .i64) ρ x264329 (setC (setC c264105 (x264108.toNat * 1 + 0) [.int .i64 (-1)]) (x264108.toNat * 1 + 0) [.int .i64 0]) := hs264330c ▸ rdL.set r264291 hs264330b (rfl)
                    refine ne (E_stA (k := 2) (j := 0) (c := [.int .i64 0]) H rfl ty3 hi264328 rfl rfl rfl rfl (one_cons rfl one_nil) (by decide)) rfl rfl ?_
                    rintro _ wd264332 H
                    dsimp only [List.set] at H
                    refine WL_nil ?_
                    replace H := H.front 2 rfl
                    dsimp only [List.eraseIdx] at H
                    replace H := H.front 2 rfl
                    dsimp only [List.eraseIdx] at H
                    replace H := H.front 2 rfl
                    dsimp only [List.eraseIdx] at H
                    obtain rfl := Option.some.inj ho264321
                    refine x_A fun a hf => ⟨(setC (setC c264105 (x264108.toNat * 1 + 0) [.int .i64 (-1)]) (x264108.toNat * 1 + 0) [.int .i64 0]), x264329, rfl, r264331, hf.sub ⟨rfl, rfl, rfl, rfl, rfl, rfl, trivial⟩, H⟩
                  · replace ho264321 := itF hb ho264321
                    refine C_skip ?_
                    replace H := H.front 2 rfl
                    dsimp only [List.eraseIdx] at H
                    replace H := H.front 2 rfl
                    dsimp only [List.eraseIdx] at H
                    replace H := H.front 2 rfl
                    dsimp only [List.eraseIdx] at H
                    obtain rfl := Option.some.inj ho264321
                    refine x_A fun a hf => ⟨(setC c264105 (x264108.toNat * 1 + 0) [.int .i64 (-1)]), x264289, rfl, r264291, hf.sub ⟨rfl, rfl, rfl, rfl, rfl, rfl, trivial⟩, H⟩
                · rintro a wd264333 ⟨c264318, x264319, rfl, r264320, hf, H⟩
                  try dsimp only at ho264281
                  refine XX.at hf <| x_block ?_
                  replace H := H.front 2 rfl
                  dsimp only [List.eraseIdx] at H
                  replace H := H.front 2 rfl
                  dsimp only [List.eraseIdx] at H
                  replace H := H.front 2 rfl
                  dsimp only [List.eraseIdx] at H
                  obtain rfl := Option.some.inj ho264281
                  refine x_A fun a hf => ⟨c264318, x264319, rfl, r264320, hf.sub ⟨rfl, rfl, rfl, rfl, rfl, rfl, trivial⟩, H⟩
              · rintro a wd264334 ⟨c264278, x264279, rfl, r264280, hf, H⟩
                try dsimp only at hB264223
                refine CW.at hf <| R_nd <| nq (Q_move rfl) rfl rfl <| nq (Q_add rfl rfl) rfl rfl <| nq (Q_assign rfl) rfl rfl <| WL_nil ?_
                replace H := H.front 2 rfl
                dsimp only [List.eraseIdx] at H
                replace H := H.front 2 rfl
                dsimp only [List.eraseIdx] at H
                replace H := H.front 2 rfl
                dsimp only [List.eraseIdx] at H
                obtain rfl := Option.some.inj hB264223
                refine x_A fun a hf => ⟨_, rfl, c264278, x264279, w64 (x264108 + 1), rfl, r264280, hf.sub ⟨rfl, rfl, rfl, rfl, rfl, rfl, trivial⟩, H⟩
            · replace hB264223 := itF hb hB264223
              refine C_exit <| x_then_exit <| x_then_exit <| x_block_exit ?_
              replace H := H.front 2 rfl
              dsimp only [List.eraseIdx] at H
              replace H := H.front 2 rfl
              dsimp only [List.eraseIdx] at H
              replace H := H.front 2 rfl
              dsimp only [List.eraseIdx] at H
              obtain rfl := Option.some.inj hB264223
              obtain rfl := hO264224 _ rfl
              refine x_A fun a hf => ⟨c264105, x264106, rfl, r264107, hf.sub ⟨rfl, rfl, rfl, rfl, rfl, trivial⟩, H⟩
        · rintro a wd264335 ⟨c263988, x263989, rfl, r263990, hf, H⟩
          try dsimp only at hB263638
          refine XX.at hf <| x_then <| R_nd <| nq (Q_move rfl) rfl rfl <| nq (Q_move rfl) rfl rfl ?_
          replace H := H.front 2 rfl
          dsimp only [List.eraseIdx] at H
          have hl264337 := arr_len (en := (eI .i64)) (by decide) (H.ok.get (k := 0) rfl) r263990
          refine ne (E_bslice (xs := [.tmp 47]) (vs := [(.slice (some ⟨b263642, 0, none⟩) (x2.length : Int).toNat (x2.length : Int).toNat)]) H Try.underlying51 ty23 (by decide) (cs := [(.slice (some ⟨b263642, 0, none⟩) (x2.length : Int).toNat (x2.length : Int).toNat)]) rfl (sz_cons (by rw [(arr_cells (H.ok.get (k := 0) rfl)).1]; rfl) sz_nil) (fm1 (arr_cells (H.ok.get (k := 0) rfl)).1) (by simp) (by simp) rfl rfl) rfl rfl ?_
          rintro _ wd264338 ⟨b264336, rfl, H⟩
          replace H := Hp.njoin1 (flat_I _) H r263990
          obtain ⟨x264339, hx264339, hB263638⟩ := bnd hB263638
          replace H := H.front 2 rfl
          dsimp only [List.eraseIdx] at H
          obtain ⟨hu264341, hj264342⟩ := app_alias (ds := [(.slice (some ⟨b263642, 0, none⟩) (x2.length : Int).toNat (x2.length : Int).toNat)]) (j := 0) (u := (.slice (some ⟨b263642, 0, none⟩) (x2.length : Int).toNat (x2.length : Int).toNat)) (x := x263989) (H.okS (l := [NA (eI .i64) 1 v262926 c262927 x262928]) (by simp)) hx264339 rfl rfl
          refine ne (E_appN1 H Try.underlying51 ty23 rfl (by decide) rfl rfl hx264339) rfl rfl ?_
          rintro u264340 wd264343 H
          refine nq (Q_assign rfl) rfl rfl <| WL_nil <| x_block <| x_then <| R_nd <| nq (Q_move rfl) rfl rfl <| nq (Q_add rfl rfl) rfl rfl <| nq (Q_assign rfl) rfl rfl <| WL_nil ?_
          replace H := H.front 1 rfl
          dsimp only [List.eraseIdx] at H
          obtain rfl := Option.some.inj hB263638
          refine x_A fun a hf => ⟨_, rfl, u264340, (c262927 ++ ([(.slice (some ⟨b263642, 0, none⟩) (x2.length : Int).toNat (x2.length : Int).toNat)])), x264339, w64 (x262929 + 1), rfl, hf.sub ⟨rfl, rfl, rfl, rfl, trivial⟩, H⟩
      · replace hB263638 := itF hb hB263638
        refine C_exit <| x_then_exit <| x_then_exit <| x_block_exit ?_
        replace H := H.front 1 rfl
        dsimp only [List.eraseIdx] at H
        replace H := H.front 1 rfl
        dsimp only [List.eraseIdx] at H
        obtain rfl := Option.some.inj hB263638
        obtain rfl := hO263639 _ rfl
        refine x_A fun a hf => ⟨v262926, c262927, x262928, rfl, hf.sub ⟨rfl, rfl, rfl, trivial⟩, H⟩
  · rintro a wd264344 ⟨v262215, c262216, x262217, rfl, hf, H⟩
    try dsimp only at hF
    refine XX.at hf <| x_then <| C_seq <| R_nd <| nq (Q_assign rfl) rfl rfl <| WL_nil <| x_then <| C_block ?_
    replace H := H.front 1 rfl
    dsimp only [List.eraseIdx] at H
    replace H := H.front 1 rfl
    dsimp only [List.eraseIdx] at H
    refine C_iter (f := fun s => F_dofferref19_Far_l2 N x2 s.1 s.2) hF (fun s a w' => ∃ (c434885 : (List Value)) (x434886 : (List (List Int))) (x434887 : Int), (x434886, x434887) = s ∧ Fr 108 a [(1, .pointer (some ⟨b260086, 0, none⟩)), (3, .int .i64 (x2.length : Int)), (4, v262215), (8, .int .i64 x434887)] ∧ Hp C w' ρ (Box b260086 [v1, v4, v7] :: NA (eI .i64) 1 v262215 c434885 x434886 :: hs)) ?_ ?_
    · exact fun a hf => ⟨c262216, x262217, 1, rfl, hf.sub ⟨rfl, rfl, rfl, rfl, trivial⟩, H⟩
    · rintro s o477522 a wd477525 ⟨c434885, x434886, x434887, rfl, hf, H⟩ hB477523 hO477524
      replace hB477523 : F_dofferref19_Far_l2 N x2 x434886 x434887 = some o477522 := hB477523
      unfold F_dofferref19_Far_l2 at hB477523
      refine CW.at hf <| C_seq <| C_block <| C_seq <| R_nd <| nq (Q_assign rfl) rfl rfl <| WL_nil <| x_then <| C_seq <| C_seq <| R_nd <| nq (Q_assign rfl) rfl rfl <| WL_nil <| x_then ?_
      obtain ⟨o498842, ho498842, hB477523⟩ := bnd hB477523
      refine C_cutQ (fun a w' => ∃ (c498839 : (List Value)) (x498840 : (List (List Int))) (x498841 : Bool), (x498840, x498841) = o498842 ∧ Fr 108 a [(1, .pointer (some ⟨b260086, 0, none⟩)), (3, .int .i64 (x2.length : Int)), (4, v262215), (8, .int .i64 x434887), (9, .bool x498841)] ∧ Hp C w' ρ (Box b260086 [v1, v4, v7] :: NA (eI .i64) 1 v262215 c498839 x498840 :: hs)) ?_ ?_
      · refine C_block ?_
        replace H := H.front 1 rfl
        dsimp only [List.eraseIdx] at H
        replace H := H.front 1 rfl
        dsimp only [List.eraseIdx] at H
        refine C_iter (f := fun s => F_dofferref19_Far_l3 N x2 x434887 s.1 s.2.1 s.2.2) ho498842 (fun s a w' => ∃ (c505947 : (List Value)) (x505946 : Int) (x505948 : (List (List Int))) (x505949 : Bool), (x505946, x505948, x505949) = s ∧ Fr 108 a [(1, .pointer (some ⟨b260086, 0, none⟩)), (3, .int .i64 (x2.length : Int)), (4, v262215), (8, .int .i64 x434887), (9, .bool x505949), (10, .int .i64 x505946)] ∧ Hp C w' ρ (Box b260086 [v1, v4, v7] :: NA (eI .i64) 1 v262215 c505947 x505948 :: hs)) ?_ ?_
        · exact fun a hf => ⟨c434885, 0, x434886, false, rfl, hf.sub ⟨rfl, rfl, rfl, rfl, rfl, rfl, trivial⟩, H⟩
        · rintro s o513053 a wd513056 ⟨c505947, x505946, x505948, x505949, rfl, hf, H⟩ hB513054 hO513055
          replace hB513054 : F_dofferref19_Far_l3 N x2 x434887 x505946 x505948 x505949 = some o513053 := hB513054
          unfold F_dofferref19_Far_l3 at hB513054
          refine CW.at hf <| C_seq <| C_seq <| R_nd <| nq (Q_move rfl) rfl rfl <| nq (Q_move rfl) rfl rfl <| nq (Q_lss rfl rfl) rfl rfl <| WL_nil <| x_then ?_
          refine C_cond rfl (fun hb => ?_) (fun hb => ?_)
          · replace hB513054 := itT hb hB513054
            refine C_skip <| x_then <| C_seq <| C_block <| C_seq <| R_nd <| nq (Q_assign rfl) rfl rfl <| WL_nil <| x_then ?_
            obtain ⟨o516607, ho516607, hB513054⟩ := bnd hB513054
            refine C_cutQ (fun a w' => ∃ (c516604 : (List Value)) (x516605 : (List (List Int))) (x516606 : Bool), (x516605, x516606) = o516607 ∧ Fr 108 a [(1, .pointer (some ⟨b260086, 0, none⟩)), (3, .int .i64 (x2.length : Int)), (4, v262215), (8, .int .i64 x434887), (9, .bool x516606), (10, .int .i64 x505946)] ∧ Hp C w' ρ (Box b260086 [v1, v4, v7] :: NA (eI .i64) 1 v262215 c516604 x516605 :: hs)) ?_ ?_
            · refine C_block ?_
              replace H := H.front 1 rfl
              dsimp only [List.eraseIdx] at H
              replace H := H.front 1 rfl
              dsimp only [List.eraseIdx] at H
              refine C_iter (f := fun s => F_dofferref19_Far_l4 N x2 x434887 x505946 s.1 s.2.1 s.2.2) ho516607 (fun s a w' => ∃ (c517790 : (List Value)) (x517789 : Int) (x517791 : (List (List Int))) (x517792 : Bool), (x517789, x517791, x517792) = s ∧ Fr 108 a [(1, .pointer (some ⟨b260086, 0, none⟩)), (3, .int .i64 (x2.length : Int)), (4, v262215), (8, .int .i64 x434887), (9, .bool x517792), (10, .int .i64 x505946), (11, .int .i64 x517789)] ∧ Hp C w' ρ (Box b260086 [v1, v4, v7] :: NA (eI .i64) 1 v262215 c517790 x517791 :: hs)) ?_ ?_
              · exact fun a hf => ⟨c505947, 0, x505948, x505949, rfl, hf.sub ⟨rfl, rfl, rfl, rfl, rfl, rfl, rfl, trivial⟩, H⟩
              · rintro s o518974 a wd518977 ⟨c517790, x517789, x517791, x517792, rfl, hf, H⟩ hB518975 hO518976
                replace hB518975 : F_dofferref19_Far_l4 N x2 x434887 x505946 x517789 x517791 x517792 = some o518974 := hB518975
                unfold F_dofferref19_Far_l4 at hB518975
                refine CW.at hf <| C_seq <| C_seq <| R_nd <| nq (Q_move rfl) rfl rfl <| nq (Q_move rfl) rfl rfl <| nq (Q_lss rfl rfl) rfl rfl <| WL_nil <| x_then ?_
                refine C_cond rfl (fun hb => ?_) (fun hb => ?_)
                · replace hB518975 := itT hb hB518975
                  refine C_skip <| x_then <| C_seq <| C_block <| C_seq <| R_nd <| nq (Q_assign rfl) rfl rfl <| WL_nil <| x_then ?_
                  obtain ⟨o519567, ho519567, hB518975⟩ := bnd hB518975
                  refine C_cutQ (fun a w' => ∃ (c519564 : (List Value)) (x519565 : (List (List Int))) (x519566 : Bool), (x519565, x519566) = o519567 ∧ Fr 108 a [(1, .pointer (some ⟨b260086, 0, none⟩)), (3, .int .i64 (x2.length : Int)), (4, v262215), (8, .int .i64 x434887), (9, .bool x519566), (10, .int .i64 x505946), (11, .int .i64 x517789)] ∧ Hp C w' ρ (Box b260086 [v1, v4, v7] :: NA (eI .i64) 1 v262215 c519564 x519565 :: hs)) ?_ ?_
                  · refine C_block ?_
                    replace H := H.front 1 rfl
                    dsimp only [List.eraseIdx] at H
                    replace H := H.front 1 rfl
                    dsimp only [List.eraseIdx] at H
                    refine C_iter (f := fun s => F_dofferref19_Far_l5 N x2 x434887 x505946 x517789 s.1 s.2.1 s.2.2) ho519567 (fun s a w' => ∃ (c519763 : (List Value)) (x519762 : Int) (x519764 : (List (List Int))) (x519765 : Bool), (x519762, x519764, x519765) = s ∧ Fr 108 a [(1, .pointer (some ⟨b260086, 0, none⟩)), (3, .int .i64 (x2.length : Int)), (4, v262215), (8, .int .i64 x434887), (9, .bool x519765), (10, .int .i64 x505946), (11, .int .i64 x517789), (12, .int .i64 x519762)] ∧ Hp C w' ρ (Box b260086 [v1, v4, v7] :: NA (eI .i64) 1 v262215 c519763 x519764 :: hs)) ?_ ?_
                    · exact fun a hf => ⟨c517790, 0, x517791, x517792, rfl, hf.sub ⟨rfl, rfl, rfl, rfl, rfl, rfl, rfl, rfl, trivial⟩, H⟩
                    · rintro s o519960 a wd519963 ⟨c519763, x519762, x519764, x519765, rfl, hf, H⟩ hB519961 hO519962
                      replace hB519961 : F_dofferref19_Far_l5 N x2 x434887 x505946 x517789 x519762 x519764 x519765 = some o519960 := hB519961
                      unfold F_dofferref19_Far_l5 at hB519961
                      refine CW.at hf <| C_seq ?_
                      obtain ⟨o519979, ho519979, hB519961⟩ := bnd hB519961
                      refine C_cut (fun a w' => ∃ (x519978 : Bool), x519978 = o519979 ∧ Fr 108 a [(1, .pointer (some ⟨b260086, 0, none⟩)), (3, .int .i64 (x2.length : Int)), (4, v262215), (8, .int .i64 x434887), (9, .bool x519765), (10, .int .i64 x505946), (11, .int .i64 x517789), (12, .int .i64 x519762), (73, .bool x519978)] ∧ Hp C w' ρ (Box b260086 [v1, v4, v7] :: NA (eI .i64) 1 v262215 c519763 x519764 :: hs)) ?_ ?_
                      · refine R_nd <| nq (Q_move rfl) rfl rfl <| nq (Q_lss rfl rfl) rfl rfl <| nq (Q_move rfl) rfl rfl ?_
                        rcases Bool.eq_false_or_eq_true (decide (x519762 < 256)) with hb | hb
                        · rw [hb]
                          replace ho519979 := itT hb ho519979
                          refine gq (Q_move rfl) rfl rfl rfl <| gq (Q_move rfl) rfl rfl rfl ?_
                          obtain ⟨x519980, hx519980, ho519979⟩ := bnd ho519979
                          obtain ⟨b519981, o519982, u519984, hi519983, hu519985, ha519986, hl519987, hj519988⟩ := na_at1 (by decide) (H.okS (l := [NA (eI .i64) 1 v262215 c519763 x519764]) (by simp)) hx519980
                          refine gq (Q_idx hi519983 Try.underlying51 ty23 rfl rfl) rfl rfl rfl <| gq (v := u519984) (Q_ld (ha519986 _ (Ok.subS (by simp) H.ok)) ty23 rfl (fun _ => rfl) rfl rfl) rfl rfl rfl <| gq (Q_move rfl) rfl rfl rfl ?_
                          obtain ⟨x519989, hx519989, ho519979⟩ := bnd ho519979
                          obtain ⟨b519990, o519991, hi519992, ha519993⟩ := inn_at (by decide) (H.okS (l := [NA (eI .i64) 1 v262215 c519763 x519764]) (by simp)) hu519985 hj519988 hx519989
                          refine gq (Q_idx hi519992 Try.underlying23 ty3 rfl rfl) rfl rfl rfl <| gq (v := .int .i64 x519989) (Q_ld (show cellsAt _ _ _ [.int .i64 x519989] from match ha519993 _ (Ok.subS (by simp) H.ok) with | ⟨_, rfl, h⟩ => h) ty3 rfl (fun _ => rfl) rfl rfl) rfl rfl rfl <| gq (Q_lss rfl rfl) rfl rfl rfl <| nq (Q_pickT rfl rfl) rfl rfl <| WL_nil ?_
                          replace H := H.front 1 rfl
                          dsimp only [List.eraseIdx] at H
                          replace H := H.front 1 rfl
                          dsimp only [List.eraseIdx] at H
                          obtain rfl := Option.some.inj ho519979
                          refine x_A fun a hf => ⟨decide (x519989 < 0), rfl, hf.sub ⟨rfl, rfl, rfl, rfl, rfl, rfl, rfl, rfl, rfl, trivial⟩, H⟩
                        · rw [hb]
                          replace ho519979 := itF hb ho519979
                          refine gs rfl rfl rfl rfl <| gs rfl rfl rfl rfl <| gs rfl rfl rfl rfl <| gs rfl rfl rfl rfl <| gs rfl rfl rfl rfl <| gs rfl rfl rfl rfl <| gs rfl rfl rfl rfl <| gs rfl rfl rfl rfl <| nq (Q_pickF rfl rfl) rfl rfl <| WL_nil ?_
                          replace H := H.front 1 rfl
                          dsimp only [List.eraseIdx] at H
                          replace H := H.front 1 rfl
                          dsimp only [List.eraseIdx] at H
                          obtain rfl := Option.some.inj ho519979
                          refine x_A fun a hf => ⟨false, rfl, hf.sub ⟨rfl, rfl, rfl, rfl, rfl, rfl, rfl, rfl, rfl, trivial⟩, H⟩
                      · rintro a wd519994 ⟨x519978, rfl, hf, H⟩
                        try dsimp only at hB519961
                        refine CW.at hf ?_
                        refine C_cond rfl (fun hb => ?_) (fun hb => ?_)
                        · replace hB519961 := itT hb hB519961
                          refine C_skip <| x_then ?_
                          obtain ⟨o520075, ho520075, hB519961⟩ := bnd hB519961
                          refine C_cut (fun a w' => ∃ (c520072 : (List Value)) (x520073 : (List (List Int))) (x520074 : Bool), (x520073, x520074) = o520075 ∧ Fr 108 a [(1, .pointer (some ⟨b260086, 0, none⟩)), (3, .int .i64 (x2.length : Int)), (4, v262215), (8, .int .i64 x434887), (9, .bool x520074), (10, .int .i64 x505946), (11, .int .i64 x517789), (12, .int .i64 x519762)] ∧ Hp C w' ρ (Box b260086 [v1, v4, v7] :: NA (eI .i64) 1 v262215 c520072 x520073 :: hs)) ?_ ?_
                          · refine C_block <| C_seq <| R_dr (.take 0 (.take 1 (.take 2 (.take 3 (.take 4 (.take 5 (.take 6 (.take 7 (.take 8 (.take 9 (.take 10 (.take 11 (.take 12 (.take 13 (.take 14 (.take 15 (.take 16 (.take 17 (.take 18 (.take 19 (.take 20 (.take 21 .done)))))))))))))))))))))) (fun w' => Ok w' ρ [Box b260086 [v1, v4, v7], NA (eI .i64) 1 v262215 c519763 x519764]) (by kernel_rfl) (by kernel_rfl) (by kernel_rfl) (H.drew.okS (by simp)) ?_
                            replace H := H.drew
                            refine dq rfl (fun _ _ => Q_move rfl) rfl rfl <| dq (v := .pointer (some ⟨b260086, 0, none⟩)) rfl (fun _ _ => Q_fld Try.underlying29 rfl ty27 (by decide) rfl rfl) rfl rfl <| dq (v := v1) rfl (fun _ hw => Q_ldB (k := 0) (cs := [v1]) hw rfl ty27 rfl rfl rfl (fun _ => rfl) rfl) rfl rfl <| dq rfl (fun _ _ => Q_move rfl) rfl rfl <| dq rfl (fun _ _ => Q_move rfl) rfl rfl ?_
                            obtain ⟨x520076, hx520076, ho520075⟩ := bnd ho520075
                            obtain ⟨b520077, o520078, c520079, hc520080, ha520081, hi520082⟩ := idxR r3 hx520076
                            refine dq rfl (fun _ _ => Q_idx hi520082 Try.underlying27 ty41 rfl rfl) rfl rfl ?_
                            obtain ⟨x520083, hx520083, ho520075⟩ := bnd ho520075
                            have hn520084 := idx_lt hc520080.1 hx520083
                            refine dq rfl (fun _ _ => Q_idxA hn520084.1 hn520084.2 Try.underlying41 ty3 rfl rfl) rfl rfl ?_
                            obtain ⟨c520085, hc520086, ha520087, _⟩ := arrR hc520080 ha520081 hx520083
                            refine dq (v := .int .i64 x520083) rfl (fun _ hw => Q_ld (show cellsAt _ _ _ [.int .i64 x520083] from (show _ = [_] from hc520086) ▸ (ha520087.up hw.view)) ty3 rfl (fun _ => rfl) rfl rfl) rfl rfl ?_
                            obtain ⟨x520088, hx520088, ho520075⟩ := bnd ho520075
                            obtain ⟨b520089, o520090, u520092, hi520091, hu520093, ha520094, hl520095, hj520096⟩ := na_at1 (by decide) (H.okS (l := [NA (eI .i64) 1 v262215 c519763 x519764]) (by simp)) hx520088
                            refine dq rfl (fun _ _ => Q_idx hi520091 Try.underlying51 ty23 rfl rfl) rfl rfl <| dq (v := u520092) rfl (fun _ hw => Q_ld (ha520094 _ (Ok.subS (by simp) hw)) ty23 rfl (fun _ => rfl) rfl rfl) rfl rfl <| dq (v := .pointer (some ⟨b260086, 0, none⟩)) rfl (fun _ _ => Q_fld Try.underlying29 rfl ty27 (by decide) rfl rfl) rfl rfl <| dq (v := v1) rfl (fun _ hw => Q_ldB (k := 0) (cs := [v1]) hw rfl ty27 rfl rfl rfl (fun _ => rfl) rfl) rfl rfl <| dq rfl (fun _ _ => Q_move rfl) rfl rfl <| dq rfl (fun _ _ => Q_move rfl) rfl rfl ?_
                            obtain ⟨x520097, hx520097, ho520075⟩ := bnd ho520075
                            obtain ⟨b520098, o520099, c520100, hc520101, ha520102, hi520103⟩ := idxR r3 hx520097
                            refine dq rfl (fun _ _ => Q_idx hi520103 Try.underlying27 ty41 rfl rfl) rfl rfl ?_
                            obtain ⟨x520104, hx520104, ho520075⟩ := bnd ho520075
                            have hn520105 := idx_lt hc520101.1 hx520104
                            refine dq rfl (fun _ _ => Q_idxA hn520105.1 hn520105.2 Try.underlying41 ty3 rfl rfl) rfl rfl ?_
                            obtain ⟨c520106, hc520107, ha520108, _⟩ := arrR hc520101 ha520102 hx520104
                            refine dq (v := .int .i64 x520104) rfl (fun _ hw => Q_ld (show cellsAt _ _ _ [.int .i64 x520104] from (show _ = [_] from hc520107) ▸ (ha520108.up hw.view)) ty3 rfl (fun _ => rfl) rfl rfl) rfl rfl ?_
                            obtain ⟨x520109, hx520109, ho520075⟩ := bnd ho520075
                            obtain ⟨b520110, o520111, hi520112, ha520113⟩ := inn_at (by decide) (H.okS (l := [NA (eI .i64) 1 v262215 c519763 x519764]) (by simp)) hu520093 hj520096 hx520109
                            refine dq rfl (fun _ _ => Q_idx hi520112 Try.underlying23 ty3 rfl rfl) rfl rfl <| dq (v := .int .i64 x520109) rfl (fun _ hw => Q_ld (show cellsAt _ _ _ [.int .i64 x520109] from match ha520113 _ (Ok.subS (by simp) hw) with | ⟨_, rfl, h⟩ => h) ty3 rfl (fun _ => rfl) rfl rfl) rfl rfl <| dq rfl (fun _ _ => Q_move rfl) rfl rfl <| dq rfl (fun _ _ => Q_sub rfl rfl) rfl rfl <| dq rfl (fun _ _ => Q_eql rfl rfl) rfl rfl <| DL_nil <| x_then ?_
                            obtain ⟨o520134, ho520134, ho520075⟩ := bnd ho520075
                            refine C_cutQ (fun a w' => ∃ (c520131 : (List Value)) (x520132 : (List (List Int))) (x520133 : Bool), (x520132, x520133) = o520134 ∧ Fr 108 a [(1, .pointer (some ⟨b260086, 0, none⟩)), (3, .int .i64 (x2.length : Int)), (4, v262215), (8, .int .i64 x434887), (9, .bool x520133), (10, .int .i64 x505946), (11, .int .i64 x517789), (12, .int .i64 x519762)] ∧ Hp C w' ρ (Box b260086 [v1, v4, v7] :: NA (eI .i64) 1 v262215 c520131 x520132 :: hs)) ?_ ?_
                            · refine C_cond rfl (fun hb => ?_) (fun hb => ?_)
                              · replace ho520134 := itT hb ho520134
                                refine C_seq <| R_nd <| nq (Q_move rfl) rfl rfl <| nq (Q_move rfl) rfl rfl ?_
                                obtain ⟨x520135, hx520135, ho520134⟩ := bnd ho520134
                                obtain ⟨b520136, o520137, u520139, hi520138, hu520140, ha520141, hl520142, hj520143⟩ := na_at1 (by decide) (H.okS (l := [NA (eI .i64) 1 v262215 c519763 x519764]) (by simp)) hx520135
                                refine nq (Q_idx hi520138 Try.underlying51 ty23 rfl rfl) rfl rfl <| nq (v := u520139) (Q_ld (ha520141 _ (Ok.subS (by simp) H.ok)) ty23 rfl (fun _ => rfl) rfl rfl) rfl rfl <| nq (Q_move rfl) rfl rfl <| nq (Q_move rfl) rfl rfl ?_
                                obtain ⟨x520144, hx520144, ho520134⟩ := bnd ho520134
                                obtain ⟨b520145, o520146, hi520147, ha520148⟩ := inn_at (by decide) (H.okS (l := [NA (eI .i64) 1 v262215 c519763 x519764]) (by simp)) hu520140 hj520143 hx520144
                                refine nq (Q_idx hi520147 Try.underlying23 ty3 rfl rfl) rfl rfl ?_
                                replace H := H.front 1 rfl
                                dsimp only [List.eraseIdx] at H
                                obtain ⟨x520149, hx520149, ho520134⟩ := bnd ho520134
                                obtain ⟨x520150, hx520150, ho520134⟩ := bnd ho520134
                                refine ne (E_stI1 (flat_I _) H hu520140 hj520143 ty3 rfl hi520147 rfl rfl rfl (show ((eI .i64)).rd _ _ _ from rfl) hx520149 hx520150) rfl rfl ?_
                                rintro _ wd520151 H
                                refine WL_nil <| x_then <| R_nd <| nq (Q_assign rfl) rfl rfl <| WL_nil ?_
                                replace H := H.front 1 rfl
                                dsimp only [List.eraseIdx] at H
                                obtain rfl := Option.some.inj ho520134
                                refine x_A fun a hf => ⟨c519763, x520150, true, rfl, hf.sub ⟨rfl, rfl, rfl, rfl, rfl, rfl, rfl, rfl, trivial⟩, H⟩
                              · replace ho520134 := itF hb ho520134
                                refine C_skip ?_
                                replace H := H.front 1 rfl
                                dsimp only [List.eraseIdx] at H
                                replace H := H.front 1 rfl
                                dsimp only [List.eraseIdx] at H
                                obtain rfl := Option.some.inj ho520134
                                refine x_A fun a hf => ⟨c519763, x519764, x519765, rfl, hf.sub ⟨rfl, rfl, rfl, rfl, rfl, rfl, rfl, rfl, trivial⟩, H⟩
                            · rintro a wd520152 ⟨c520131, x520132, x520133, rfl, hf, H⟩
                              try dsimp only at ho520075
                              refine XX.at hf <| x_block ?_
                              replace H := H.front 1 rfl
                              dsimp only [List.eraseIdx] at H
                              replace H := H.front 1 rfl
                              dsimp only [List.eraseIdx] at H
                              obtain rfl := Option.some.inj ho520075
                              refine x_A fun a hf => ⟨c520131, x520132, x520133, rfl, hf.sub ⟨rfl, rfl, rfl, rfl, rfl, rfl, rfl, rfl, trivial⟩, H⟩
                          · rintro a wd520153 ⟨c520072, x520073, x520074, rfl, hf, H⟩
                            try dsimp only at hB519961
                            refine CW.at hf <| R_nd <| nq (Q_move rfl) rfl rfl <| nq (Q_add rfl rfl) rfl rfl <| nq (Q_assign rfl) rfl rfl <| WL_nil ?_
                            replace H := H.front 1 rfl
                            dsimp only [List.eraseIdx] at H
                            replace H := H.front 1 rfl
                            dsimp only [List.eraseIdx] at H
                            obtain rfl := Option.some.inj hB519961
                            refine x_A fun a hf => ⟨_, rfl, c520072, w64 (x519762 + 1), x520073, x520074, rfl, hf.sub ⟨rfl, rfl, rfl, rfl, rfl, rfl, rfl, rfl, trivial⟩, H⟩
                        · replace hB519961 := itF hb hB519961
                          refine C_exit <| x_then_exit <| x_then_exit <| x_block_exit ?_
                          replace H := H.front 1 rfl
                          dsimp only [List.eraseIdx] at H
                          replace H := H.front 1 rfl
                          dsimp only [List.eraseIdx] at H
                          obtain rfl := Option.some.inj hB519961
                          obtain rfl := hO519962 _ rfl
                          refine x_A fun a hf => ⟨c519763, x519764, x519765, rfl, hf.sub ⟨rfl, rfl, rfl, rfl, rfl, rfl, rfl, trivial⟩, H⟩
                  · rintro a wd520154 ⟨c519564, x519565, x519566, rfl, hf, H⟩
                    try dsimp only at hB518975
                    refine XX.at hf <| x_block <| x_then <| R_nd <| nq (Q_move rfl) rfl rfl <| nq (Q_add rfl rfl) rfl rfl <| nq (Q_assign rfl) rfl rfl <| WL_nil ?_
                    replace H := H.front 1 rfl
                    dsimp only [List.eraseIdx] at H
                    replace H := H.front 1 rfl
                    dsimp only [List.eraseIdx] at H
                    obtain rfl := Option.some.inj hB518975
                    refine x_A fun a hf => ⟨_, rfl, c519564, w64 (x517789 + 1), x519565, x519566, rfl, hf.sub ⟨rfl, rfl, rfl, rfl, rfl, rfl, rfl, trivial⟩, H⟩
                · replace hB518975 := itF hb hB518975
                  refine C_exit <| x_then_exit <| x_then_exit <| x_block_exit ?_
                  replace H := H.front 1 rfl
                  dsimp only [List.eraseIdx] at H
                  replace H := H.front 1 rfl
                  dsimp only [List.eraseIdx] at H
                  obtain rfl := Option.some.inj hB518975
                  obtain rfl := hO518976 _ rfl
                  refine x_A fun a hf => ⟨c517790, x517791, x517792, rfl, hf.sub ⟨rfl, rfl, rfl, rfl, rfl, rfl, trivial⟩, H⟩
            · rintro a wd520155 ⟨c516604, x516605, x516606, rfl, hf, H⟩
              try dsimp only at hB513054
              refine XX.at hf <| x_block <| x_then <| R_nd <| nq (Q_move rfl) rfl rfl <| nq (Q_add rfl rfl) rfl rfl <| nq (Q_assign rfl) rfl rfl <| WL_nil ?_
              replace H := H.front 1 rfl
              dsimp only [List.eraseIdx] at H
              replace H := H.front 1 rfl
              dsimp only [List.eraseIdx] at H
              obtain rfl := Option.some.inj hB513054
              refine x_A fun a hf => ⟨_, rfl, c516604, w64 (x505946 + 1), x516605, x516606, rfl, hf.sub ⟨rfl, rfl, rfl, rfl, rfl, rfl, trivial⟩, H⟩
          · replace hB513054 := itF hb hB513054
            refine C_exit <| x_then_exit <| x_then_exit <| x_block_exit ?_
            replace H := H.front 1 rfl
            dsimp only [List.eraseIdx] at H
            replace H := H.front 1 rfl
            dsimp only [List.eraseIdx] at H
            obtain rfl := Option.some.inj hB513054
            obtain rfl := hO513055 _ rfl
            refine x_A fun a hf => ⟨c505947, x505948, x505949, rfl, hf.sub ⟨rfl, rfl, rfl, rfl, rfl, trivial⟩, H⟩
      · rintro a wd520156 ⟨c498839, x498840, x498841, rfl, hf, H⟩
        try dsimp only at hB477523
        refine XX.at hf <| x_then <| C_seq <| R_nd <| nq (Q_move rfl) rfl rfl <| nq (Q_not rfl) rfl rfl <| WL_nil <| x_then ?_
        refine C_cond rfl (fun hb => ?_) (fun hb => ?_)
        · replace hB477523 := itT hb hB477523
          refine C_seq <| R_nd <| nq (Q_move rfl) rfl rfl <| nq (Q_assign rfl) rfl rfl <| WL_nil <| x_then <| C_ret <| x_block_ret <| x_then_ret <| x_then_ret <| x_block_ret ?_
          replace H := H.front 1 rfl
          dsimp only [List.eraseIdx] at H
          replace H := H.drop 1 rfl
          dsimp only [List.eraseIdx] at H
          obtain rfl := Option.some.inj hB477523
          obtain rfl := hO477524 _ rfl
          exact fn_ret (l := [.tmp 2]) (vs := [v262215]) rfl rfl rfl ⟨v262215, c498839, x498840, rfl, rfl, H⟩
        · replace hB477523 := itF hb hB477523
          refine C_skip <| x_block <| x_then <| R_nd <| nq (Q_move rfl) rfl rfl <| nq (Q_add rfl rfl) rfl rfl <| nq (Q_assign rfl) rfl rfl <| WL_nil ?_
          replace H := H.front 1 rfl
          dsimp only [List.eraseIdx] at H
          replace H := H.front 1 rfl
          dsimp only [List.eraseIdx] at H
          obtain rfl := Option.some.inj hB477523
          refine x_A fun a hf => ⟨_, rfl, c498839, x498840, w64 (x434887 + 1), rfl, hf.sub ⟨rfl, rfl, rfl, rfl, trivial⟩, H⟩
theorem c_8 {N : Nat} {C : Cx} {w : World} {ρ : View} {hs : List Hl} {v1 : Value} {v4 : Value} {v7 : Value} {x2 : (List (List Int))} {x5 : (List Int)} {x8 : (List Int)} {x10 : Int} {x11 : Int} (H : Hp C w ρ (hs)) (r3 : RdSl ρ (eA 256 (eI .i64)) v1 x2) (r6 : RdSl ρ (eI .i64) v4 x5) (r9 : RdSl ρ (eI .i64) v7 x8) {r : ((List Int) × Bool)} (hF : F_dofferref19_Apart N x2 x5 x8 x10 x11 = some r) :
    Calls Try.prog 8 [.agg #[v1, v4, v7], .int .i64 x10, .int .i64 x11].toArray w (Rets (fun v w' => (∃ (v2465 : Value) (c2466 : (List Value)) (x2467 : (List Int)) (x2469 : Bool), (x2467, x2469) = r ∧ .tuple [v2465, .bool x2469].toArray = v ∧ rdL (eI .u8) ρ x2467 c2466 ∧ Hp C w' ρ (Arr v2465 1 c2466 :: hs)))) := by
  unfold F_dofferref19_Apart at hF
  have h0 : Try.f8.body = some _ := rfl
  refine fn_calls' Try.func8 h0 (n := 94) rfl (by simp) <| C_seq <| R_nd <| ne (E_box H (vs := [v1, v4, v7]) rfl rfl) rfl rfl ?_
  rintro _ wd2471 ⟨b2470, rfl, H⟩
  refine nq (Q_assign rfl) rfl rfl <| nq (Q_assign rfl) rfl rfl <| WL_nil <| x_then <| C_seq ?_
  obtain ⟨o2473, ho2473, hF⟩ := bnd hF
  refine C_cut (fun a w' => ∃ (x2472 : Bool), x2472 = o2473 ∧ Fr 94 a [(1, .int .i64 x10), (2, .int .i64 x11), (3, .pointer (some ⟨b2470, 0, none⟩)), (32, .bool x2472)] ∧ Hp C w' ρ (Box b2470 [v1, v4, v7] :: hs)) ?_ ?_
  · refine R_nd <| nq (Q_move rfl) rfl rfl <| nq (Q_lss rfl rfl) rfl rfl <| nq (Q_move rfl) rfl rfl ?_
    rcases Bool.eq_false_or_eq_true (decide (x10 < 0)) with hb | hb
    · rw [hb]
      replace ho2473 := itT hb ho2473
      refine gs rfl rfl rfl rfl <| gs rfl rfl rfl rfl <| nq (Q_pickT rfl rfl) rfl rfl <| nq (Q_move rfl) rfl rfl <| gs rfl rfl rfl rfl <| gs rfl rfl rfl rfl <| gs rfl rfl rfl rfl <| gs rfl rfl rfl rfl <| gs rfl rfl rfl rfl <| nq (Q_pickT rfl rfl) rfl rfl <| nq (Q_move rfl) rfl rfl <| gs rfl rfl rfl rfl <| gs rfl rfl rfl rfl <| gs rfl rfl rfl rfl ?_
      refine gs rfl rfl rfl rfl <| gs rfl rfl rfl rfl <| nq (Q_pickT rfl rfl) rfl rfl <| WL_nil ?_
      obtain rfl := Option.some.inj ho2473
      refine x_A fun a hf => ⟨true, rfl, hf.sub ⟨rfl, rfl, rfl, rfl, trivial⟩, H⟩
    · rw [hb]
      replace ho2473 := itF hb ho2473
      refine gq (Q_move rfl) rfl rfl rfl <| gq (Q_lss rfl rfl) rfl rfl rfl <| nq (Q_pickF rfl rfl) rfl rfl <| nq (Q_move rfl) rfl rfl ?_
      rcases Bool.eq_false_or_eq_true (decide (x11 < 0)) with hb | hb
      · rw [hb]
        replace ho2473 := itT hb ho2473
        refine gs rfl rfl rfl rfl <| gs rfl rfl rfl rfl <| gs rfl rfl rfl rfl <| gs rfl rfl rfl rfl <| gs rfl rfl rfl rfl <| nq (Q_pickT rfl rfl) rfl rfl <| nq (Q_move rfl) rfl rfl <| gs rfl rfl rfl rfl <| gs rfl rfl rfl rfl <| gs rfl rfl rfl rfl <| gs rfl rfl rfl rfl <| gs rfl rfl rfl rfl <| nq (Q_pickT rfl rfl) rfl rfl <| WL_nil ?_
        obtain rfl := Option.some.inj ho2473
        refine x_A fun a hf => ⟨true, rfl, hf.sub ⟨rfl, rfl, rfl, rfl, trivial⟩, H⟩
      · rw [hb]
        replace ho2473 := itF hb ho2473
        refine gq (Q_move rfl) rfl rfl rfl <| gq (v := .pointer (some ⟨b2470, 0, none⟩)) (Q_fld Try.underlying29 rfl ty27 (by decide) rfl rfl) rfl rfl rfl <| gq (v := v1) (Q_ldB (k := 0) (cs := [v1]) H.ok rfl ty27 rfl rfl rfl (fun _ => rfl) rfl) rfl rfl rfl <| gq (Q_len Try.underlying27 rfl r3) rfl rfl rfl <| gq (Q_geq rfl rfl) rfl rfl rfl <| nq (Q_pickF rfl rfl) rfl rfl <| nq (Q_move rfl) rfl rfl ?_
        rcases Bool.eq_false_or_eq_true (decide (x10 ≥ (x2.length : Int))) with hb | hb
        · rw [hb]
          replace ho2473 := itT hb ho2473
          refine gs rfl rfl rfl rfl <| gs rfl rfl rfl rfl <| gs rfl rfl rfl rfl <| gs rfl rfl rfl rfl <| gs rfl rfl rfl rfl <| nq (Q_pickT rfl rfl) rfl rfl <| WL_nil ?_
          obtain rfl := Option.some.inj ho2473
          refine x_A fun a hf => ⟨true, rfl, hf.sub ⟨rfl, rfl, rfl, rfl, trivial⟩, H⟩
        · rw [hb]
          replace ho2473 := itF hb ho2473
          refine gq (Q_move rfl) rfl rfl rfl <| gq (v := .pointer (some ⟨b2470, 0, none⟩)) (Q_fld Try.underlying29 rfl ty27 (by decide) rfl rfl) rfl rfl rfl <| gq (v := v1) (Q_ldB (k := 0) (cs := [v1]) H.ok rfl ty27 rfl rfl rfl (fun _ => rfl) rfl) rfl rfl rfl <| gq (Q_len Try.underlying27 rfl r3) rfl rfl rfl <| gq (Q_geq rfl rfl) rfl rfl rfl <| nq (Q_pickF rfl rfl) rfl rfl <| WL_nil ?_
          obtain rfl := Option.some.inj ho2473
          refine x_A fun a hf => ⟨decide (x11 ≥ (x2.length : Int)), rfl, hf.sub ⟨rfl, rfl, rfl, rfl, trivial⟩, H⟩
  · rintro a wd2474 ⟨x2472, rfl, hf, H⟩
    try dsimp only at hF
    refine CW.at hf ?_
    refine C_cond rfl (fun hb => ?_) (fun hb => ?_)
    · replace hF := itT hb hF
      refine C_seq <| R_nd <| nq (Q_assign rfl) rfl rfl <| nq (Q_assign rfl) rfl rfl <| WL_nil <| x_then <| C_ret <| x_then_ret ?_
      have H := H.nilArr 1
      replace H := H.drop 1 rfl
      dsimp only [List.eraseIdx] at H
      obtain rfl := Option.some.inj hF
      exact fn_ret (l := [.tmp 6, .tmp 7]) (vs := [(.slice none 0 0), .bool false]) rfl rfl rfl ⟨(.slice none 0 0), [], [], false, rfl, rfl, rdL.nil, H⟩
    · replace hF := itF hb hF
      refine C_skip <| x_then <| C_seq <| R_nd <| nq (v := .agg #[v1, v4, v7]) (Q_ldB (k := 0) (cs := [v1, v4, v7]) H.ok rfl ty29 rfl rfl rfl (fun h => nomatch h) rfl) rfl rfl ?_
      obtain ⟨q2475, hq2475, hF⟩ := bnd hF
      refine ne (E_call fn15 rfl (c_15 H  r3 r6 r9 hq2475)) rfl rfl ?_
      rintro _ wd2480 ⟨v2477, c2478, x2479, rfl, rfl, H⟩
      try dsimp only at hF
      refine nq (Q_assign rfl) rfl rfl <| WL_nil <| x_then <| C_seq <| R_nd <| ne (E_bslice0 H Try.underlying32 ty5) rfl rfl ?_
      rintro _ wd2482 ⟨b2481, rfl, H⟩
      refine nq (Q_assign rfl) rfl rfl <| WL_nil <| x_then <| C_seq <| C_seq <| R_nd <| nq (Q_move rfl) rfl rfl <| nq (Q_move rfl) rfl rfl ?_
      obtain ⟨x2483, hx2483, hF⟩ := bnd hF
      obtain ⟨b2484, o2485, u2487, hi2486, hu2488, ha2489, hl2490, hj2491⟩ := na_at1 (by decide) (H.okS (l := [NA (eI .i64) 1 v2477 c2478 x2479]) (by simp)) hx2483
      refine nq (Q_idx hi2486 Try.underlying51 ty23 rfl rfl) rfl rfl <| nq (v := u2487) (Q_ld (ha2489 _ (Ok.subS (by simp) H.ok)) ty23 rfl (fun _ => rfl) rfl rfl) rfl rfl <| nq (Q_move rfl) rfl rfl ?_
      obtain ⟨x2492, hx2492, hF⟩ := bnd hF
      obtain ⟨b2493, o2494, hi2495, ha2496⟩ := inn_at (by decide) (H.okS (l := [NA (eI .i64) 1 v2477 c2478 x2479]) (by simp)) hu2488 hj2491 hx2492
      refine nq (Q_idx hi2495 Try.underlying23 ty3 rfl rfl) rfl rfl <| nq (v := .int .i64 x2492) (Q_ld (show cellsAt _ _ _ [.int .i64 x2492] from match ha2496 _ (Ok.subS (by simp) H.ok) with | ⟨_, rfl, h⟩ => h) ty3 rfl (fun _ => rfl) rfl rfl) rfl rfl <| nq (Q_lss rfl rfl) rfl rfl <| WL_nil <| x_then ?_
      refine C_cond rfl (fun hb => ?_) (fun hb => ?_)
      · replace hF := itT hb hF
        refine C_seq <| R_nd <| nq (Q_assign rfl) rfl rfl <| nq (Q_assign rfl) rfl rfl <| WL_nil <| x_then <| C_ret <| x_then_ret ?_
        have H := H.nilArr 1
        replace H := H.drop 1 rfl
        dsimp only [List.eraseIdx] at H
        replace H := H.drop 1 rfl
        dsimp only [List.eraseIdx] at H
        replace H := H.drop 1 rfl
        dsimp only [List.eraseIdx] at H
        obtain rfl := Option.some.inj hF
        exact fn_ret (l := [.tmp 6, .tmp 7]) (vs := [(.slice none 0 0), .bool false]) rfl rfl rfl ⟨(.slice none 0 0), [], [], false, rfl, rfl, rdL.nil, H⟩
      · replace hF := itF hb hF
        refine C_skip <| x_then ?_
        obtain ⟨o3711, ho3711, hF⟩ := bnd hF
        refine C_cut (fun a w' => ∃ (v3707 : Value) (c3708 : (List Value)) (x3709 : (List Int)), x3709 = o3711 ∧ rdL (eI .u8) ρ x3709 c3708 ∧ Fr 94 a [(9, v3707)] ∧ Hp C w' ρ (Arr v3707 1 c3708 :: hs)) ?_ ?_
        · refine C_block ?_
          replace H := H.front 1 rfl
          dsimp only [List.eraseIdx] at H
          replace H := H.front 2 rfl
          dsimp only [List.eraseIdx] at H
          refine C_iter (f := fun s => F_dofferref19_Apart_l0 N x2 x2479 s.1 s.2.1 s.2.2) ho3711 (fun s a w' => ∃ (v4116 : Value) (c4117 : (List Value)) (x4114 : Int) (x4115 : Int) (x4118 : (List Int)), (x4114, x4115, x4118) = s ∧ rdL (eI .u8) ρ x4118 c4117 ∧ Fr 94 a [(1, .int .i64 x4114), (2, .int .i64 x4115), (3, .pointer (some ⟨b2470, 0, none⟩)), (8, v2477), (9, v4116)] ∧ Hp C w' ρ (Box b2470 [v1, v4, v7] :: NA (eI .i64) 1 v2477 c2478 x2479 :: Arr v4116 1 c4117 :: hs)) ?_ ?_
          · exact fun a hf => ⟨(.slice (some ⟨b2481, 0, none⟩) 0 0), [], x10, x11, [], rfl, rdL.nil, hf.sub ⟨rfl, rfl, rfl, rfl, rfl, trivial⟩, H⟩
          · rintro s o4522 a wd4525 ⟨v4116, c4117, x4114, x4115, x4118, rfl, r4119, hf, H⟩ hB4523 hO4524
            replace hB4523 : F_dofferref19_Apart_l0 N x2 x2479 x4114 x4115 x4118 = some o4522 := hB4523
            unfold F_dofferref19_Apart_l0 at hB4523
            refine CW.at hf <| C_seq <| C_seq <| R_nd <| nq (Q_move rfl) rfl rfl <| nq (Q_move rfl) rfl rfl ?_
            obtain ⟨x4526, hx4526, hB4523⟩ := bnd hB4523
            obtain ⟨b4527, o4528, u4530, hi4529, hu4531, ha4532, hl4533, hj4534⟩ := na_at1 (by decide) (H.okS (l := [NA (eI .i64) 1 v2477 c2478 x2479]) (by simp)) hx4526
            refine nq (Q_idx hi4529 Try.underlying51 ty23 rfl rfl) rfl rfl <| nq (v := u4530) (Q_ld (ha4532 _ (Ok.subS (by simp) H.ok)) ty23 rfl (fun _ => rfl) rfl rfl) rfl rfl <| nq (Q_move rfl) rfl rfl ?_
            obtain ⟨x4535, hx4535, hB4523⟩ := bnd hB4523
            obtain ⟨b4536, o4537, hi4538, ha4539⟩ := inn_at (by decide) (H.okS (l := [NA (eI .i64) 1 v2477 c2478 x2479]) (by simp)) hu4531 hj4534 hx4535
            refine nq (Q_idx hi4538 Try.underlying23 ty3 rfl rfl) rfl rfl <| nq (v := .int .i64 x4535) (Q_ld (show cellsAt _ _ _ [.int .i64 x4535] from match ha4539 _ (Ok.subS (by simp) H.ok) with | ⟨_, rfl, h⟩ => h) ty3 rfl (fun _ => rfl) rfl rfl) rfl rfl <| nq (Q_gtr rfl rfl) rfl rfl <| WL_nil <| x_then ?_
            refine C_cond rfl (fun hb => ?_) (fun hb => ?_)
            · replace hB4523 := itT hb hB4523
              refine C_skip <| x_then <| C_block <| C_seq <| R_nd <| nq (Q_assign rfl) rfl rfl <| WL_nil <| x_then ?_
              obtain ⟨o4733, ho4733, hB4523⟩ := bnd hB4523
              refine C_cutQ (fun a w' => ∃ (v4729 : Value) (c4730 : (List Value)) (x4727 : Int) (x4728 : Int) (x4731 : (List Int)), (x4727, x4728, x4731) = o4733 ∧ rdL (eI .u8) ρ x4731 c4730 ∧ Fr 94 a [(1, .int .i64 x4727), (2, .int .i64 x4728), (3, .pointer (some ⟨b2470, 0, none⟩)), (8, v2477), (9, v4729)] ∧ Hp C w' ρ (Box b2470 [v1, v4, v7] :: NA (eI .i64) 1 v2477 c2478 x2479 :: Arr v4729 1 c4730 :: hs)) ?_ ?_
              · refine C_block ?_
                replace H := H.front 2 rfl
                dsimp only [List.eraseIdx] at H
                replace H := H.front 2 rfl
                dsimp only [List.eraseIdx] at H
                replace H := H.front 2 rfl
                dsimp only [List.eraseIdx] at H
                refine C_iter (f := fun s => F_dofferref19_Apart_l1 N x2 x2479 x4114 x4115 x4118 s) ho4733 (fun s a w' => ∃ (x4795 : Int), x4795 = s ∧ Fr 94 a [(1, .int .i64 x4114), (2, .int .i64 x4115), (3, .pointer (some ⟨b2470, 0, none⟩)), (8, v2477), (9, v4116), (10, .int .i64 x4795)] ∧ Hp C w' ρ (Box b2470 [v1, v4, v7] :: NA (eI .i64) 1 v2477 c2478 x2479 :: Arr v4116 1 c4117 :: hs)) ?_ ?_
                · exact fun a hf => ⟨0, rfl, hf.sub ⟨rfl, rfl, rfl, rfl, rfl, rfl, trivial⟩, H⟩
                · rintro s o4857 a wd4860 ⟨x4795, rfl, hf, H⟩ hB4858 hO4859
                  replace hB4858 : F_dofferref19_Apart_l1 N x2 x2479 x4114 x4115 x4118 x4795 = some o4857 := hB4858
                  unfold F_dofferref19_Apart_l1 at hB4858
                  refine CW.at hf <| C_seq <| C_seq <| R_nd <| nq (Q_move rfl) rfl rfl <| nq (Q_lss rfl rfl) rfl rfl <| WL_nil <| x_then ?_
                  refine C_cond rfl (fun hb => ?_) (fun hb => ?_)
                  · replace hB4858 := itT hb hB4858
                    refine C_skip <| x_then <| C_seq <| C_block <| C_seq <| R_dr (.take 0 (.take 1 (.take 2 (.take 3 (.take 4 (.take 5 (.take 6 (.take 7 (.take 8 (.take 9 (.take 10 (.take 11 (.take 12 (.take 13 (.take 14 (.take 15 .done)))))))))))))))) (fun w' => Ok w' ρ [Box b2470 [v1, v4, v7], NA (eI .i64) 1 v2477 c2478 x2479, Arr v4116 1 c4117]) (by kernel_rfl) (by kernel_rfl) (by kernel_rfl) (H.drew.okS (by simp)) ?_
                    replace H := H.drew
                    refine dq (v := .pointer (some ⟨b2470, 0, none⟩)) rfl (fun _ _ => Q_fld Try.underlying29 rfl ty27 (by decide) rfl rfl) rfl rfl <| dq (v := v1) rfl (fun _ hw => Q_ldB (k := 0) (cs := [v1]) hw rfl ty27 rfl rfl rfl (fun _ => rfl) rfl) rfl rfl <| dq rfl (fun _ _ => Q_move rfl) rfl rfl <| dq rfl (fun _ _ => Q_move rfl) rfl rfl ?_
                    obtain ⟨x4861, hx4861, hB4858⟩ := bnd hB4858
                    obtain ⟨b4862, o4863, c4864, hc4865, ha4866, hi4867⟩ := idxR r3 hx4861
                    refine dq rfl (fun _ _ => Q_idx hi4867 Try.underlying27 ty41 rfl rfl) rfl rfl ?_
                    obtain ⟨x4868, hx4868, hB4858⟩ := bnd hB4858
                    have hn4869 := idx_lt hc4865.1 hx4868
                    refine dq rfl (fun _ _ => Q_idxA hn4869.1 hn4869.2 Try.underlying41 ty3 rfl rfl) rfl rfl ?_
                    obtain ⟨c4870, hc4871, ha4872, _⟩ := arrR hc4865 ha4866 hx4868
                    refine dq (v := .int .i64 x4868) rfl (fun _ hw => Q_ld (show cellsAt _ _ _ [.int .i64 x4868] from (show _ = [_] from hc4871) ▸ (ha4872.up hw.view)) ty3 rfl (fun _ => rfl) rfl rfl) rfl rfl <| dq (v := .pointer (some ⟨b2470, 0, none⟩)) rfl (fun _ _ => Q_fld Try.underlying29 rfl ty27 (by decide) rfl rfl) rfl rfl <| dq (v := v1) rfl (fun _ hw => Q_ldB (k := 0) (cs := [v1]) hw rfl ty27 rfl rfl rfl (fun _ => rfl) rfl) rfl rfl <| dq rfl (fun _ _ => Q_move rfl) rfl rfl <| dq rfl (fun _ _ => Q_move rfl) rfl rfl ?_
                    obtain ⟨x4873, hx4873, hB4858⟩ := bnd hB4858
                    obtain ⟨b4874, o4875, c4876, hc4877, ha4878, hi4879⟩ := idxR r3 hx4873
                    refine dq rfl (fun _ _ => Q_idx hi4879 Try.underlying27 ty41 rfl rfl) rfl rfl ?_
                    obtain ⟨x4880, hx4880, hB4858⟩ := bnd hB4858
                    have hn4881 := idx_lt hc4877.1 hx4880
                    refine dq rfl (fun _ _ => Q_idxA hn4881.1 hn4881.2 Try.underlying41 ty3 rfl rfl) rfl rfl ?_
                    obtain ⟨c4882, hc4883, ha4884, _⟩ := arrR hc4877 ha4878 hx4880
                    refine dq (v := .int .i64 x4880) rfl (fun _ hw => Q_ld (show cellsAt _ _ _ [.int .i64 x4880] from (show _ = [_] from hc4883) ▸ (ha4884.up hw.view)) ty3 rfl (fun _ => rfl) rfl rfl) rfl rfl <| dq rfl (fun _ _ => Q_assign rfl) rfl rfl <| dq rfl (fun _ _ => Q_assign rfl) rfl rfl <| DL_nil <| x_then <| C_seq <| R_dr (.take 0 (.take 1 (.take 2 (.take 3 (.take 4 (.take 5 (.take 6 (.take 7 (.take 8 (.take 9 (.take 10 (.take 11 (.take 12 (.take 13 (.take 14 (.take 15 .done)))))))))))))))) (fun w' => Ok w' ρ [Box b2470 [v1, v4, v7], NA (eI .i64) 1 v2477 c2478 x2479, Arr v4116 1 c4117]) (by kernel_rfl) (by kernel_rfl) (by kernel_rfl) (H.drew.okS (by simp)) ?_
                    replace H := H.drew
                    refine dq rfl (fun _ _ => Q_move rfl) rfl rfl <| dq rfl (fun _ _ => Q_move rfl) rfl rfl ?_
                    obtain ⟨x4885, hx4885, hB4858⟩ := bnd hB4858
                    obtain ⟨b4886, o4887, u4889, hi4888, hu4890, ha4891, hl4892, hj4893⟩ := na_at1 (by decide) (H.okS (l := [NA (eI .i64) 1 v2477 c2478 x2479]) (by simp)) hx4885
                    refine dq rfl (fun _ _ => Q_idx hi4888 Try.underlying51 ty23 rfl rfl) rfl rfl <| dq (v := u4889) rfl (fun _ hw => Q_ld (ha4891 _ (Ok.subS (by simp) hw)) ty23 rfl (fun _ => rfl) rfl rfl) rfl rfl <| dq rfl (fun _ _ => Q_move rfl) rfl rfl ?_
                    obtain ⟨x4894, hx4894, hB4858⟩ := bnd hB4858
                    obtain ⟨b4895, o4896, hi4897, ha4898⟩ := inn_at (by decide) (H.okS (l := [NA (eI .i64) 1 v2477 c2478 x2479]) (by simp)) hu4890 hj4893 hx4894
                    refine dq rfl (fun _ _ => Q_idx hi4897 Try.underlying23 ty3 rfl rfl) rfl rfl <| dq (v := .int .i64 x4894) rfl (fun _ hw => Q_ld (show cellsAt _ _ _ [.int .i64 x4894] from match ha4898 _ (Ok.subS (by simp) hw) with | ⟨_, rfl, h⟩ => h) ty3 rfl (fun _ => rfl) rfl rfl) rfl rfl <| dq rfl (fun _ _ => Q_move rfl) rfl rfl <| dq rfl (fun _ _ => Q_move rfl) rfl rfl ?_
                    obtain ⟨x4899, hx4899, hB4858⟩ := bnd hB4858
                    obtain ⟨b4900, o4901, u4903, hi4902, hu4904, ha4905, hl4906, hj4907⟩ := na_at1 (by decide) (H.okS (l := [NA (eI .i64) 1 v2477 c2478 x2479]) (by simp)) hx4899
                    refine dq rfl (fun _ _ => Q_idx hi4902 Try.underlying51 ty23 rfl rfl) rfl rfl <| dq (v := u4903) rfl (fun _ hw => Q_ld (ha4905 _ (Ok.subS (by simp) hw)) ty23 rfl (fun _ => rfl) rfl rfl) rfl rfl <| dq rfl (fun _ _ => Q_move rfl) rfl rfl ?_
                    obtain ⟨x4908, hx4908, hB4858⟩ := bnd hB4858
                    obtain ⟨b4909, o4910, hi4911, ha4912⟩ := inn_at (by decide) (H.okS (l := [NA (eI .i64) 1 v2477 c2478 x2479]) (by simp)) hu4904 hj4907 hx4908
                    refine dq rfl (fun _ _ => Q_idx hi4911 Try.underlying23 ty3 rfl rfl) rfl rfl <| dq (v := .int .i64 x4908) rfl (fun _ hw => Q_ld (show cellsAt _ _ _ [.int .i64 x4908] from match ha4912 _ (Ok.subS (by simp) hw) with | ⟨_, rfl, h⟩ => h) ty3 rfl (fun _ => rfl) rfl rfl) rfl rfl <| dq rfl (fun _ _ => Q_sub rfl rfl) rfl rfl <| dq rfl (fun _ _ => Q_eql rfl rfl) rfl rfl <| DL_nil <| x_then ?_
                    refine C_cond rfl (fun hb => ?_) (fun hb => ?_)
                    · replace hB4858 := itT hb hB4858
                      refine C_seq <| R_nd <| nq (Q_move rfl) rfl rfl <| nq (Q_move rfl) rfl rfl <| nq (Q_cvI ⟨_, Try.underlying3⟩ Try.underlying5 rfl) rfl rfl <| ne (E_bslice (xs := [.tmp 88]) (vs := [.int .u8 (IntKind.wrap .u8 x4795)]) H Try.underlying32 ty5 (by decide) (cs := [.int .u8 (IntKind.wrap .u8 x4795)]) rfl (sz_cons rfl sz_nil) rfl (by simp) (by simp) rfl rfl) rfl rfl ?_
                      rintro _ wd4914 ⟨b4913, rfl, H⟩
                      obtain ⟨x4915, hx4915, hB4858⟩ := bnd hB4858
                      obtain ⟨ha4916a, ha4916b⟩ := app_some hx4915
                      have r4918 : rdL (eI .u8) ρ x4915 (c4117 ++ ([.int .u8 (IntKind.wrap .u8 x4795)])) := ha4916b ▸ rdL.app r4119 (show rdL (eI .u8) ρ ([IntKind.wrap .u8 x4795]) ([.int .u8 (IntKind.wrap .u8 x4795)]) from ⟨([.int .u8 (IntKind.wrap .u8 x4795)]), _, rfl, rfl, rdL.nil⟩)
                      refine ne (E_append (k := 3) H rfl Try.underlying32 ty5 rfl (by decide) (by decide) rfl rfl (Src.ofArr (k := 0) H.ok rfl) (rdL.one (show rdL (eI .u8) ρ ([IntKind.wrap .u8 x4795]) ([.int .u8 (IntKind.wrap .u8 x4795)]) from ⟨([.int .u8 (IntKind.wrap .u8 x4795)]), _, rfl, rfl, rdL.nil⟩)) (app_fit r4119 (show rdL (eI .u8) ρ ([IntKind.wrap .u8 x4795]) ([.int .u8 (IntKind.wrap .u8 x4795)]) from ⟨([.int .u8 (IntKind.wrap .u8 x4795)]), _, rfl, rfl, rdL.nil⟩) ha4916a)) rfl rfl ?_
                      rintro v4917 wd4920 ⟨H, hc4919⟩
                      dsimp only [List.set] at H
                      refine nq (Q_assign rfl) rfl rfl <| WL_nil <| x_then <| C_seq <| R_nd <| nq (Q_move rfl) rfl rfl <| nq (Q_assign rfl) rfl rfl <| WL_nil <| x_then <| C_seq <| R_nd <| nq (Q_move rfl) rfl rfl <| nq (Q_assign rfl) rfl rfl <| WL_nil ?_
                      refine x_then <| C_exit <| x_block_other rfl <| x_then_exit <| x_then_exit <| x_block_exit ?_
                      replace H := H.front 3 rfl
                      dsimp only [List.eraseIdx] at H
                      replace H := H.front 3 rfl
                      dsimp only [List.eraseIdx] at H
                      replace H := H.front 3 rfl
                      dsimp only [List.eraseIdx] at H
                      replace H := H.drop 3 rfl
                      dsimp only [List.eraseIdx] at H
                      obtain rfl := Option.some.inj hB4858
                      obtain rfl := hO4859 _ rfl
                      refine x_A fun a hf => ⟨v4917, (c4117 ++ ([.int .u8 (IntKind.wrap .u8 x4795)])), x4868, x4880, x4915, rfl, r4918, hf.sub ⟨rfl, rfl, rfl, rfl, rfl, trivial⟩, H⟩
                    · replace hB4858 := itF hb hB4858
                      refine C_skip <| x_block <| x_then <| R_nd <| nq (Q_move rfl) rfl rfl <| nq (Q_add rfl rfl) rfl rfl <| nq (Q_assign rfl) rfl rfl <| WL_nil ?_
                      replace H := H.front 2 rfl
                      dsimp only [List.eraseIdx] at H
                      replace H := H.front 2 rfl
                      dsimp only [List.eraseIdx] at H
                      replace H := H.front 2 rfl
                      dsimp only [List.eraseIdx] at H
                      obtain rfl := Option.some.inj hB4858
                      refine x_A fun a hf => ⟨_, rfl, w64 (x4795 + 1), rfl, hf.sub ⟨rfl, rfl, rfl, rfl, rfl, rfl, trivial⟩, H⟩
                  · replace hB4858 := itF hb hB4858
                    refine C_exit <| x_then_exit <| x_then_exit <| x_block_exit ?_
                    replace H := H.front 2 rfl
                    dsimp only [List.eraseIdx] at H
                    replace H := H.front 2 rfl
                    dsimp only [List.eraseIdx] at H
                    replace H := H.front 2 rfl
                    dsimp only [List.eraseIdx] at H
                    obtain rfl := Option.some.inj hB4858
                    obtain rfl := hO4859 _ rfl
                    refine x_A fun a hf => ⟨v4116, c4117, x4114, x4115, x4118, rfl, r4119, hf.sub ⟨rfl, rfl, rfl, rfl, rfl, trivial⟩, H⟩
              · rintro a wd4921 ⟨v4729, c4730, x4727, x4728, x4731, rfl, r4732, hf, H⟩
                try dsimp only at hB4523
                refine XX.at hf <| x_block ?_
                replace H := H.front 2 rfl
                dsimp only [List.eraseIdx] at H
                replace H := H.front 2 rfl
                dsimp only [List.eraseIdx] at H
                replace H := H.front 2 rfl
                dsimp only [List.eraseIdx] at H
                obtain rfl := Option.some.inj hB4523
                refine x_A fun a hf => ⟨_, rfl, v4729, c4730, x4727, x4728, x4731, rfl, r4732, hf.sub ⟨rfl, rfl, rfl, rfl, rfl, trivial⟩, H⟩
            · replace hB4523 := itF hb hB4523
              refine C_exit <| x_then_exit <| x_then_exit <| x_block_exit ?_
              replace H := H.front 2 rfl
              dsimp only [List.eraseIdx] at H
              replace H := H.drop 1 rfl
              dsimp only [List.eraseIdx] at H
              replace H := H.drop 1 rfl
              dsimp only [List.eraseIdx] at H
              obtain rfl := Option.some.inj hB4523
              obtain rfl := hO4524 _ rfl
              refine x_A fun a hf => ⟨v4116, c4117, x4118, rfl, r4119, hf.sub ⟨rfl, trivial⟩, H⟩
        · rintro a wd4922 ⟨v3707, c3708, x3709, rfl, r3710, hf, H⟩
          try dsimp only at hF
          refine CW.at hf <| C_seq <| R_nd <| nq (Q_move rfl) rfl rfl <| nq (Q_assign rfl) rfl rfl <| nq (Q_assign rfl) rfl rfl <| WL_nil <| x_then <| C_ret ?_
          obtain rfl := Option.some.inj hF
          exact fn_ret (l := [.tmp 6, .tmp 7]) (vs := [v3707, .bool true]) rfl rfl rfl ⟨v3707, c3708, x3709, true, rfl, rfl, r3710, H⟩
theorem c_3 {N : Nat} {C : Cx} {w : World} {ρ : View} {hs : List Hl} {v1 : Value} {v4 : Value} {v7 : Value} {x2 : (List (List Int))} {x5 : (List Int)} {x8 : (List Int)} {x10 : Int} {x11 : Int} (H : Hp C w ρ (hs)) (r3 : RdSl ρ (eA 256 (eI .i64)) v1 x2) (r6 : RdSl ρ (eI .i64) v4 x5) (r9 : RdSl ρ (eI .i64) v7 x8) {r : Bool} (hF : F_dofferlaw19_HopcroftApart N x2 x5 x8 x10 x11 = some r) :
    Calls Try.prog 3 [.agg #[v1, v4, v7], .int .i64 x10, .int .i64 x11].toArray w (Rets (fun v w' => (∃ (ρ' : View) (x79 : Bool), x79 = r ∧ .bool x79 = v ∧ View.le ρ ρ' ∧ Hp C w' ρ' (hs)))) := by
  unfold F_dofferlaw19_HopcroftApart at hF
  have h0 : Try.f3.body = some _ := rfl
  refine fn_calls' Try.func3 h0 (n := 56) rfl (by simp) <| C_seq <| R_nd <| ne (E_box H (vs := [v1, v4, v7]) rfl rfl) rfl rfl ?_
  rintro _ wd81 ⟨b80, rfl, H⟩
  refine nq (Q_assign rfl) rfl rfl <| WL_nil <| x_then <| C_seq <| C_seq <| R_nd ?_
  obtain ⟨q82, hq82, hF⟩ := bnd hF
  refine ne (E_call fn4 rfl (c_4 H   hq82)) rfl rfl ?_
  rintro _ wd85 ⟨x84, rfl, rfl, H⟩
  try dsimp only at hF
  refine nq (Q_not rfl) rfl rfl <| WL_nil <| x_then ?_
  refine C_cond rfl (fun hb => ?_) (fun hb => ?_)
  · replace hF := itT hb hF
    refine C_seq <| R_nd <| nq (Q_assign rfl) rfl rfl <| WL_nil <| x_then <| C_ret <| x_then_ret ?_
    replace H := H.drop 0 rfl
    dsimp only [List.eraseIdx] at H
    obtain rfl := Option.some.inj hF
    exact fn_ret (l := [.tmp 6]) (vs := [.bool false]) rfl rfl rfl ⟨ρ, false, rfl, rfl, (View.le_refl _), H⟩
  · replace hF := itF hb hF
    refine C_skip <| x_then <| C_seq <| R_nd <| nq (v := .agg #[v1, v4, v7]) (Q_ldB (k := 0) (cs := [v1, v4, v7]) H.ok rfl ty25 rfl rfl rfl (fun h => nomatch h) rfl) rfl rfl ?_
    obtain ⟨q86, hq86, hF⟩ := bnd hF
    refine ne (E_call fn5 rfl (c_5 H  r3 r6 r9 hq86)) rfl rfl ?_
    rintro _ wd93 ⟨v88, c89, x90, x91, rfl, rfl, r92, H⟩
    try dsimp only at hF
    refine nq (Q_move rfl) rfl rfl <| nq (Q_extract rfl rfl) rfl rfl <| nq (Q_extract rfl rfl) rfl rfl <| ne (E_alloc H ty29 (zs := [.slice none 0 0, .slice none 0 0, .slice none 0 0]) rfl) rfl rfl ?_
    rintro _ wd95 ⟨b94, rfl, H⟩
    refine ne (E_stB (k := 0) (cs := [v88, v4, v7]) (vs' := [v88, v4, v7]) H rfl ty29 rfl rfl rfl rfl (one_cons (arr_cells (H.ok.get (k := 1) rfl)).2 (one_cons (RdSl.one r6) (one_cons (RdSl.one r9) one_nil))) (by simp) rfl) rfl rfl ?_
    rintro _ wd96 H
    dsimp only [List.set] at H
    refine nq (Q_assign rfl) rfl rfl <| WL_nil <| x_then <| C_seq <| C_seq <| R_nd <| nq (Q_move rfl) rfl rfl <| nq (Q_not rfl) rfl rfl <| WL_nil <| x_then ?_
    refine C_cond rfl (fun hb => ?_) (fun hb => ?_)
    · replace hF := itT hb hF
      refine C_seq <| R_nd <| nq (Q_assign rfl) rfl rfl <| WL_nil <| x_then <| C_ret <| x_then_ret ?_
      replace H := H.drop 0 rfl
      dsimp only [List.eraseIdx] at H
      replace H := H.drop 0 rfl
      dsimp only [List.eraseIdx] at H
      replace H := H.drop 0 rfl
      dsimp only [List.eraseIdx] at H
      obtain rfl := Option.some.inj hF
      exact fn_ret (l := [.tmp 6]) (vs := [.bool true]) rfl rfl rfl ⟨ρ, true, rfl, rfl, (View.le_refl _), H⟩
    · replace hF := itF hb hF
      refine C_skip <| x_then <| C_seq <| R_nd <| nq (v := .agg #[v1, v4, v7]) (Q_ldB (k := 2) (cs := [v1, v4, v7]) H.ok rfl ty25 rfl rfl rfl (fun h => nomatch h) rfl) rfl rfl <| nq (Q_move rfl) rfl rfl <| nq (Q_move rfl) rfl rfl ?_
      obtain ⟨q97, hq97, hF⟩ := bnd hF
      refine ne (E_call fn6 rfl (c_6 H  r3 r6 r9 hq97)) rfl rfl ?_
      rintro _ wd104 (⟨ρ, rfl, rfl, lw99, H⟩ | ⟨ρ, v100, x101, rfl, rfl, lw102, r103, H⟩)
      · try dsimp only at hF
        replace r3 := RdSl.up lw99 r3
        replace r6 := RdSl.up lw99 r6
        replace r9 := RdSl.up lw99 r9
        replace r92 := rdL.up lw99 r92
        refine nq (Q_move rfl) rfl rfl <| nq (Q_extract rfl rfl) rfl rfl <| nq (Q_extract rfl rfl) rfl rfl <| nq (Q_assign rfl) rfl rfl <| nq (Q_assign rfl) rfl rfl <| WL_nil <| x_then <| C_seq <| C_seq <| R_nd <| nq (v := .agg #[v88, v4, v7]) (Q_ldB (k := 1) (cs := [v88, v4, v7]) H.ok rfl ty29 rfl rfl rfl (fun h => nomatch h) rfl) rfl rfl ?_
        replace H := H.front 2 rfl
        dsimp only [List.eraseIdx] at H
        obtain ⟨q105, hq105, hF⟩ := bnd hF
        obtain ⟨C', ρ', hl106, HA, hL, hback⟩ := Hp.lend (A := []) (L := [Arr v88 256 c89]) (F := Arr (.slice none 0 0) 1 ([]) :: Box b94 [v88, v4, v7] :: Box b80 [v1, v4, v7] :: hs) H
        refine ne (E_call fn7 rfl (c_7 HA  (arr_rd (by decide) hl106 (hL (Arr v88 256 c89) (by simp)) r92) (r6.up hl106) (r9.up hl106) hq105)) rfl rfl ?_
        rintro _ wd108 ⟨x107, rfl, rfl, H⟩
        try dsimp only at hF
        replace H := hback H
        dsimp only [List.cons_append, List.nil_append] at H
        refine nq (Q_not rfl) rfl rfl <| WL_nil <| x_then ?_
        refine C_cond rfl (fun hb => ?_) (fun hb => ?_)
        · replace hF := itT hb hF
          obtain ⟨o109, ho109, hF⟩ := bnd hF
          refine C_cut (fun a w' => Fr 56 a [(6, .bool ((([] : List Int).length : Int) == 0))] ∧ Hp C w' ρ (hs)) ?_ ?_
          · refine R_nd <| nq (Q_move rfl) rfl rfl <| nq (Q_not rfl) rfl rfl <| nq (Q_move rfl) rfl rfl <| gq (Q_move rfl) rfl rfl rfl <| gq (Q_lenA (en := (eI .u8)) (k := 1) H.ok rfl rdL.nil (by decide) Try.underlying32 rfl) rfl rfl rfl <| gq (Q_eql rfl rfl) rfl rfl rfl <| nq (Q_pickT rfl rfl) rfl rfl <| nq (Q_assign rfl) rfl rfl <| WL_nil ?_
            replace H := H.drop 0 rfl
            dsimp only [List.eraseIdx] at H
            replace H := H.drop 0 rfl
            dsimp only [List.eraseIdx] at H
            replace H := H.drop 0 rfl
            dsimp only [List.eraseIdx] at H
            replace H := H.drop 0 rfl
            dsimp only [List.eraseIdx] at H
            obtain rfl := Option.some.inj ho109
            refine x_A fun a hf => ⟨hf.sub ⟨rfl, trivial⟩, H⟩
          · rintro a wd110 ⟨hf, H⟩
            try dsimp only at hF
            refine CW.at hf <| C_ret <| x_then_ret ?_
            obtain rfl := Option.some.inj hF
            exact fn_ret (l := [.tmp 6]) (vs := [.bool ((([] : List Int).length : Int) == 0)]) rfl rfl rfl ⟨ρ, (([] : List Int).length : Int) == 0, rfl, rfl, lw99, H⟩
        · replace hF := itF hb hF
          refine C_skip <| x_then <| C_seq <| R_nd <| nq (v := .agg #[v88, v4, v7]) (Q_ldB (k := 2) (cs := [v88, v4, v7]) H.ok rfl ty29 rfl rfl rfl (fun h => nomatch h) rfl) rfl rfl <| nq (Q_move rfl) rfl rfl <| nq (Q_move rfl) rfl rfl ?_
          obtain ⟨q111, hq111, hF⟩ := bnd hF
          obtain ⟨C', ρ', hl112, HA, hL, hback⟩ := Hp.lend (A := []) (L := [Arr v88 256 c89]) (F := Arr (.slice none 0 0) 1 ([]) :: Box b94 [v88, v4, v7] :: Box b80 [v1, v4, v7] :: hs) H
          refine ne (E_call fn8 rfl (c_8 HA  (arr_rd (by decide) hl112 (hL (Arr v88 256 c89) (by simp)) r92) (r6.up hl112) (r9.up hl112) hq111)) rfl rfl ?_
          rintro _ wd118 ⟨v113, c114, x115, x116, rfl, rfl, r117, H⟩
          try dsimp only at hF
          replace H := hback H
          replace r117 := rdL.flat (ρ := ρ') (ρ' := ρ) (flat_I _) r117
          dsimp only [List.cons_append, List.nil_append] at H
          refine nq (Q_move rfl) rfl rfl <| nq (Q_extract rfl rfl) rfl rfl <| nq (Q_extract rfl rfl) rfl rfl <| nq (Q_assign rfl) rfl rfl <| nq (Q_assign rfl) rfl rfl <| WL_nil <| x_then ?_
          obtain ⟨o122, ho122, hF⟩ := bnd hF
          refine C_cut (fun a w' => ∃ (x121 : Bool), x121 = o122 ∧ Fr 56 a [(6, .bool x121)] ∧ Hp C w' ρ (hs)) ?_ ?_
          · refine R_nd <| nq (Q_move rfl) rfl rfl <| nq (Q_move rfl) rfl rfl <| nq (v := .bool (false == x116)) (Q_eqlB Try.underlying4 rfl rfl) rfl rfl <| nq (Q_move rfl) rfl rfl ?_
            rcases Bool.eq_false_or_eq_true (false == x116) with hb | hb
            · rw [hb]
              replace ho122 := itT hb ho122
              refine gq (Q_move rfl) rfl rfl rfl <| ge (E_bstrA (k := 2) H rfl rdL.nil Try.underlying32 Try.underlying5 Try.underlying9 rfl) rfl rfl rfl ?_
              rintro _ wd123 ⟨rfl, rfl⟩
              refine gq (Q_move rfl) rfl rfl rfl <| ge (E_bstrA (k := 0) H rfl r117 Try.underlying32 Try.underlying5 Try.underlying9 rfl) rfl rfl rfl ?_
              rintro _ wd124 ⟨rfl, rfl⟩
              refine gq (v := .bool ((bstr ([])).toList == (bstr x115).toList)) (Q_eqlStr Try.underlying9 rfl rfl) rfl rfl rfl <| nq (Q_pickT rfl rfl) rfl rfl <| nq (Q_assign rfl) rfl rfl <| WL_nil ?_
              replace H := H.drop 0 rfl
              dsimp only [List.eraseIdx] at H
              replace H := H.drop 0 rfl
              dsimp only [List.eraseIdx] at H
              replace H := H.drop 0 rfl
              dsimp only [List.eraseIdx] at H
              replace H := H.drop 0 rfl
              dsimp only [List.eraseIdx] at H
              replace H := H.drop 0 rfl
              dsimp only [List.eraseIdx] at H
              obtain rfl := Option.some.inj ho122
              refine x_A fun a hf => ⟨(bstr ([])).toList == (bstr x115).toList, rfl, hf.sub ⟨rfl, trivial⟩, H⟩
            · rw [hb]
              replace ho122 := itF hb ho122
              refine gs rfl rfl rfl rfl <| gs rfl rfl rfl rfl <| gs rfl rfl rfl rfl <| gs rfl rfl rfl rfl <| gs rfl rfl rfl rfl <| nq (Q_pickF rfl rfl) rfl rfl <| nq (Q_assign rfl) rfl rfl <| WL_nil ?_
              replace H := H.drop 0 rfl
              dsimp only [List.eraseIdx] at H
              replace H := H.drop 0 rfl
              dsimp only [List.eraseIdx] at H
              replace H := H.drop 0 rfl
              dsimp only [List.eraseIdx] at H
              replace H := H.drop 0 rfl
              dsimp only [List.eraseIdx] at H
              replace H := H.drop 0 rfl
              dsimp only [List.eraseIdx] at H
              obtain rfl := Option.some.inj ho122
              refine x_A fun a hf => ⟨false, rfl, hf.sub ⟨rfl, trivial⟩, H⟩
          · rintro a wd125 ⟨x121, rfl, hf, H⟩
            try dsimp only at hF
            refine CW.at hf <| C_ret ?_
            obtain rfl := Option.some.inj hF
            exact fn_ret (l := [.tmp 6]) (vs := [.bool x121]) rfl rfl rfl ⟨ρ, x121, rfl, rfl, lw99, H⟩
      · try dsimp only at hF
        replace r3 := RdSl.up lw102 r3
        replace r6 := RdSl.up lw102 r6
        replace r9 := RdSl.up lw102 r9
        replace r92 := rdL.up lw102 r92
        refine nq (Q_move rfl) rfl rfl <| nq (Q_extract rfl rfl) rfl rfl <| nq (Q_extract rfl rfl) rfl rfl <| nq (Q_assign rfl) rfl rfl <| nq (Q_assign rfl) rfl rfl <| WL_nil <| x_then <| C_seq <| C_seq <| R_nd <| nq (v := .agg #[v88, v4, v7]) (Q_ldB (k := 0) (cs := [v88, v4, v7]) H.ok rfl ty29 rfl rfl rfl (fun h => nomatch h) rfl) rfl rfl ?_
        replace H := H.front 1 rfl
        dsimp only [List.eraseIdx] at H
        obtain ⟨q126, hq126, hF⟩ := bnd hF
        obtain ⟨C', ρ', hl127, HA, hL, hback⟩ := Hp.lend (A := []) (L := [Arr v88 256 c89]) (F := Box b94 [v88, v4, v7] :: Box b80 [v1, v4, v7] :: hs) H
        refine ne (E_call fn7 rfl (c_7 HA  (arr_rd (by decide) hl127 (hL (Arr v88 256 c89) (by simp)) r92) (r6.up hl127) (r9.up hl127) hq126)) rfl rfl ?_
        rintro _ wd129 ⟨x128, rfl, rfl, H⟩
        try dsimp only at hF
        replace H := hback H
        dsimp only [List.cons_append, List.nil_append] at H
        refine nq (Q_not rfl) rfl rfl <| WL_nil <| x_then ?_
        refine C_cond rfl (fun hb => ?_) (fun hb => ?_)
        · replace hF := itT hb hF
          obtain ⟨o130, ho130, hF⟩ := bnd hF
          refine C_cut (fun a w' => Fr 56 a [(6, .bool false)] ∧ Hp C w' ρ (hs)) ?_ ?_
          · refine R_nd <| nq (Q_move rfl) rfl rfl <| nq (Q_not rfl) rfl rfl <| nq (Q_move rfl) rfl rfl <| gs rfl rfl rfl rfl <| gs rfl rfl rfl rfl <| gs rfl rfl rfl rfl <| nq (Q_pickF rfl rfl) rfl rfl <| nq (Q_assign rfl) rfl rfl <| WL_nil ?_
            replace H := H.drop 0 rfl
            dsimp only [List.eraseIdx] at H
            replace H := H.drop 0 rfl
            dsimp only [List.eraseIdx] at H
            replace H := H.drop 0 rfl
            dsimp only [List.eraseIdx] at H
            obtain rfl := Option.some.inj ho130
            refine x_A fun a hf => ⟨hf.sub ⟨rfl, trivial⟩, H⟩
          · rintro a wd131 ⟨hf, H⟩
            try dsimp only at hF
            refine CW.at hf <| C_ret <| x_then_ret ?_
            obtain rfl := Option.some.inj hF
            exact fn_ret (l := [.tmp 6]) (vs := [.bool false]) rfl rfl rfl ⟨ρ, false, rfl, rfl, lw102, H⟩
        · replace hF := itF hb hF
          refine C_skip <| x_then <| C_seq <| R_nd <| nq (v := .agg #[v88, v4, v7]) (Q_ldB (k := 1) (cs := [v88, v4, v7]) H.ok rfl ty29 rfl rfl rfl (fun h => nomatch h) rfl) rfl rfl <| nq (Q_move rfl) rfl rfl <| nq (Q_move rfl) rfl rfl ?_
          obtain ⟨q132, hq132, hF⟩ := bnd hF
          obtain ⟨C', ρ', hl133, HA, hL, hback⟩ := Hp.lend (A := []) (L := [Arr v88 256 c89]) (F := Box b94 [v88, v4, v7] :: Box b80 [v1, v4, v7] :: hs) H
          refine ne (E_call fn8 rfl (c_8 HA  (arr_rd (by decide) hl133 (hL (Arr v88 256 c89) (by simp)) r92) (r6.up hl133) (r9.up hl133) hq132)) rfl rfl ?_
          rintro _ wd139 ⟨v134, c135, x136, x137, rfl, rfl, r138, H⟩
          try dsimp only at hF
          replace H := hback H
          replace r138 := rdL.flat (ρ := ρ') (ρ' := ρ) (flat_I _) r138
          dsimp only [List.cons_append, List.nil_append] at H
          refine nq (Q_move rfl) rfl rfl <| nq (Q_extract rfl rfl) rfl rfl <| nq (Q_extract rfl rfl) rfl rfl <| nq (Q_assign rfl) rfl rfl <| nq (Q_assign rfl) rfl rfl <| WL_nil <| x_then ?_
          obtain ⟨o143, ho143, hF⟩ := bnd hF
          refine C_cut (fun a w' => ∃ (x142 : Bool), x142 = o143 ∧ Fr 56 a [(6, .bool x142)] ∧ Hp C w' ρ (hs)) ?_ ?_
          · refine R_nd <| nq (Q_move rfl) rfl rfl <| nq (Q_move rfl) rfl rfl <| nq (v := .bool (true == x137)) (Q_eqlB Try.underlying4 rfl rfl) rfl rfl <| nq (Q_move rfl) rfl rfl ?_
            rcases Bool.eq_false_or_eq_true (true == x137) with hb | hb
            · rw [hb]
              replace ho143 := itT hb ho143
              refine gq (Q_move rfl) rfl rfl rfl <| ge (E_bstrR H Try.underlying32 Try.underlying5 Try.underlying9 rfl r103) rfl rfl rfl ?_
              rintro _ wd144 ⟨rfl, rfl⟩
              refine gq (Q_move rfl) rfl rfl rfl <| ge (E_bstrA (k := 0) H rfl r138 Try.underlying32 Try.underlying5 Try.underlying9 rfl) rfl rfl rfl ?_
              rintro _ wd145 ⟨rfl, rfl⟩
              refine gq (v := .bool ((bstr x101).toList == (bstr x136).toList)) (Q_eqlStr Try.underlying9 rfl rfl) rfl rfl rfl <| nq (Q_pickT rfl rfl) rfl rfl <| nq (Q_assign rfl) rfl rfl <| WL_nil ?_
              replace H := H.drop 0 rfl
              dsimp only [List.eraseIdx] at H
              replace H := H.drop 0 rfl
              dsimp only [List.eraseIdx] at H
              replace H := H.drop 0 rfl
              dsimp only [List.eraseIdx] at H
              replace H := H.drop 0 rfl
              dsimp only [List.eraseIdx] at H
              obtain rfl := Option.some.inj ho143
              refine x_A fun a hf => ⟨(bstr x101).toList == (bstr x136).toList, rfl, hf.sub ⟨rfl, trivial⟩, H⟩
            · rw [hb]
              replace ho143 := itF hb ho143
              refine gs rfl rfl rfl rfl <| gs rfl rfl rfl rfl <| gs rfl rfl rfl rfl <| gs rfl rfl rfl rfl <| gs rfl rfl rfl rfl <| nq (Q_pickF rfl rfl) rfl rfl <| nq (Q_assign rfl) rfl rfl <| WL_nil ?_
              replace H := H.drop 0 rfl
              dsimp only [List.eraseIdx] at H
              replace H := H.drop 0 rfl
              dsimp only [List.eraseIdx] at H
              replace H := H.drop 0 rfl
              dsimp only [List.eraseIdx] at H
              replace H := H.drop 0 rfl
              dsimp only [List.eraseIdx] at H
              obtain rfl := Option.some.inj ho143
              refine x_A fun a hf => ⟨false, rfl, hf.sub ⟨rfl, trivial⟩, H⟩
          · rintro a wd146 ⟨x142, rfl, hf, H⟩
            try dsimp only at hF
            refine CW.at hf <| C_ret ?_
            obtain rfl := Option.some.inj hF
            exact fn_ret (l := [.tmp 6]) (vs := [.bool x142]) rfl rfl rfl ⟨ρ, x142, rfl, rfl, lw102, H⟩
end Go.Proofs.Yteiaphkejkgfkaa
