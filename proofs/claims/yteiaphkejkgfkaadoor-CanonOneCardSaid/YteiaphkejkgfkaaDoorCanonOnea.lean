/-
  The walks of the law CanonOne, printed by my program, part 1: each function of the code computes its pure function.
-/
import Derived.Test.YteiaphkejkgfkaaDoorCanonOneD1
import Derived.Test.YteiaphkejkgfkaaDoorProg
namespace Go.Proofs.YteiaphkejkgfkaaDoor
open Go Go.Eng
set_option maxRecDepth 100000
theorem ty3 : Ty Tryd.prog 3 1 8 (.int .i64 0) false := ⟨by kernel_rfl, by kernel_rfl⟩
theorem ty5 : Ty Tryd.prog 5 1 1 (.int .u8 0) false := ⟨by kernel_rfl, by kernel_rfl⟩
theorem ty22 : Ty Tryd.prog 22 1 24 (.slice none 0 0) false := ⟨by kernel_rfl, by kernel_rfl⟩
theorem ty23 : Ty Tryd.prog 23 1 24 (.slice none 0 0) false := ⟨by kernel_rfl, by kernel_rfl⟩
theorem ty25 : Ty Tryd.prog 25 3 72 (.agg ([.slice none 0 0, .slice none 0 0, .slice none 0 0]).toArray) true := ⟨by kernel_rfl, by kernel_rfl⟩
theorem ty58 : Ty Tryd.prog 58 256 2048 (.agg (repC 256 [.int .i64 0]).toArray) true := ⟨by kernel_rfl, by kernel_rfl⟩
theorem ty61 : Ty Tryd.prog 61 1 8 (.pointer none) false := ⟨by kernel_rfl, by kernel_rfl⟩
theorem ty63 : Ty Tryd.prog 63 1 16 .nilIface false := ⟨by kernel_rfl, by kernel_rfl⟩
theorem ty84 : Ty Tryd.prog 84 1 24 (.slice none 0 0) false := ⟨by kernel_rfl, by kernel_rfl⟩
theorem ty92 : Ty Tryd.prog 92 1 24 (.slice none 0 0) false := ⟨by kernel_rfl, by kernel_rfl⟩
theorem ty94 : Ty Tryd.prog 94 2 32 (.agg ([.slice none 0 0, .int .i64 0]).toArray) true := ⟨by kernel_rfl, by kernel_rfl⟩
theorem ty95 : Ty Tryd.prog 95 1 8 (.int .u64 0) false := ⟨by kernel_rfl, by kernel_rfl⟩
theorem ty104 : Ty Tryd.prog 104 1 24 (.slice none 0 0) false := ⟨by kernel_rfl, by kernel_rfl⟩
theorem ty105 : Ty Tryd.prog 105 1 24 (.slice none 0 0) false := ⟨by kernel_rfl, by kernel_rfl⟩
theorem ty107 : Ty Tryd.prog 107 7 168 (.agg ([.slice none 0 0, .slice none 0 0, .slice none 0 0, .slice none 0 0, .slice none 0 0, .slice none 0 0, .slice none 0 0]).toArray) true := ⟨by kernel_rfl, by kernel_rfl⟩
theorem ty110 : Ty Tryd.prog 110 256 6144 (.agg (repC 256 [.slice none 0 0]).toArray) true := ⟨by kernel_rfl, by kernel_rfl⟩
theorem ty113 : Ty Tryd.prog 113 2 16 (.agg ([.int .i64 0, .int .u8 0]).toArray) true := ⟨by kernel_rfl, by kernel_rfl⟩
theorem st25 : ∃ fs, St Tryd.prog 25 fs [(0, 1), (1, 1), (2, 1)] [.slice none 0 0, .slice none 0 0, .slice none 0 0] := ⟨_, Tryd.underlying25, by kernel_rfl, _, _, _, _, ty25, rfl⟩
theorem st94 : ∃ fs, St Tryd.prog 94 fs [(0, 1), (1, 1)] [.slice none 0 0, .int .i64 0] := ⟨_, Tryd.underlying94, by kernel_rfl, _, _, _, _, ty94, rfl⟩
theorem st107 : ∃ fs, St Tryd.prog 107 fs [(0, 3), (3, 1), (4, 1), (5, 1), (6, 1)] [.slice none 0 0, .slice none 0 0, .slice none 0 0, .slice none 0 0, .slice none 0 0, .slice none 0 0, .slice none 0 0] := ⟨_, Tryd.underlying107, by kernel_rfl, _, _, _, _, ty107, rfl⟩
theorem st113 : ∃ fs, St Tryd.prog 113 fs [(0, 1), (1, 1)] [.int .i64 0, .int .u8 0] := ⟨_, Tryd.underlying113, by kernel_rfl, _, _, _, _, ty113, rfl⟩
theorem fn14 : HasFn Tryd.prog 14 := ⟨_, _, Tryd.func14, by kernel_rfl, rfl⟩
theorem fn16 : HasFn Tryd.prog 16 := ⟨_, _, Tryd.func16, by kernel_rfl, rfl⟩
theorem fn18 : HasFn Tryd.prog 18 := ⟨_, _, Tryd.func18, by kernel_rfl, rfl⟩
theorem fn22 : HasFn Tryd.prog 22 := ⟨_, _, Tryd.func22, by kernel_rfl, rfl⟩
theorem fn26 : HasFn Tryd.prog 26 := ⟨_, _, Tryd.func26, by kernel_rfl, rfl⟩
theorem fn29 : HasFn Tryd.prog 29 := ⟨_, _, Tryd.func29, by kernel_rfl, rfl⟩
theorem fn41 : HasFn Tryd.prog 41 := ⟨_, _, Tryd.func41, by kernel_rfl, rfl⟩
theorem fn43 : HasFn Tryd.prog 43 := ⟨_, _, Tryd.func43, by kernel_rfl, rfl⟩
theorem fn45 : HasFn Tryd.prog 45 := ⟨_, _, Tryd.func45, by kernel_rfl, rfl⟩
theorem fn50 : HasFn Tryd.prog 50 := ⟨_, _, Tryd.func50, by kernel_rfl, rfl⟩
theorem fn51 : HasFn Tryd.prog 51 := ⟨_, _, Tryd.func51, by kernel_rfl, rfl⟩
theorem fn52 : HasFn Tryd.prog 52 := ⟨_, _, Tryd.func52, by kernel_rfl, rfl⟩
theorem fn57 : HasFn Tryd.prog 57 := ⟨_, _, Tryd.func57, by kernel_rfl, rfl⟩
theorem fn58 : HasFn Tryd.prog 58 := ⟨_, _, Tryd.func58, by kernel_rfl, rfl⟩
theorem fn59 : HasFn Tryd.prog 59 := ⟨_, _, Tryd.func59, by kernel_rfl, rfl⟩
theorem fn62 : HasFn Tryd.prog 62 := ⟨_, _, Tryd.func62, by kernel_rfl, rfl⟩
theorem fn63 : HasFn Tryd.prog 63 := ⟨_, _, Tryd.func63, by kernel_rfl, rfl⟩
theorem fn64 : HasFn Tryd.prog 64 := ⟨_, _, Tryd.func64, by kernel_rfl, rfl⟩
theorem fn65 : HasFn Tryd.prog 65 := ⟨_, _, Tryd.func65, by kernel_rfl, rfl⟩
theorem fn66 : HasFn Tryd.prog 66 := ⟨_, _, Tryd.func66, by kernel_rfl, rfl⟩
theorem fn69 : HasFn Tryd.prog 69 := ⟨_, _, Tryd.func69, by kernel_rfl, rfl⟩
theorem fn70 : HasFn Tryd.prog 70 := ⟨_, _, Tryd.func70, by kernel_rfl, rfl⟩
theorem fn72 : HasFn Tryd.prog 72 := ⟨_, _, Tryd.func72, by kernel_rfl, rfl⟩
theorem fn75 : HasFn Tryd.prog 75 := ⟨_, _, Tryd.func75, by kernel_rfl, rfl⟩
theorem fn76 : HasFn Tryd.prog 76 := ⟨_, _, Tryd.func76, by kernel_rfl, rfl⟩
theorem fn77 : HasFn Tryd.prog 77 := ⟨_, _, Tryd.func77, by kernel_rfl, rfl⟩
theorem fn80 : HasFn Tryd.prog 80 := ⟨_, _, Tryd.func80, by kernel_rfl, rfl⟩
theorem fn81 : HasFn Tryd.prog 81 := ⟨_, _, Tryd.func81, by kernel_rfl, rfl⟩
theorem fn82 : HasFn Tryd.prog 82 := ⟨_, _, Tryd.func82, by kernel_rfl, rfl⟩
theorem fn83 : HasFn Tryd.prog 83 := ⟨_, _, Tryd.func83, by kernel_rfl, rfl⟩
theorem fn84 : HasFn Tryd.prog 84 := ⟨_, _, Tryd.func84, by kernel_rfl, rfl⟩
theorem fn85 : HasFn Tryd.prog 85 := ⟨_, _, Tryd.func85, by kernel_rfl, rfl⟩
theorem fn86 : HasFn Tryd.prog 86 := ⟨_, _, Tryd.func86, by kernel_rfl, rfl⟩
theorem fn87 : HasFn Tryd.prog 87 := ⟨_, _, Tryd.func87, by kernel_rfl, rfl⟩
theorem fn89 : HasFn Tryd.prog 89 := ⟨_, _, Tryd.func89, by kernel_rfl, rfl⟩
theorem fn90 : HasFn Tryd.prog 90 := ⟨_, _, Tryd.func90, by kernel_rfl, rfl⟩
theorem fn91 : HasFn Tryd.prog 91 := ⟨_, _, Tryd.func91, by kernel_rfl, rfl⟩
theorem fn92 : HasFn Tryd.prog 92 := ⟨_, _, Tryd.func92, by kernel_rfl, rfl⟩
theorem fn93 : HasFn Tryd.prog 93 := ⟨_, _, Tryd.func93, by kernel_rfl, rfl⟩
theorem c_57 {N : Nat} {C : Cx} {w : World} {ρ : View} {hs : List Hl} {b2 : Nat} {x1 : Int} {x3 : Int} (H : Hp C w ρ (Box b2 [.int .i64 x3] :: hs)) {r : Bool} (hF : F_subset_Right_1 N x1 x3 = some r) :
  Calls Tryd.prog 57 [.int .i64 x1, .pointer (some ⟨b2, 0, none⟩)].toArray w (Rets (fun v w' => (∃ (x7 : Bool), x7 = r ∧ .bool x7 = v ∧ Hp C w' ρ (Box b2 [.int .i64 x3] :: hs)))) := by
 unfold F_subset_Right_1 at hF
 have h0 : Tryd.f57.body = some _ := rfl
 refine fn_calls' Tryd.func57 h0 (n := 11) rfl (by simp) <| C_seq <| R_nd <| nq (Q_assign rfl) rfl rfl <| WL_nil <| x_then ?_
 obtain ⟨o9, ho9, hF⟩ := bnd hF
 refine C_cut (fun a w' => ∃ (x8 : Bool), x8 = o9 ∧ Fr 11 a [(3, .bool x8)] ∧ Hp C w' ρ (Box b2 [.int .i64 x3] :: hs)) ?_ ?_
 ·refine R_nd <| nq (Q_move rfl) rfl rfl <| nq (Q_lss rfl rfl) rfl rfl <| nq (Q_move rfl) rfl rfl ?_
  rcases Bool.eq_false_or_eq_true (decide (x1 < 0)) with hb | hb
  ·rw [hb]
   replace ho9 := itT hb ho9
   refine gs rfl rfl rfl rfl <| gs rfl rfl rfl rfl <| gs rfl rfl rfl rfl <| nq (Q_pickT rfl rfl) rfl rfl <| nq (Q_assign rfl) rfl rfl <| WL_nil ?_
   obtain rfl := Option.some.inj ho9
   refine x_A fun a hf => ⟨true, rfl, hf.sub ⟨rfl, trivial⟩, H⟩
  ·rw [hb]
   replace ho9 := itF hb ho9
   refine gq (Q_move rfl) rfl rfl rfl <| gq (v := .int .i64 x3) (Q_ldB (k := 0) (cs := [.int .i64 x3]) H.ok rfl ty3 rfl rfl rfl (fun _ => rfl) rfl) rfl rfl rfl <| gq (Q_geq rfl rfl) rfl rfl rfl <| nq (Q_pickF rfl rfl) rfl rfl <| nq (Q_assign rfl) rfl rfl <| WL_nil ?_
   obtain rfl := Option.some.inj ho9
   refine x_A fun a hf => ⟨decide (x1 ≥ x3), rfl, hf.sub ⟨rfl, trivial⟩, H⟩
 ·rintro a wd10 ⟨x8, rfl, hf, H⟩
  try dsimp only at hF
  refine CW.at hf <| C_ret ?_
  obtain rfl := Option.some.inj hF
  exact fn_ret (l := [.tmp 3]) (vs := [.bool x8]) rfl rfl rfl ⟨x8, rfl, rfl, H⟩
theorem c_80 {N : Nat} {C : Cx} {w : World} {ρ : View} {hs : List Hl} {v1 : Value} {b4 : Nat} {x2 : (List Int)} {x5 : Int} (H : Hp C w ρ (Box b4 [.int .i64 x5] :: hs)) (r3 : RdSl ρ (eI .i64) v1 x2) {r : Int} (hF : F_slices_IndexFunc_int_int N x2 x5 = some r) :
  Calls Tryd.prog 80 [v1, .func (.func 57) #[] [.pointer (some ⟨b4, 0, none⟩)].toArray].toArray w (Rets (fun v w' => (∃ (x88 : Int), x88 = r ∧ .int .i64 x88 = v ∧ Hp C w' ρ (Box b4 [.int .i64 x5] :: hs)))) := by
 unfold F_slices_IndexFunc_int_int at hF
 have h0 : Tryd.f80.body = some _ := rfl
 refine fn_calls' Tryd.func80 h0 (n := 19) rfl (by simp) <| C_seq <| R_nd <| nq (Q_assign rfl) rfl rfl <| WL_nil <| x_then <| C_seq <| C_seq <| R_nd <| nq (Q_move rfl) rfl rfl <| nq (Q_len Tryd.underlying23 rfl r3) rfl rfl <| nq (Q_move rfl) rfl rfl <| WL_nil <| x_then ?_
 obtain ⟨o129, ho129, hF⟩ := bnd hF
 refine C_cutQ (fun a w' => .inl () = o129 ∧ Fr 19 a [] ∧ Hp C w' ρ (Box b4 [.int .i64 x5] :: hs)) ?_ ?_
 ·refine C_block ?_
  refine C_iter (f := fun s => F_slices_IndexFunc_int_int_l0 N x2 x5 s) ho129 (fun s a w' => ∃ (x142 : Int), x142 = s ∧ Fr 19 a [(0, v1), (1, .func (.func 57) #[] [.pointer (some ⟨b4, 0, none⟩)].toArray), (7, .int .i64 (x2.length : Int)), (8, .int .i64 x142)] ∧ Hp C w' ρ (Box b4 [.int .i64 x5] :: hs)) ?_ ?_
  ·exact fun a hf => ⟨0, rfl, hf.sub ⟨rfl, rfl, rfl, rfl, trivial⟩, H⟩
  ·rintro s o155 a wd158 ⟨x142, rfl, hf, H⟩ hB156 hO157
   replace hB156 : F_slices_IndexFunc_int_int_l0 N x2 x5 x142 = some o155 := hB156
   unfold F_slices_IndexFunc_int_int_l0 at hB156
   refine CW.at hf <| C_seq <| R_nd <| nq (Q_lss rfl rfl) rfl rfl <| WL_nil <| x_then <| C_seq ?_
   refine C_cond rfl (fun hb => ?_) (fun hb => ?_)
   ·replace hB156 := itT hb hB156
    refine C_skip <| x_then <| C_seq <| C_block <| C_seq <| R_nd <| nq (Q_move rfl) rfl rfl <| nq (Q_assign rfl) rfl rfl <| WL_nil <| x_then <| C_seq <| R_nd <| nq (Q_move rfl) rfl rfl <| nq (Q_move rfl) rfl rfl ?_
    refine nq (Q_move rfl) rfl rfl ?_
    obtain ⟨x159, hx159, hB156⟩ := bnd hB156
    obtain ⟨b160, o161, c162, hc163, ha164, hi165⟩ := idxR r3 hx159
    refine nq (Q_idx hi165 Tryd.underlying23 ty3 rfl rfl) rfl rfl <| nq (v := .int .i64 x159) (Q_ld (show cellsAt _ _ _ [.int .i64 x159] from (show _ = [_] from hc163) ▸ (ha164.up H.ok.view)) ty3 rfl (fun _ => rfl) rfl rfl) rfl rfl ?_
    obtain ⟨q166, hq166, hB156⟩ := bnd hB156
    refine ne (E_callV fn57 rfl rfl (c_57 H   hq166)) rfl rfl ?_
    rintro _ wd169 ⟨x168, rfl, rfl, H⟩
    try dsimp only at hB156
    refine WL_nil <| x_then ?_
    refine C_cond rfl (fun hb => ?_) (fun hb => ?_)
    ·replace hB156 := itT hb hB156
     refine C_seq <| R_nd <| nq (Q_move rfl) rfl rfl <| nq (Q_assign rfl) rfl rfl <| WL_nil <| x_then <| C_ret <| x_block_ret <| x_then_ret <| x_then_ret <| x_block_ret <| x_then_ret <| x_then_ret ?_
     obtain rfl := Option.some.inj hB156
     obtain rfl := hO157 _ rfl
     obtain rfl := Option.some.inj (show some _ = some _ from hF)
     exact fn_ret (l := [.tmp 4]) (vs := [.int .i64 x142]) rfl rfl rfl ⟨x142, rfl, rfl, H⟩
    ·replace hB156 := itF hb hB156
     refine C_skip <| x_block <| x_then <| R_nd <| nq (Q_add rfl rfl) rfl rfl <| nq (Q_move rfl) rfl rfl <| WL_nil ?_
     obtain rfl := Option.some.inj hB156
     refine x_A fun a hf => ⟨_, rfl, w64 (x142 + 1), rfl, hf.sub ⟨rfl, rfl, rfl, rfl, trivial⟩, H⟩
   ·replace hB156 := itF hb hB156
    refine C_exit <| x_then_exit <| x_then_exit <| x_block_exit ?_
    obtain rfl := Option.some.inj hB156
    obtain rfl := hO157 _ rfl
    refine x_A fun a hf => ⟨rfl, hf.sub trivial, H⟩
 ·rintro a wd170 ⟨rfl, hf, H⟩
  try dsimp only at hF
  refine XX.at hf <| x_then <| C_seq <| R_nd <| nq (Q_assign rfl) rfl rfl <| WL_nil <| x_then <| C_ret ?_
  obtain rfl := Option.some.inj hF
  exact fn_ret (l := [.tmp 4]) (vs := [.int .i64 (-1)]) rfl rfl rfl ⟨(-1), rfl, rfl, H⟩
theorem c_58 {N : Nat} {C : Cx} {w : World} {ρ : View} {hs : List Hl} {v1 : Value} {b4 : Nat} {x2 : (List Int)} {x5 : Int} (H : Hp C w ρ (Box b4 [.int .i64 x5] :: hs)) (r3 : RdSl ρ (eI .i64) v1 x2) {r : Bool} (hF : F_slices_ContainsFunc_int_int N x2 x5 = some r) :
  Calls Tryd.prog 58 [v1, .func (.func 57) #[] [.pointer (some ⟨b4, 0, none⟩)].toArray].toArray w (Rets (fun v w' => (∃ (x10 : Bool), x10 = r ∧ .bool x10 = v ∧ Hp C w' ρ (Box b4 [.int .i64 x5] :: hs)))) := by
 unfold F_slices_ContainsFunc_int_int at hF
 have h0 : Tryd.f58.body = some _ := rfl
 refine fn_calls' Tryd.func58 h0 (n := 9) rfl (by simp) <| C_seq <| R_nd <| nq (Q_assign rfl) rfl rfl <| WL_nil <| x_then <| C_seq <| R_nd <| nq (Q_move rfl) rfl rfl <| nq (Q_move rfl) rfl rfl ?_
 obtain ⟨q11, hq11, hF⟩ := bnd hF
 refine ne (E_call fn80 rfl (c_80 H  r3 hq11)) rfl rfl ?_
 rintro _ wd14 ⟨x13, rfl, rfl, H⟩
 try dsimp only at hF
 refine nq (Q_geq rfl rfl) rfl rfl <| nq (Q_assign rfl) rfl rfl <| WL_nil <| x_then <| C_ret ?_
 obtain rfl := Option.some.inj hF
 exact fn_ret (l := [.tmp 4]) (vs := [.bool (decide (x13 ≥ 0))]) rfl rfl rfl ⟨decide (x13 ≥ 0), rfl, rfl, H⟩
theorem c_59 {N : Nat} {C : Cx} {w : World} {ρ : View} {hs : List Hl} {x1 : Int} (H : Hp C w ρ (hs)) {r : Bool} (hF : F_subset_Right_2 N x1 = some r) :
  Calls Tryd.prog 59 [.int .i64 x1].toArray w (Rets (fun v w' => (∃ (x5 : Bool), x5 = r ∧ .bool x5 = v ∧ Hp C w' ρ (hs)))) := by
 unfold F_subset_Right_2 at hF
 have h0 : Tryd.f59.body = some _ := rfl
 refine fn_calls' Tryd.func59 h0 (n := 9) rfl (by simp) <| C_seq <| R_nd <| nq (Q_assign rfl) rfl rfl <| WL_nil <| x_then ?_
 obtain ⟨o7, ho7, hF⟩ := bnd hF
 refine C_cut (fun a w' => ∃ (x6 : Bool), x6 = o7 ∧ Fr 9 a [(2, .bool x6)] ∧ Hp C w' ρ (hs)) ?_ ?_
 ·refine R_nd <| nq (Q_move rfl) rfl rfl <| nq (Q_lss rfl rfl) rfl rfl <| nq (Q_move rfl) rfl rfl ?_
  rcases Bool.eq_false_or_eq_true (decide (x1 < (-1))) with hb | hb
  ·rw [hb]
   replace ho7 := itT hb ho7
   refine gs rfl rfl rfl rfl <| gs rfl rfl rfl rfl <| nq (Q_pickT rfl rfl) rfl rfl <| nq (Q_assign rfl) rfl rfl <| WL_nil ?_
   obtain rfl := Option.some.inj ho7
   refine x_A fun a hf => ⟨true, rfl, hf.sub ⟨rfl, trivial⟩, H⟩
  ·rw [hb]
   replace ho7 := itF hb ho7
   refine gq (Q_move rfl) rfl rfl rfl <| gq (Q_geq rfl rfl) rfl rfl rfl <| nq (Q_pickF rfl rfl) rfl rfl <| nq (Q_assign rfl) rfl rfl <| WL_nil ?_
   obtain rfl := Option.some.inj ho7
   refine x_A fun a hf => ⟨decide (x1 ≥ 48), rfl, hf.sub ⟨rfl, trivial⟩, H⟩
 ·rintro a wd8 ⟨x6, rfl, hf, H⟩
  try dsimp only at hF
  refine CW.at hf <| C_ret ?_
  obtain rfl := Option.some.inj hF
  exact fn_ret (l := [.tmp 2]) (vs := [.bool x6]) rfl rfl rfl ⟨x6, rfl, rfl, H⟩
theorem c_80_1 {N : Nat} {C : Cx} {w : World} {ρ : View} {hs : List Hl} {v1 : Value} {x2 : (List Int)} (H : Hp C w ρ (hs)) (r3 : RdSl ρ (eI .i64) v1 x2) {r : Int} (hF : F_slices_IndexFunc_int_int_1 N x2 = some r) :
  Calls Tryd.prog 80 [v1, .func (.func 59) #[] [].toArray].toArray w (Rets (fun v w' => (∃ (x86 : Int), x86 = r ∧ .int .i64 x86 = v ∧ Hp C w' ρ (hs)))) := by
 unfold F_slices_IndexFunc_int_int_1 at hF
 have h0 : Tryd.f80.body = some _ := rfl
 refine fn_calls' Tryd.func80 h0 (n := 19) rfl (by simp) <| C_seq <| R_nd <| nq (Q_assign rfl) rfl rfl <| WL_nil <| x_then <| C_seq <| C_seq <| R_nd <| nq (Q_move rfl) rfl rfl <| nq (Q_len Tryd.underlying23 rfl r3) rfl rfl <| nq (Q_move rfl) rfl rfl <| WL_nil <| x_then ?_
 obtain ⟨o127, ho127, hF⟩ := bnd hF
 refine C_cutQ (fun a w' => .inl () = o127 ∧ Fr 19 a [] ∧ Hp C w' ρ (hs)) ?_ ?_
 ·refine C_block ?_
  refine C_iter (f := fun s => F_slices_IndexFunc_int_int_1_l0 N x2 s) ho127 (fun s a w' => ∃ (x140 : Int), x140 = s ∧ Fr 19 a [(0, v1), (1, .func (.func 59) #[] [].toArray), (7, .int .i64 (x2.length : Int)), (8, .int .i64 x140)] ∧ Hp C w' ρ (hs)) ?_ ?_
  ·exact fun a hf => ⟨0, rfl, hf.sub ⟨rfl, rfl, rfl, rfl, trivial⟩, H⟩
  ·rintro s o153 a wd156 ⟨x140, rfl, hf, H⟩ hB154 hO155
   replace hB154 : F_slices_IndexFunc_int_int_1_l0 N x2 x140 = some o153 := hB154
   unfold F_slices_IndexFunc_int_int_1_l0 at hB154
   refine CW.at hf <| C_seq <| R_nd <| nq (Q_lss rfl rfl) rfl rfl <| WL_nil <| x_then <| C_seq ?_
   refine C_cond rfl (fun hb => ?_) (fun hb => ?_)
   ·replace hB154 := itT hb hB154
    refine C_skip <| x_then <| C_seq <| C_block <| C_seq <| R_nd <| nq (Q_move rfl) rfl rfl <| nq (Q_assign rfl) rfl rfl <| WL_nil <| x_then <| C_seq <| R_nd <| nq (Q_move rfl) rfl rfl <| nq (Q_move rfl) rfl rfl ?_
    refine nq (Q_move rfl) rfl rfl ?_
    obtain ⟨x157, hx157, hB154⟩ := bnd hB154
    obtain ⟨b158, o159, c160, hc161, ha162, hi163⟩ := idxR r3 hx157
    refine nq (Q_idx hi163 Tryd.underlying23 ty3 rfl rfl) rfl rfl <| nq (v := .int .i64 x157) (Q_ld (show cellsAt _ _ _ [.int .i64 x157] from (show _ = [_] from hc161) ▸ (ha162.up H.ok.view)) ty3 rfl (fun _ => rfl) rfl rfl) rfl rfl ?_
    obtain ⟨q164, hq164, hB154⟩ := bnd hB154
    refine ne (E_callV fn59 rfl rfl (c_59 H   hq164)) rfl rfl ?_
    rintro _ wd167 ⟨x166, rfl, rfl, H⟩
    try dsimp only at hB154
    refine WL_nil <| x_then ?_
    refine C_cond rfl (fun hb => ?_) (fun hb => ?_)
    ·replace hB154 := itT hb hB154
     refine C_seq <| R_nd <| nq (Q_move rfl) rfl rfl <| nq (Q_assign rfl) rfl rfl <| WL_nil <| x_then <| C_ret <| x_block_ret <| x_then_ret <| x_then_ret <| x_block_ret <| x_then_ret <| x_then_ret ?_
     obtain rfl := Option.some.inj hB154
     obtain rfl := hO155 _ rfl
     obtain rfl := Option.some.inj (show some _ = some _ from hF)
     exact fn_ret (l := [.tmp 4]) (vs := [.int .i64 x140]) rfl rfl rfl ⟨x140, rfl, rfl, H⟩
    ·replace hB154 := itF hb hB154
     refine C_skip <| x_block <| x_then <| R_nd <| nq (Q_add rfl rfl) rfl rfl <| nq (Q_move rfl) rfl rfl <| WL_nil ?_
     obtain rfl := Option.some.inj hB154
     refine x_A fun a hf => ⟨_, rfl, w64 (x140 + 1), rfl, hf.sub ⟨rfl, rfl, rfl, rfl, trivial⟩, H⟩
   ·replace hB154 := itF hb hB154
    refine C_exit <| x_then_exit <| x_then_exit <| x_block_exit ?_
    obtain rfl := Option.some.inj hB154
    obtain rfl := hO155 _ rfl
    refine x_A fun a hf => ⟨rfl, hf.sub trivial, H⟩
 ·rintro a wd168 ⟨rfl, hf, H⟩
  try dsimp only at hF
  refine XX.at hf <| x_then <| C_seq <| R_nd <| nq (Q_assign rfl) rfl rfl <| WL_nil <| x_then <| C_ret ?_
  obtain rfl := Option.some.inj hF
  exact fn_ret (l := [.tmp 4]) (vs := [.int .i64 (-1)]) rfl rfl rfl ⟨(-1), rfl, rfl, H⟩
theorem c_58_1 {N : Nat} {C : Cx} {w : World} {ρ : View} {hs : List Hl} {v1 : Value} {x2 : (List Int)} (H : Hp C w ρ (hs)) (r3 : RdSl ρ (eI .i64) v1 x2) {r : Bool} (hF : F_slices_ContainsFunc_int_int_1 N x2 = some r) :
  Calls Tryd.prog 58 [v1, .func (.func 59) #[] [].toArray].toArray w (Rets (fun v w' => (∃ (x8 : Bool), x8 = r ∧ .bool x8 = v ∧ Hp C w' ρ (hs)))) := by
 unfold F_slices_ContainsFunc_int_int_1 at hF
 have h0 : Tryd.f58.body = some _ := rfl
 refine fn_calls' Tryd.func58 h0 (n := 9) rfl (by simp) <| C_seq <| R_nd <| nq (Q_assign rfl) rfl rfl <| WL_nil <| x_then <| C_seq <| R_nd <| nq (Q_move rfl) rfl rfl <| nq (Q_move rfl) rfl rfl ?_
 obtain ⟨q9, hq9, hF⟩ := bnd hF
 refine ne (E_call fn80 rfl (c_80_1 H  r3 hq9)) rfl rfl ?_
 rintro _ wd12 ⟨x11, rfl, rfl, H⟩
 try dsimp only at hF
 refine nq (Q_geq rfl rfl) rfl rfl <| nq (Q_assign rfl) rfl rfl <| WL_nil <| x_then <| C_ret ?_
 obtain rfl := Option.some.inj hF
 exact fn_ret (l := [.tmp 4]) (vs := [.bool (decide (x11 ≥ 0))]) rfl rfl rfl ⟨decide (x11 ≥ 0), rfl, rfl, H⟩
theorem c_26 {N : Nat} {C : Cx} {w : World} {ρ : View} {hs : List Hl} {v1 : Value} {v4 : Value} {v7 : Value} {x2 : (List (List Int))} {x5 : (List Int)} {x8 : (List Int)} (H : Hp C w ρ (hs)) (r3 : RdSl ρ (eA 256 (eI .i64)) v1 x2) (r6 : RdSl ρ (eI .i64) v4 x5) (r9 : RdSl ρ (eI .i64) v7 x8) {r : Bool} (hF : F_subset_Right N x2 x5 x8 = some r) :
  Calls Tryd.prog 26 [.agg #[v1, v4, v7]].toArray w (Rets (fun v w' => (∃ (x168 : Bool), x168 = r ∧ .bool x168 = v ∧ Hp C w' ρ (hs)))) := by
 unfold F_subset_Right at hF
 have h0 : Tryd.f26.body = some _ := rfl
 refine fn_calls' Tryd.func26 h0 (n := 71) rfl (by simp) <| C_seq <| R_nd <| ne (E_box H (vs := [v1, v4, v7]) rfl rfl) rfl rfl ?_
 rintro _ wd170 ⟨b169, rfl, H⟩
 refine nq (Q_assign rfl) rfl rfl <| WL_nil <| x_then <| C_seq <| R_nd <| nq (v := .pointer (some ⟨b169, 0, none⟩)) (Q_fld Tryd.underlying25 rfl ty22 (by decide) rfl rfl) rfl rfl <| nq (v := v1) (Q_ldB (k := 0) (cs := [v1]) H.ok rfl ty22 rfl rfl rfl (fun _ => rfl) rfl) rfl rfl <| nq (Q_len Tryd.underlying22 rfl r3) rfl rfl <| ne (E_alloc H ty3 (zs := [.int .i64 0]) rfl) rfl rfl ?_
 rintro _ wd172 ⟨b171, rfl, H⟩
 refine ne (E_stB (k := 0) (cs := [.int .i64 (x2.length : Int)]) (vs' := [.int .i64 (x2.length : Int)]) H rfl ty3 rfl rfl rfl rfl (one_cons rfl one_nil) (by simp) rfl) rfl rfl ?_
 rintro _ wd173 H
 dsimp only [List.set] at H
 refine WL_nil <| x_then <| C_seq ?_
 obtain ⟨o175, ho175, hF⟩ := bnd hF
 refine C_cut (fun a w' => ∃ (x174 : Bool), x174 = o175 ∧ Fr 71 a [(1, .pointer (some ⟨b169, 0, none⟩)), (3, .pointer (some ⟨b171, 0, none⟩)), (35, .bool x174)] ∧ Hp C w' ρ (Box b169 [v1, v4, v7] :: Box b171 [.int .i64 (x2.length : Int)] :: hs)) ?_ ?_
 ·refine R_nd <| nq (v := .int .i64 (x2.length : Int)) (Q_ldB (k := 0) (cs := [.int .i64 (x2.length : Int)]) H.ok rfl ty3 rfl rfl rfl (fun _ => rfl) rfl) rfl rfl <| nq (Q_lss rfl rfl) rfl rfl <| nq (Q_move rfl) rfl rfl ?_
  rcases Bool.eq_false_or_eq_true (decide ((x2.length : Int) < 1)) with hb | hb
  ·rw [hb]
   replace ho175 := itT hb ho175
   refine gs rfl rfl rfl rfl <| gs rfl rfl rfl rfl <| nq (Q_pickT rfl rfl) rfl rfl <| nq (Q_move rfl) rfl rfl <| gs rfl rfl rfl rfl <| gs rfl rfl rfl rfl <| gs rfl rfl rfl rfl <| gs rfl rfl rfl rfl <| gs rfl rfl rfl rfl <| nq (Q_pickT rfl rfl) rfl rfl <| nq (Q_move rfl) rfl rfl <| gs rfl rfl rfl rfl <| gs rfl rfl rfl rfl <| gs rfl rfl rfl rfl ?_
   refine gs rfl rfl rfl rfl <| nq (Q_pickT rfl rfl) rfl rfl <| nq (Q_move rfl) rfl rfl <| gs rfl rfl rfl rfl <| gs rfl rfl rfl rfl <| gs rfl rfl rfl rfl <| gs rfl rfl rfl rfl <| nq (Q_pickT rfl rfl) rfl rfl <| WL_nil ?_
   replace H := H.f1
   obtain rfl := Option.some.inj ho175
   refine x_A fun a hf => ⟨true, rfl, hf.sub ⟨rfl, rfl, rfl, trivial⟩, H⟩
  ·rw [hb]
   replace ho175 := itF hb ho175
   refine gq (v := .int .i64 (x2.length : Int)) (Q_ldB (k := 0) (cs := [.int .i64 (x2.length : Int)]) H.ok rfl ty3 rfl rfl rfl (fun _ => rfl) rfl) rfl rfl rfl <| gq (Q_gtr rfl rfl) rfl rfl rfl <| nq (Q_pickF rfl rfl) rfl rfl <| nq (Q_move rfl) rfl rfl ?_
   rcases Bool.eq_false_or_eq_true (decide ((x2.length : Int) > 200)) with hb | hb
   ·rw [hb]
    replace ho175 := itT hb ho175
    refine gs rfl rfl rfl rfl <| gs rfl rfl rfl rfl <| gs rfl rfl rfl rfl <| gs rfl rfl rfl rfl <| gs rfl rfl rfl rfl <| nq (Q_pickT rfl rfl) rfl rfl <| nq (Q_move rfl) rfl rfl <| gs rfl rfl rfl rfl <| gs rfl rfl rfl rfl <| gs rfl rfl rfl rfl <| gs rfl rfl rfl rfl <| nq (Q_pickT rfl rfl) rfl rfl <| nq (Q_move rfl) rfl rfl <| gs rfl rfl rfl rfl ?_
    refine gs rfl rfl rfl rfl <| gs rfl rfl rfl rfl <| gs rfl rfl rfl rfl <| nq (Q_pickT rfl rfl) rfl rfl <| WL_nil ?_
    replace H := H.f1
    obtain rfl := Option.some.inj ho175
    refine x_A fun a hf => ⟨true, rfl, hf.sub ⟨rfl, rfl, rfl, trivial⟩, H⟩
   ·rw [hb]
    replace ho175 := itF hb ho175
    refine gq (v := .pointer (some ⟨b169, 1, none⟩)) (Q_fld Tryd.underlying25 rfl ty23 (by decide) rfl rfl) rfl rfl rfl <| gq (v := v4) (Q_ldB (k := 1) (cs := [v4]) H.ok rfl ty23 rfl rfl rfl (fun _ => rfl) rfl) rfl rfl rfl <| gq (Q_len Tryd.underlying23 rfl r6) rfl rfl rfl <| gq (v := .int .i64 (x2.length : Int)) (Q_ldB (k := 0) (cs := [.int .i64 (x2.length : Int)]) H.ok rfl ty3 rfl rfl rfl (fun _ => rfl) rfl) rfl rfl rfl <| gq (Q_neq rfl rfl) rfl rfl rfl <| nq (Q_pickF rfl rfl) rfl rfl <| nq (Q_move rfl) rfl rfl ?_
    rcases Bool.eq_false_or_eq_true ((x5.length : Int) != (x2.length : Int)) with hb | hb
    ·rw [hb]
     replace ho175 := itT hb ho175
     refine gs rfl rfl rfl rfl <| gs rfl rfl rfl rfl <| gs rfl rfl rfl rfl <| gs rfl rfl rfl rfl <| nq (Q_pickT rfl rfl) rfl rfl <| nq (Q_move rfl) rfl rfl <| gs rfl rfl rfl rfl <| gs rfl rfl rfl rfl <| gs rfl rfl rfl rfl <| gs rfl rfl rfl rfl <| nq (Q_pickT rfl rfl) rfl rfl <| WL_nil ?_
     replace H := H.f1
     obtain rfl := Option.some.inj ho175
     refine x_A fun a hf => ⟨true, rfl, hf.sub ⟨rfl, rfl, rfl, trivial⟩, H⟩
    ·rw [hb]
     replace ho175 := itF hb ho175
     refine gq (v := .pointer (some ⟨b169, 2, none⟩)) (Q_fld Tryd.underlying25 rfl ty23 (by decide) rfl rfl) rfl rfl rfl <| gq (v := v7) (Q_ldB (k := 1) (cs := [v7]) H.ok rfl ty23 rfl rfl rfl (fun _ => rfl) rfl) rfl rfl rfl <| gq (Q_len Tryd.underlying23 rfl r9) rfl rfl rfl <| gq (Q_lss rfl rfl) rfl rfl rfl <| nq (Q_pickF rfl rfl) rfl rfl <| nq (Q_move rfl) rfl rfl ?_
     rcases Bool.eq_false_or_eq_true (decide ((x8.length : Int) < 1)) with hb | hb
     ·rw [hb]
      replace ho175 := itT hb ho175
      refine gs rfl rfl rfl rfl <| gs rfl rfl rfl rfl <| gs rfl rfl rfl rfl <| gs rfl rfl rfl rfl <| nq (Q_pickT rfl rfl) rfl rfl <| WL_nil ?_
      replace H := H.f1
      obtain rfl := Option.some.inj ho175
      refine x_A fun a hf => ⟨true, rfl, hf.sub ⟨rfl, rfl, rfl, trivial⟩, H⟩
     ·rw [hb]
      replace ho175 := itF hb ho175
      refine gq (v := .pointer (some ⟨b169, 2, none⟩)) (Q_fld Tryd.underlying25 rfl ty23 (by decide) rfl rfl) rfl rfl rfl <| gq (v := v7) (Q_ldB (k := 1) (cs := [v7]) H.ok rfl ty23 rfl rfl rfl (fun _ => rfl) rfl) rfl rfl rfl <| gq (Q_len Tryd.underlying23 rfl r9) rfl rfl rfl <| gq (Q_gtr rfl rfl) rfl rfl rfl <| nq (Q_pickF rfl rfl) rfl rfl <| WL_nil ?_
      replace H := H.f1
      obtain rfl := Option.some.inj ho175
      refine x_A fun a hf => ⟨decide ((x8.length : Int) > 8), rfl, hf.sub ⟨rfl, rfl, rfl, trivial⟩, H⟩
 ·rintro a wd176 ⟨x174, rfl, hf, H⟩
  try dsimp only at hF
  refine CW.at hf ?_
  refine C_cond rfl (fun hb => ?_) (fun hb => ?_)
  ·replace hF := itT hb hF
   refine C_seq <| R_nd <| nq (Q_assign rfl) rfl rfl <| WL_nil <| x_then <| C_ret <| x_then_ret ?_
   replace H := H.drop 0 rfl
   dsimp only [List.eraseIdx] at H
   replace H := H.drop 0 rfl
   dsimp only [List.eraseIdx] at H
   obtain rfl := Option.some.inj hF
   exact fn_ret (l := [.tmp 2]) (vs := [.bool false]) rfl rfl rfl ⟨false, rfl, rfl, H⟩
  ·replace hF := itF hb hF
   refine C_skip <| x_then <| C_seq <| R_nd <| nq (v := .func (.func 57) #[] [.pointer (some ⟨b171, 0, none⟩)].toArray) (Q_func rfl) rfl rfl <| nq (Q_assign rfl) rfl rfl <| WL_nil <| x_then <| C_seq <| C_seq <| R_nd <| nq (v := .pointer (some ⟨b169, 0, none⟩)) (Q_fld Tryd.underlying25 rfl ty22 (by decide) rfl rfl) rfl rfl <| nq (v := v1) (Q_ldB (k := 0) (cs := [v1]) H.ok rfl ty22 rfl rfl rfl (fun _ => rfl) rfl) rfl rfl <| nq (Q_len Tryd.underlying22 rfl r3) rfl rfl ?_
   refine nq (Q_move rfl) rfl rfl <| WL_nil <| x_then ?_
   obtain ⟨o226, ho226, hF⟩ := bnd hF
   refine C_cutQ (fun a w' => .inl () = o226 ∧ Fr 71 a [(1, .pointer (some ⟨b169, 0, none⟩)), (4, .func (.func 57) #[] [.pointer (some ⟨b171, 0, none⟩)].toArray)] ∧ Hp C w' ρ (Box b169 [v1, v4, v7] :: Box b171 [.int .i64 (x2.length : Int)] :: hs)) ?_ ?_
   ·refine C_block ?_
    replace H := H.f1
    replace H := H.f1
    refine C_iter (f := fun s => F_subset_Right_l0 N x2 s) ho226 (fun s a w' => ∃ (x242 : Int), x242 = s ∧ Fr 71 a [(1, .pointer (some ⟨b169, 0, none⟩)), (4, .func (.func 57) #[] [.pointer (some ⟨b171, 0, none⟩)].toArray), (38, v1), (39, .int .i64 (x2.length : Int)), (40, .int .i64 x242)] ∧ Hp C w' ρ (Box b169 [v1, v4, v7] :: Box b171 [.int .i64 (x2.length : Int)] :: hs)) ?_ ?_
    ·exact fun a hf => ⟨0, rfl, hf.sub ⟨rfl, rfl, rfl, rfl, rfl, trivial⟩, H⟩
    ·rintro s o258 a wd261 ⟨x242, rfl, hf, H⟩ hB259 hO260
     replace hB259 : F_subset_Right_l0 N x2 x242 = some o258 := hB259
     unfold F_subset_Right_l0 at hB259
     refine CW.at hf <| C_seq <| R_nd <| nq (Q_lss rfl rfl) rfl rfl <| WL_nil <| x_then <| C_seq ?_
     refine C_cond rfl (fun hb => ?_) (fun hb => ?_)
     ·replace hB259 := itT hb hB259
      refine C_skip <| x_then <| C_seq <| C_block <| C_seq <| R_nd ?_
      obtain ⟨x262, hx262, hB259⟩ := bnd hB259
      obtain ⟨b263, o264, c265, hc266, ha267, hi268⟩ := idxR r3 hx262
      refine nq (Q_idx hi268 Tryd.underlying22 ty58 rfl rfl) rfl rfl <| nq (v := .agg c265.toArray) (Q_ld (ha267.up H.ok.view) ty58 ((eA 256 (eI .i64)).len hc266) (fun h => nomatch h) rfl rfl) rfl rfl <| ne (E_allocA (N := 256) (n := 1) (zs := (repC 256 [.int .i64 0])) H ty58 rfl (by simp [repC_length])) rfl rfl ?_
      rintro _ wd270 ⟨b269, rfl, H⟩
      refine ne (E_stW (k := 0) H rfl ty58 rfl rfl (rdL.one hc266.2) (arr_clen (rdL_rep (e:=(eI .i64)) (ρ:=ρ) (rfl) 256) List.length_replicate) (arr_clen hc266.2 hc266.1)) rfl rfl ?_
      rintro _ wd271 H
      dsimp only [List.set] at H
      refine WL_nil <| x_then <| C_seq <| R_nd <| nq (v := (.slice (some ⟨b269, 0, none⟩) 256 256)) (Q_slA Tryd.underlying58 ty3 rfl) rfl rfl <| nq (Q_move rfl) rfl rfl ?_
      replace H := H.f2
      obtain ⟨q272, hq272, hB259⟩ := bnd hB259
      obtain ⟨C', ρ', hl273, HA, hL, hback⟩ := Hp.lend (A := [Box b171 [.int .i64 (x2.length : Int)]]) (L := [Arr (.slice (some ⟨b269, 0, none⟩) 256 256) 1 c265]) (F := Box b169 [v1, v4, v7] :: hs) H
      refine ne (E_call fn58 rfl (c_58 HA  (arr_rd (by decide) hl273 (hL (Arr (.slice (some ⟨b269, 0, none⟩) 256 256) 1 c265) (by simp)) hc266.2) hq272)) rfl rfl ?_
      rintro _ wd275 ⟨x274, rfl, rfl, H⟩
      try dsimp only at hB259
      replace H := hback H
      dsimp only [List.cons_append, List.nil_append] at H
      refine WL_nil <| x_then ?_
      refine C_cond rfl (fun hb => ?_) (fun hb => ?_)
      ·replace hB259 := itT hb hB259
       refine C_seq <| R_nd <| nq (Q_assign rfl) rfl rfl <| WL_nil <| x_then <| C_ret <| x_block_ret <| x_then_ret <| x_then_ret <| x_block_ret <| x_then_ret <| x_then_ret ?_
       replace H := H.drop 0 rfl
       dsimp only [List.eraseIdx] at H
       replace H := H.drop 0 rfl
       dsimp only [List.eraseIdx] at H
       replace H := H.drop 0 rfl
       dsimp only [List.eraseIdx] at H
       obtain rfl := Option.some.inj hB259
       obtain rfl := hO260 _ rfl
       obtain rfl := Option.some.inj (show some _ = some _ from hF)
       exact fn_ret (l := [.tmp 2]) (vs := [.bool false]) rfl rfl rfl ⟨false, rfl, rfl, H⟩
      ·replace hB259 := itF hb hB259
       refine C_skip <| x_block <| x_then <| R_nd <| nq (Q_add rfl rfl) rfl rfl <| nq (Q_move rfl) rfl rfl <| WL_nil ?_
       replace H := H.f2
       replace H := H.drop 2 rfl
       dsimp only [List.eraseIdx] at H
       obtain rfl := Option.some.inj hB259
       refine x_A fun a hf => ⟨_, rfl, w64 (x242 + 1), rfl, hf.sub ⟨rfl, rfl, rfl, rfl, rfl, trivial⟩, H⟩
     ·replace hB259 := itF hb hB259
      refine C_exit <| x_then_exit <| x_then_exit <| x_block_exit ?_
      replace H := H.f1
      replace H := H.f1
      obtain rfl := Option.some.inj hB259
      obtain rfl := hO260 _ rfl
      refine x_A fun a hf => ⟨rfl, hf.sub ⟨rfl, rfl, trivial⟩, H⟩
   ·rintro a wd276 ⟨rfl, hf, H⟩
    try dsimp only at hF
    refine XX.at hf <| x_then <| C_seq <| R_nd <| nq (Q_assign rfl) rfl rfl <| WL_nil <| x_then <| C_seq ?_
    obtain ⟨o286, ho286, hF⟩ := bnd hF
    refine C_cut (fun a w' => ∃ (x285 : Bool), x285 = o286 ∧ Fr 71 a [(1, .pointer (some ⟨b169, 0, none⟩)), (57, .bool x285)] ∧ Hp C w' ρ (Box b169 [v1, v4, v7] :: hs)) ?_ ?_
    ·refine R_nd <| nq (v := .pointer (some ⟨b169, 1, none⟩)) (Q_fld Tryd.underlying25 rfl ty23 (by decide) rfl rfl) rfl rfl <| nq (v := v4) (Q_ldB (k := 0) (cs := [v4]) H.ok rfl ty23 rfl rfl rfl (fun _ => rfl) rfl) rfl rfl <| nq (Q_move rfl) rfl rfl ?_
     obtain ⟨q287, hq287, ho286⟩ := bnd ho286
     refine ne (E_call fn58 rfl (c_58_1 H  r6 hq287)) rfl rfl ?_
     rintro _ wd290 ⟨x289, rfl, rfl, H⟩
     try dsimp only at ho286
     refine nq (Q_move rfl) rfl rfl ?_
     rcases Bool.eq_false_or_eq_true x289 with hb | hb
     ·rw [hb]
      replace ho286 := itT hb ho286
      refine gs rfl rfl rfl rfl <| gs rfl rfl rfl rfl <| gs rfl rfl rfl rfl <| gs rfl rfl rfl rfl <| nq (Q_pickT rfl rfl) rfl rfl <| WL_nil ?_
      replace H := H.drop 1 rfl
      dsimp only [List.eraseIdx] at H
      obtain rfl := Option.some.inj ho286
      refine x_A fun a hf => ⟨true, rfl, hf.sub ⟨rfl, rfl, trivial⟩, H⟩
     ·rw [hb]
      replace ho286 := itF hb ho286
      refine gq (v := .pointer (some ⟨b169, 2, none⟩)) (Q_fld Tryd.underlying25 rfl ty23 (by decide) rfl rfl) rfl rfl rfl <| gq (v := v7) (Q_ldB (k := 0) (cs := [v7]) H.ok rfl ty23 rfl rfl rfl (fun _ => rfl) rfl) rfl rfl rfl <| gq (Q_move rfl) rfl rfl rfl ?_
      replace H := H.f1
      obtain ⟨q291, hq291, ho286⟩ := bnd ho286
      refine ge (E_call fn58 rfl (c_58 H  r9 hq291)) rfl rfl rfl ?_
      rintro _ wd294 ⟨x293, rfl, rfl, H⟩
      try dsimp only at ho286
      refine nq (Q_pickF rfl rfl) rfl rfl <| WL_nil ?_
      replace H := H.f1
      replace H := H.drop 1 rfl
      dsimp only [List.eraseIdx] at H
      obtain rfl := Option.some.inj ho286
      refine x_A fun a hf => ⟨x293, rfl, hf.sub ⟨rfl, rfl, trivial⟩, H⟩
    ·rintro a wd295 ⟨x285, rfl, hf, H⟩
     try dsimp only at hF
     refine CW.at hf ?_
     refine C_cond rfl (fun hb => ?_) (fun hb => ?_)
     ·replace hF := itT hb hF
      refine C_seq <| R_nd <| nq (Q_assign rfl) rfl rfl <| WL_nil <| x_then <| C_ret <| x_then_ret ?_
      replace H := H.drop 0 rfl
      dsimp only [List.eraseIdx] at H
      obtain rfl := Option.some.inj hF
      exact fn_ret (l := [.tmp 2]) (vs := [.bool false]) rfl rfl rfl ⟨false, rfl, rfl, H⟩
     ·replace hF := itF hb hF
      refine C_skip <| x_then ?_
      obtain ⟨o311, ho311, hF⟩ := bnd hF
      refine C_cut (fun a w' => ∃ (x310 : Bool), x310 = o311 ∧ Fr 71 a [(2, .bool x310)] ∧ Hp C w' ρ (hs)) ?_ ?_
      ·refine R_nd <| nq (v := .pointer (some ⟨b169, 0, none⟩)) (Q_fld Tryd.underlying25 rfl ty22 (by decide) rfl rfl) rfl rfl <| nq (v := v1) (Q_ldB (k := 0) (cs := [v1]) H.ok rfl ty22 rfl rfl rfl (fun _ => rfl) rfl) rfl rfl ?_
       obtain ⟨x312, hx312, ho311⟩ := bnd ho311
       obtain ⟨b313, o314, c315, hc316, ha317, hi318⟩ := idxR r3 hx312
       refine nq (Q_idx hi318 Tryd.underlying22 ty58 rfl rfl) rfl rfl <| nq (v := .agg c315.toArray) (Q_ld (ha317.up H.ok.view) ty58 ((eA 256 (eI .i64)).len hc316) (fun h => nomatch h) rfl rfl) rfl rfl <| nq (v := .agg (repC 256 [.int .i64 0]).toArray) (Q_build0 (zs := (repC 256 [.int .i64 0])) ty58 Tryd.underlying58 ty3 rfl) rfl rfl <| nq (v := .bool (x312 == (List.replicate 256 0))) (Q_eqlA Tryd.underlying58 ty3 (by kernel_rfl) Tryd.underlying3 hc316.2 hc316.1 (rdL_rep (e:=(eI .i64)) (ρ:=ρ) (rfl) 256) List.length_replicate rfl rfl) rfl rfl <| nq (Q_move rfl) rfl rfl ?_
       rcases Bool.eq_false_or_eq_true (x312 == (List.replicate 256 0)) with hb | hb
       ·rw [hb]
        replace ho311 := itT hb ho311
        refine gq (v := .pointer (some ⟨b169, 1, none⟩)) (Q_fld Tryd.underlying25 rfl ty23 (by decide) rfl rfl) rfl rfl rfl <| gq (v := v4) (Q_ldB (k := 0) (cs := [v4]) H.ok rfl ty23 rfl rfl rfl (fun _ => rfl) rfl) rfl rfl rfl ?_
        obtain ⟨x319, hx319, ho311⟩ := bnd ho311
        obtain ⟨b320, o321, c322, hc323, ha324, hi325⟩ := idxR r6 hx319
        refine gq (Q_idx hi325 Tryd.underlying23 ty3 rfl rfl) rfl rfl rfl <| gq (v := .int .i64 x319) (Q_ld (show cellsAt _ _ _ [.int .i64 x319] from (show _ = [_] from hc323) ▸ (ha324.up H.ok.view)) ty3 rfl (fun _ => rfl) rfl rfl) rfl rfl rfl <| gq (Q_eql rfl rfl) rfl rfl rfl <| nq (Q_pickT rfl rfl) rfl rfl <| nq (Q_assign rfl) rfl rfl <| WL_nil ?_
        replace H := H.drop 0 rfl
        dsimp only [List.eraseIdx] at H
        obtain rfl := Option.some.inj ho311
        refine x_A fun a hf => ⟨x319 == (-1), rfl, hf.sub ⟨rfl, trivial⟩, H⟩
       ·rw [hb]
        replace ho311 := itF hb ho311
        refine gs rfl rfl rfl rfl <| gs rfl rfl rfl rfl <| gs rfl rfl rfl rfl <| gs rfl rfl rfl rfl <| gs rfl rfl rfl rfl <| nq (Q_pickF rfl rfl) rfl rfl <| nq (Q_assign rfl) rfl rfl <| WL_nil ?_
        replace H := H.drop 0 rfl
        dsimp only [List.eraseIdx] at H
        obtain rfl := Option.some.inj ho311
        refine x_A fun a hf => ⟨false, rfl, hf.sub ⟨rfl, trivial⟩, H⟩
      ·rintro a wd326 ⟨x310, rfl, hf, H⟩
       try dsimp only at hF
       refine CW.at hf <| C_ret ?_
       obtain rfl := Option.some.inj hF
       exact fn_ret (l := [.tmp 2]) (vs := [.bool x310]) rfl rfl rfl ⟨x310, rfl, rfl, H⟩
theorem c_51 {N : Nat} {C : Cx} {w : World} {ρ : View} {hs : List Hl} {x1 : Int} (H : Hp C w ρ (hs)) {ge0 : Value} (gl0 : GErr ρ 0 ge0) {r : (Unit ⊕ (List Int))} (hF : F_marks_New N x1 = some r) :
  Calls Tryd.prog 51 [.int .i64 x1].toArray w (Rets (fun v w' => (.inl () = r ∧ .tuple [.pointer none, ge0].toArray = v ∧ Hp C w' ρ (hs)) ∨ (∃ (b11 : Nat) (v12 : Value) (c13 : (List Value)) (x14 : (List Int)), .inr x14 = r ∧ .tuple [.pointer (some ⟨b11, 0, none⟩), .nilIface].toArray = v ∧ rdL (eI .u64) ρ x14 c13 ∧ Hp C w' ρ (Box b11 [v12, .int .i64 x1] :: Arr v12 1 c13 :: hs)))) := by
 unfold F_marks_New at hF
 have h0 : Tryd.f51.body = some _ := rfl
 refine fn_calls' Tryd.func51 h0 (n := 19) rfl (by simp) <| C_seq <| R_nd <| nq (Q_assign rfl) rfl rfl <| nq (Q_assign rfl) rfl rfl <| WL_nil <| x_then <| C_seq ?_
 obtain ⟨o17, ho17, hF⟩ := bnd hF
 refine C_cut (fun a w' => ∃ (x16 : Bool), x16 = o17 ∧ Fr 19 a [(0, .int .i64 x1), (9, .bool x16)] ∧ Hp C w' ρ (hs)) ?_ ?_
 ·refine R_nd <| nq (Q_move rfl) rfl rfl <| nq (Q_lss rfl rfl) rfl rfl <| nq (Q_move rfl) rfl rfl ?_
  rcases Bool.eq_false_or_eq_true (decide (x1 < 0)) with hb | hb
  ·rw [hb]
   replace ho17 := itT hb ho17
   refine gs rfl rfl rfl rfl <| gs rfl rfl rfl rfl <| nq (Q_pickT rfl rfl) rfl rfl <| WL_nil ?_
   obtain rfl := Option.some.inj ho17
   refine x_A fun a hf => ⟨true, rfl, hf.sub ⟨rfl, rfl, trivial⟩, H⟩
  ·rw [hb]
   replace ho17 := itF hb ho17
   refine gq (Q_move rfl) rfl rfl rfl <| gq (Q_gtr rfl rfl) rfl rfl rfl <| nq (Q_pickF rfl rfl) rfl rfl <| WL_nil ?_
   obtain rfl := Option.some.inj ho17
   refine x_A fun a hf => ⟨decide (x1 > 65536), rfl, hf.sub ⟨rfl, rfl, trivial⟩, H⟩
 ·rintro a wd18 ⟨x16, rfl, hf, H⟩
  try dsimp only at hF
  refine CW.at hf ?_
  refine C_cond rfl (fun hb => ?_) (fun hb => ?_)
  ·replace hF := itT hb hF
   refine C_seq <| R_dr (.take 0 (.take 1 (.take 2 .done))) (fun w' => Ok w' ρ []) (by kernel_rfl) (by kernel_rfl) (by kernel_rfl) (H.drew.okS (by simp)) ?_
   replace H := H.drew
   refine dq rfl (fun _ hw => Q_ldG hw gl0 ty63) rfl rfl <| dq rfl (fun _ _ => Q_assign rfl) rfl rfl <| dq rfl (fun _ _ => Q_assign rfl) rfl rfl <| DL_nil <| x_then <| C_ret <| x_then_ret ?_
   obtain rfl := Option.some.inj hF
   exact fn_ret (l := [.tmp 2, .tmp 3]) (vs := [.pointer none, ge0]) rfl rfl rfl (.inl ⟨rfl, rfl, H⟩)
  ·replace hF := itF hb hF
   refine C_skip <| x_then <| C_seq <| R_nd <| nq (Q_move rfl) rfl rfl <| nq (Q_add rfl rfl) rfl rfl <| nq (Q_sub rfl rfl) rfl rfl <| nq (Q_quo rfl rfl (by decide)) rfl rfl ?_
   obtain ⟨x19, hx19, hF⟩ := bnd hF
   obtain ⟨hm21a, hm21b, hm21c⟩ := mk_some hx19
   refine ne (E_make H Tryd.underlying92 ty95 (zs := [.int .u64 0]) rfl rfl (by decide) (by decide) rfl hm21a hm21b) rfl rfl ?_
   rintro _ wd22 ⟨b20, rfl, H⟩
   refine nq (Q_move rfl) rfl rfl <| nq (v := .agg #[(.slice (some ⟨b20, 0, none⟩) (w64 ((w64 ((w64 (x1 + 64)) - 1)).tdiv 64)).toNat (w64 ((w64 ((w64 (x1 + 64)) - 1)).tdiv 64)).toNat), .int .i64 x1]) (Q_buildS st94.choose_spec (ps := [(0, [(.slice (some ⟨b20, 0, none⟩) (w64 ((w64 ((w64 (x1 + 64)) - 1)).tdiv 64)).toNat (w64 ((w64 ((w64 (x1 + 64)) - 1)).tdiv 64)).toNat)]), (1, [.int .i64 x1])]) rfl ⟨rfl, (arr_cells (H.ok.get (k := 0) rfl)).1, by simp, ⟨rfl, rfl, by simp, trivial⟩⟩ rfl) rfl rfl <| ne (E_box H (vs := [(.slice (some ⟨b20, 0, none⟩) (w64 ((w64 ((w64 (x1 + 64)) - 1)).tdiv 64)).toNat (w64 ((w64 ((w64 (x1 + 64)) - 1)).tdiv 64)).toNat), .int .i64 x1]) rfl rfl) rfl rfl ?_
   rintro _ wd24 ⟨b23, rfl, H⟩
   refine nq (Q_assign rfl) rfl rfl <| nq (Q_assign rfl) rfl rfl <| WL_nil <| x_then <| C_ret ?_
   replace H := H.f1
   replace H := H.f1
   obtain rfl := Option.some.inj hF
   exact fn_ret (l := [.tmp 2, .tmp 3]) (vs := [.pointer (some ⟨b23, 0, none⟩), .nilIface]) rfl rfl rfl (.inr ⟨b23, (.slice (some ⟨b20, 0, none⟩) (w64 ((w64 ((w64 (x1 + 64)) - 1)).tdiv 64)).toNat (w64 ((w64 ((w64 (x1 + 64)) - 1)).tdiv 64)).toNat), (repC (w64 ((w64 ((w64 (x1 + 64)) - 1)).tdiv 64)).toNat [.int .u64 0]), x19, rfl, rfl, (hm21c ▸ rdL_rep (e := (eI .u64)) (ρ := ρ) (rfl) _), H⟩)
theorem c_87 {N : Nat} {C : Cx} {w : World} {ρ : View} {hs : List Hl} {b1 : Nat} {c2 : List Value} {v5 : Value} {x3 : (List Int)} {x6 : Int} (H : Hp C w ρ (Box b1 [v5, .int .i64 x6] :: Arr v5 1 c2 :: hs)) (_r4 : rdL (eI .u64) ρ x3 c2) {r : Unit} (hF : F_marks_Marks_Size N x3 x6 = some r) :
  Calls Tryd.prog 87 [.pointer (some ⟨b1, 0, none⟩)].toArray w (Rets (fun v w' => (() = r ∧ .int .i64 x6 = v ∧ Hp C w' ρ (Box b1 [v5, .int .i64 x6] :: Arr v5 1 c2 :: hs)))) := by
 unfold F_marks_Marks_Size at hF
 have h0 : Tryd.f87.body = some _ := rfl
 refine fn_calls' Tryd.func87 h0 (n := 9) rfl (by simp) <| C_seq <| R_nd <| nq (Q_assign rfl) rfl rfl <| WL_nil <| x_then <| C_seq <| C_seq <| R_nd <| nq (Q_move rfl) rfl rfl <| nq (v := .bool false) (Q_eqlP (o := (some ⟨b1, 0, none⟩)) Tryd.underlying61 rfl) rfl rfl <| WL_nil <| x_then ?_
 refine C_cond rfl (fun h => nomatch h) (fun _ => ?_)
 refine C_skip <| x_then <| C_seq <| R_nd <| nq (Q_move rfl) rfl rfl <| nq (Q_nilP rfl) rfl rfl <| nq (v := .pointer (some ⟨b1, 1, none⟩)) (Q_fld Tryd.underlying94 rfl ty3 (by decide) rfl rfl) rfl rfl <| nq (v := .int .i64 x6) (Q_ldB (k := 0) (cs := [.int .i64 x6]) H.ok rfl ty3 rfl rfl rfl (fun _ => rfl) rfl) rfl rfl <| nq (Q_assign rfl) rfl rfl <| WL_nil <| x_then <| C_ret ?_
 replace H := H.f1
 replace H := H.f1
 obtain rfl := Option.some.inj hF
 exact fn_ret (l := [.tmp 2]) (vs := [.int .i64 x6]) rfl rfl rfl ⟨rfl, rfl, H⟩
theorem c_76 {N : Nat} {C : Cx} {w : World} {ρ : View} {hs : List Hl} {b1 : Nat} {c2 : List Value} {v5 : Value} {x3 : (List Int)} {x6 : Int} {x7 : Int} (H : Hp C w ρ (Box b1 [v5, .int .i64 x6] :: Arr v5 1 c2 :: hs)) (r4 : rdL (eI .u64) ρ x3 c2) {r : (Int × Int × Bool)} (hF : F_marks_Marks_at N x3 x6 x7 = some r) :
  Calls Tryd.prog 76 [.pointer (some ⟨b1, 0, none⟩), .int .i64 x7].toArray w (Rets (fun v w' => (∃ (x21 : Int) (x22 : Int) (x23 : Bool), (x21, x22, x23) = r ∧ .tuple [.int .i64 x21, .int .u64 x22, .bool x23].toArray = v ∧ Hp C w' ρ (Box b1 [v5, .int .i64 x6] :: Arr v5 1 c2 :: hs)))) := by
 unfold F_marks_Marks_at at hF
 have h0 : Tryd.f76.body = some _ := rfl
 refine fn_calls' Tryd.func76 h0 (n := 21) rfl (by simp) <| C_seq <| R_nd <| nq (Q_assign rfl) rfl rfl <| nq (Q_assign rfl) rfl rfl <| nq (Q_assign rfl) rfl rfl <| WL_nil <| x_then ?_
 obtain ⟨o31, ho31, hF⟩ := bnd hF
 refine C_cut (fun a w' => ∃ (x28 : Int) (x29 : Int) (x30 : Bool), (x28, x29, x30) = o31 ∧ Fr 21 a [(4, .int .i64 x28), (5, .int .u64 x29), (6, .bool x30)] ∧ Hp C w' ρ (Box b1 [v5, .int .i64 x6] :: Arr v5 1 c2 :: hs)) ?_ ?_
 ·refine R_nd <| nq (Q_move rfl) rfl rfl <| nq (Q_quo rfl rfl (by decide)) rfl rfl <| nq (Q_move rfl) rfl rfl <| nq (Q_cvI ⟨_, Tryd.underlying3⟩ Tryd.underlying59 rfl) rfl rfl <| nq (Q_rem rfl rfl (by decide)) rfl rfl ?_
  obtain ⟨x32, hx32, ho31⟩ := bnd ho31
  refine nq (Q_shl rfl rfl (nn_some hx32)) rfl rfl <| nq (Q_move rfl) rfl rfl <| nq (Q_geq rfl rfl) rfl rfl <| nq (Q_move rfl) rfl rfl ?_
  rcases Bool.eq_false_or_eq_true (decide (x7 ≥ 0)) with hb | hb
  ·rw [hb]
   replace ho31 := itT hb ho31
   refine gq (Q_move rfl) rfl rfl rfl <| gq (Q_move rfl) rfl rfl rfl ?_
   replace H := H.f1
   replace H := H.f1
   obtain ⟨q33, hq33, ho31⟩ := bnd ho31
   refine ge (E_call fn87 rfl (c_87 H  r4 hq33)) rfl rfl rfl ?_
   rintro _ wd35 ⟨rfl, rfl, H⟩
   try dsimp only at ho31
   refine gq (Q_lss rfl rfl) rfl rfl rfl <| nq (Q_pickT rfl rfl) rfl rfl <| nq (Q_assign rfl) rfl rfl <| nq (Q_assign rfl) rfl rfl <| nq (Q_assign rfl) rfl rfl <| WL_nil ?_
   replace H := H.f1
   replace H := H.f1
   obtain rfl := Option.some.inj ho31
   refine x_A fun a hf => ⟨w64 (x7.tdiv 64), shlI .u64 1 ((IntKind.wrap .u64 x7).tmod 64), decide (x7 < x6), rfl, hf.sub ⟨rfl, rfl, rfl, trivial⟩, H⟩
  ·rw [hb]
   replace ho31 := itF hb ho31
   refine gs rfl rfl rfl rfl <| gs rfl rfl rfl rfl <| gs rfl rfl rfl rfl <| gs rfl rfl rfl rfl <| nq (Q_pickF rfl rfl) rfl rfl <| nq (Q_assign rfl) rfl rfl <| nq (Q_assign rfl) rfl rfl <| nq (Q_assign rfl) rfl rfl <| WL_nil ?_
   replace H := H.f1
   replace H := H.f1
   obtain rfl := Option.some.inj ho31
   refine x_A fun a hf => ⟨w64 (x7.tdiv 64), shlI .u64 1 ((IntKind.wrap .u64 x7).tmod 64), false, rfl, hf.sub ⟨rfl, rfl, rfl, trivial⟩, H⟩
 ·rintro a wd36 ⟨x28, x29, x30, rfl, hf, H⟩
  try dsimp only at hF
  refine CW.at hf <| C_ret ?_
  replace H := H.f1
  replace H := H.f1
  obtain rfl := Option.some.inj hF
  exact fn_ret (l := [.tmp 4, .tmp 5, .tmp 6]) (vs := [.int .i64 x28, .int .u64 x29, .bool x30]) rfl rfl rfl ⟨x28, x29, x30, rfl, rfl, H⟩
theorem c_52 {N : Nat} {C : Cx} {w : World} {ρ : View} {hs : List Hl} {b1 : Nat} {c2 : List Value} {v5 : Value} {x3 : (List Int)} {x6 : Int} {x7 : Int} (H : Hp C w ρ (Box b1 [v5, .int .i64 x6] :: Arr v5 1 c2 :: hs)) (r4 : rdL (eI .u64) ρ x3 c2) {r : ((List Int) × Bool)} (hF : F_marks_Marks_Put N x3 x6 x7 = some r) :
  Calls Tryd.prog 52 [.pointer (some ⟨b1, 0, none⟩), .int .i64 x7].toArray w (Rets (fun v w' => (∃ (c49 : (List Value)) (x50 : (List Int)) (x52 : Bool), (x50, x52) = r ∧ .bool x52 = v ∧ rdL (eI .u64) ρ x50 c49 ∧ Hp C w' ρ (Box b1 [v5, .int .i64 x6] :: Arr v5 1 c49 :: hs)))) := by
 unfold F_marks_Marks_Put at hF
 have h0 : Tryd.f52.body = some _ := rfl
 refine fn_calls' Tryd.func52 h0 (n := 39) rfl (by simp) <| C_seq <| R_nd <| nq (Q_assign rfl) rfl rfl <| WL_nil <| x_then <| C_seq <| R_nd <| nq (Q_move rfl) rfl rfl <| nq (Q_move rfl) rfl rfl ?_
 replace H := H.f1
 replace H := H.f1
 obtain ⟨q53, hq53, hF⟩ := bnd hF
 refine ne (E_call fn76 rfl (c_76 H  r4 hq53)) rfl rfl ?_
 rintro _ wd58 ⟨x55, x56, x57, rfl, rfl, H⟩
 try dsimp only at hF
 refine nq (Q_move rfl) rfl rfl <| nq (Q_extract rfl rfl) rfl rfl <| nq (Q_extract rfl rfl) rfl rfl <| nq (Q_extract rfl rfl) rfl rfl <| nq (Q_assign rfl) rfl rfl <| nq (Q_assign rfl) rfl rfl <| nq (Q_assign rfl) rfl rfl <| WL_nil <| x_then <| C_seq ?_
 obtain ⟨o67, ho67, hF⟩ := bnd hF
 refine C_cut (fun a w' => ∃ (x66 : Bool), x66 = o67 ∧ Fr 39 a [(0, .pointer (some ⟨b1, 0, none⟩)), (5, .int .i64 x55), (6, .int .u64 x56), (28, .bool x66)] ∧ Hp C w' ρ (Box b1 [v5, .int .i64 x6] :: Arr v5 1 c2 :: hs)) ?_ ?_
 ·refine R_nd <| nq (Q_move rfl) rfl rfl <| nq (Q_not rfl) rfl rfl <| nq (Q_move rfl) rfl rfl ?_
  rcases Bool.eq_false_or_eq_true (!x57) with hb | hb
  ·rw [hb]
   replace ho67 := itT hb ho67
   refine gs rfl rfl rfl rfl <| gs rfl rfl rfl rfl <| gs rfl rfl rfl rfl <| gs rfl rfl rfl rfl <| gs rfl rfl rfl rfl <| gs rfl rfl rfl rfl <| gs rfl rfl rfl rfl <| gs rfl rfl rfl rfl <| gs rfl rfl rfl rfl <| gs rfl rfl rfl rfl <| nq (Q_pickT rfl rfl) rfl rfl <| WL_nil ?_
   replace H := H.f1
   replace H := H.f1
   obtain rfl := Option.some.inj ho67
   refine x_A fun a hf => ⟨true, rfl, hf.sub ⟨rfl, rfl, rfl, rfl, trivial⟩, H⟩
  ·rw [hb]
   replace ho67 := itF hb ho67
   refine gq (Q_move rfl) rfl rfl rfl <| gq (Q_nilP rfl) rfl rfl rfl <| gq (v := .pointer (some ⟨b1, 0, none⟩)) (Q_fld Tryd.underlying94 rfl ty92 (by decide) rfl rfl) rfl rfl rfl <| gq (v := v5) (Q_ldB (k := 0) (cs := [v5]) H.ok rfl ty92 rfl rfl rfl (fun _ => rfl) rfl) rfl rfl rfl <| gq (Q_move rfl) rfl rfl rfl ?_
   obtain ⟨x68, hx68, ho67⟩ := bnd ho67
   obtain ⟨b69, o70, hi74, hc72, ha73⟩ := arr_at (hs := [Arr v5 1 c2]) (k := 0) (by decide) (H.okS (by simp)) rfl r4 hx68
   refine gq (Q_idx hi74 Tryd.underlying92 ty95 rfl rfl) rfl rfl rfl <| gq (v := .int .u64 x68) (Q_ld (show cellsAt _ _ _ [.int .u64 x68] from (show _ = [_] from hc72) ▸ (ha73 _ (Ok.subS (by simp) H.ok))) ty95 rfl (fun _ => rfl) rfl rfl) rfl rfl rfl <| gq (Q_move rfl) rfl rfl rfl <| gq (Q_and rfl rfl) rfl rfl rfl <| gq (Q_neq rfl rfl) rfl rfl rfl <| nq (Q_pickF rfl rfl) rfl rfl <| WL_nil ?_
   replace H := H.f1
   replace H := H.f1
   obtain rfl := Option.some.inj ho67
   refine x_A fun a hf => ⟨(iand .u64 x68 x56) != 0, rfl, hf.sub ⟨rfl, rfl, rfl, rfl, trivial⟩, H⟩
 ·rintro a wd75 ⟨x66, rfl, hf, H⟩
  try dsimp only at hF
  refine CW.at hf ?_
  refine C_cond rfl (fun hb => ?_) (fun hb => ?_)
  ·replace hF := itT hb hF
   refine C_seq <| R_nd <| nq (Q_assign rfl) rfl rfl <| WL_nil <| x_then <| C_ret <| x_then_ret ?_
   replace H := H.f1
   replace H := H.f1
   obtain rfl := Option.some.inj hF
   exact fn_ret (l := [.tmp 4]) (vs := [.bool false]) rfl rfl rfl ⟨c2, x3, false, rfl, rfl, r4, H⟩
  ·replace hF := itF hb hF
   refine C_skip <| x_then <| C_seq <| R_nd <| nq (Q_move rfl) rfl rfl <| nq (Q_nilP rfl) rfl rfl <| nq (v := .pointer (some ⟨b1, 0, none⟩)) (Q_fld Tryd.underlying94 rfl ty92 (by decide) rfl rfl) rfl rfl <| nq (v := v5) (Q_ldB (k := 0) (cs := [v5]) H.ok rfl ty92 rfl rfl rfl (fun _ => rfl) rfl) rfl rfl <| nq (Q_move rfl) rfl rfl ?_
   obtain ⟨x76, hx76, hF⟩ := bnd hF
   obtain ⟨b77, o78, hi82, hc80, ha81⟩ := arr_at (hs := [Arr v5 1 c2]) (k := 0) (by decide) (H.okS (by simp)) rfl r4 hx76
   refine nq (Q_idx hi82 Tryd.underlying92 ty95 rfl rfl) rfl rfl <| nq (v := .int .u64 x76) (Q_ld (show cellsAt _ _ _ [.int .u64 x76] from (show _ = [_] from hc80) ▸ (ha81 _ (Ok.subS (by simp) H.ok))) ty95 rfl (fun _ => rfl) rfl rfl) rfl rfl <| nq (Q_move rfl) rfl rfl <| nq (Q_or rfl rfl) rfl rfl ?_
   obtain ⟨x83, hx83, hF⟩ := bnd hF
   obtain ⟨b84, o85, hi89, hc87, ha88⟩ := arr_at (hs := [Arr v5 1 c2]) (k := 0) (by decide) (H.okS (by simp)) rfl r4 hx83
   refine nq (Q_idx hi89 Tryd.underlying92 ty95 rfl rfl) rfl rfl ?_
   obtain ⟨x90, hx90, hF⟩ := bnd hF
   obtain ⟨hs91a, hs91b, hs91c⟩ := setI_some hx90
   have r92 : rdL (eI .u64) ρ x90 (setC c2 (x55.toNat * 1 + 0) [.int .u64 (ior .u64 x76 x56)]) := hs91c ▸ rdL.set r4 hs91b (rfl)
   refine ne (E_stA (k := 1) (j := 0) (c := [.int .u64 (ior .u64 x76 x56)]) H rfl ty95 hi89 rfl rfl rfl rfl (one_cons rfl one_nil) (by decide)) rfl rfl ?_
   rintro _ wd93 H
   dsimp only [List.set] at H
   refine WL_nil <| x_then <| C_seq <| R_nd <| nq (Q_assign rfl) rfl rfl <| WL_nil <| x_then <| C_ret ?_
   replace H := H.f1
   replace H := H.f1
   obtain rfl := Option.some.inj hF
   exact fn_ret (l := [.tmp 4]) (vs := [.bool true]) rfl rfl rfl ⟨(setC c2 (x55.toNat * 1 + 0) [.int .u64 (ior .u64 x76 x56)]), x90, true, rfl, rfl, r92, H⟩
theorem c_75 {N : Nat} {C : Cx} {w : World} {ρ : View} {hs : List Hl} {v1 : Value} {b4 : Nat} {b5 : Nat} {c6 : List Value} {v9 : Value} {b11 : Nat} {c12 : List Value} {v15 : Value} {x2 : (List Int)} {x7 : (List Int)} {x10 : Int} {x13 : (List Int)} (H : Hp C w ρ (Box b4 [.pointer (some ⟨b5, 0, none⟩)] :: Box b5 [v9, .int .i64 x10] :: Arr v9 1 c6 :: Box b11 [v15] :: Arr v15 1 c12 :: hs)) (r3 : RdSl ρ (eI .i64) v1 x2) (r8 : rdL (eI .u64) ρ x7 c6) (r14 : rdL (eI .i64) ρ x13 c12) {r : ((List Int) × (List Int))} (hF : F_canon_order_1 N x2 x7 x10 x13 = some r) :
  Calls Tryd.prog 75 [v1, .pointer (some ⟨b4, 0, none⟩), .pointer (some ⟨b11, 0, none⟩)].toArray w (Rets (fun v w' => (∃ (c591 : (List Value)) (v594 : Value) (c595 : (List Value)) (x592 : (List Int)) (x596 : (List Int)), (x592, x596) = r ∧ .tuple [].toArray = v ∧ rdL (eI .u64) ρ x592 c591 ∧ rdL (eI .i64) ρ x596 c595 ∧ Hp C w' ρ (Box b4 [.pointer (some ⟨b5, 0, none⟩)] :: Box b5 [v9, .int .i64 x10] :: Arr v9 1 c591 :: Box b11 [v594] :: Arr v594 1 c595 :: hs)))) := by
 unfold F_canon_order_1 at hF
 have h0 : Tryd.f75.body = some _ := rfl
 refine fn_calls' Tryd.func75 h0 (n := 20) rfl (by simp) <| C_seq <| R_nd <| nq (Q_move rfl) rfl rfl <| nq (Q_len Tryd.underlying23 rfl r3) rfl rfl <| nq (Q_move rfl) rfl rfl <| WL_nil <| x_then ?_
 obtain ⟨o888, ho888, hF⟩ := bnd hF
 refine C_cutQ (fun a w' => ∃ (c881 : (List Value)) (v884 : Value) (c885 : (List Value)) (x882 : (List Int)) (x886 : (List Int)), (x882, x886) = o888 ∧ rdL (eI .u64) ρ x882 c881 ∧ rdL (eI .i64) ρ x886 c885 ∧ Fr 20 a [] ∧ Hp C w' ρ (Box b4 [.pointer (some ⟨b5, 0, none⟩)] :: Box b5 [v9, .int .i64 x10] :: Arr v9 1 c881 :: Box b11 [v884] :: Arr v884 1 c885 :: hs)) ?_ ?_
 ·refine C_block ?_
  replace H := H.f4
  replace H := H.f4
  replace H := H.f4
  replace H := H.f4
  replace H := H.f4
  refine C_iter (f := fun s => F_canon_order_1_l0 N x2 x10 s.1 s.2.1 s.2.2) ho888 (fun s a w' => ∃ (c982 : (List Value)) (v985 : Value) (c986 : (List Value)) (x983 : (List Int)) (x987 : (List Int)) (x989 : Int), (x983, x987, x989) = s ∧ rdL (eI .u64) ρ x983 c982 ∧ rdL (eI .i64) ρ x987 c986 ∧ Fr 20 a [(1, .pointer (some ⟨b4, 0, none⟩)), (2, .pointer (some ⟨b11, 0, none⟩)), (6, v1), (7, .int .i64 (x2.length : Int)), (8, .int .i64 x989)] ∧ Hp C w' ρ (Box b4 [.pointer (some ⟨b5, 0, none⟩)] :: Box b5 [v9, .int .i64 x10] :: Arr v9 1 c982 :: Box b11 [v985] :: Arr v985 1 c986 :: hs)) ?_ ?_
  ·exact fun a hf => ⟨c6, v15, c12, x7, x13, 0, rfl, r8, r14, hf.sub ⟨rfl, rfl, rfl, rfl, rfl, trivial⟩, H⟩
  ·rintro s o1083 a wd1086 ⟨c982, v985, c986, x983, x987, x989, rfl, r984, r988, hf, H⟩ hB1084 hO1085
   replace hB1084 : F_canon_order_1_l0 N x2 x10 x983 x987 x989 = some o1083 := hB1084
   unfold F_canon_order_1_l0 at hB1084
   refine CW.at hf <| C_seq <| R_nd <| nq (Q_lss rfl rfl) rfl rfl <| WL_nil <| x_then <| C_seq ?_
   refine C_cond rfl (fun hb => ?_) (fun hb => ?_)
   ·replace hB1084 := itT hb hB1084
    refine C_skip <| x_then ?_
    obtain ⟨o1132, ho1132, hB1084⟩ := bnd hB1084
    refine C_cut (fun a w' => ∃ (c1125 : (List Value)) (v1128 : Value) (c1129 : (List Value)) (x1126 : (List Int)) (x1130 : (List Int)), (x1126, x1130) = o1132 ∧ rdL (eI .u64) ρ x1126 c1125 ∧ rdL (eI .i64) ρ x1130 c1129 ∧ Fr 20 a [(1, .pointer (some ⟨b4, 0, none⟩)), (2, .pointer (some ⟨b11, 0, none⟩)), (6, v1), (7, .int .i64 (x2.length : Int)), (8, .int .i64 x989)] ∧ Hp C w' ρ (Box b4 [.pointer (some ⟨b5, 0, none⟩)] :: Box b5 [v9, .int .i64 x10] :: Arr v9 1 c1125 :: Box b11 [v1128] :: Arr v1128 1 c1129 :: hs)) ?_ ?_
    ·refine C_block <| C_seq <| R_nd ?_
     obtain ⟨x1133, hx1133, ho1132⟩ := bnd ho1132
     obtain ⟨b1134, o1135, c1136, hc1137, ha1138, hi1139⟩ := idxR r3 hx1133
     refine nq (Q_idx hi1139 Tryd.underlying23 ty3 rfl rfl) rfl rfl <| nq (v := .int .i64 x1133) (Q_ld (show cellsAt _ _ _ [.int .i64 x1133] from (show _ = [_] from hc1137) ▸ (ha1138.up H.ok.view)) ty3 rfl (fun _ => rfl) rfl rfl) rfl rfl <| nq (Q_assign rfl) rfl rfl <| WL_nil <| x_then <| C_seq <| R_nd <| nq (v := .pointer (some ⟨b5, 0, none⟩)) (Q_ldB (k := 0) (cs := [.pointer (some ⟨b5, 0, none⟩)]) H.ok rfl ty61 rfl rfl rfl (fun _ => rfl) rfl) rfl rfl <| nq (Q_move rfl) rfl rfl ?_
     replace H := H.f2
     replace H := H.f2
     obtain ⟨q1140, hq1140, ho1132⟩ := bnd ho1132
     refine ne (E_call fn52 rfl (c_52 H  r984 hq1140)) rfl rfl ?_
     rintro _ wd1146 ⟨c1142, x1143, x1144, rfl, rfl, r1145, H⟩
     try dsimp only at ho1132
     refine WL_nil <| x_then ?_
     obtain ⟨o1160, ho1160, ho1132⟩ := bnd ho1132
     refine C_cutQ (fun a w' => ∃ (v1156 : Value) (c1157 : (List Value)) (x1158 : (List Int)), x1158 = o1160 ∧ rdL (eI .i64) ρ x1158 c1157 ∧ Fr 20 a [(1, .pointer (some ⟨b4, 0, none⟩)), (2, .pointer (some ⟨b11, 0, none⟩)), (6, v1), (7, .int .i64 (x2.length : Int)), (8, .int .i64 x989)] ∧ Hp C w' ρ (Box b4 [.pointer (some ⟨b5, 0, none⟩)] :: Box b5 [v9, .int .i64 x10] :: Arr v9 1 c1142 :: Box b11 [v1156] :: Arr v1156 1 c1157 :: hs)) ?_ ?_
     ·refine C_cond rfl (fun hb => ?_) (fun hb => ?_)
      ·replace ho1160 := itT hb ho1160
       refine R_nd <| nq (v := v985) (Q_ldB (k := 3) (cs := [v985]) H.ok rfl ty23 rfl rfl rfl (fun _ => rfl) rfl) rfl rfl <| nq (Q_move rfl) rfl rfl <| ne (E_bslice (xs := [.tmp 16]) (vs := [.int .i64 x1133]) H Tryd.underlying23 ty3 (by decide) (cs := [.int .i64 x1133]) rfl (sz_cons rfl sz_nil) rfl (by simp) (by simp) rfl rfl) rfl rfl ?_
       rintro _ wd1162 ⟨b1161, rfl, H⟩
       obtain ⟨x1163, hx1163, ho1160⟩ := bnd ho1160
       obtain ⟨ha1164a, ha1164b⟩ := app_some hx1163
       have r1166 : rdL (eI .i64) ρ x1163 (c986 ++ ([.int .i64 x1133])) := ha1164b ▸ rdL.app r988 (show rdL (eI .i64) ρ ([x1133]) ([.int .i64 x1133]) from ⟨([.int .i64 x1133]), _, rfl, rfl, rdL.nil⟩)
       refine ne (E_append (k := 5) H rfl Tryd.underlying23 ty3 rfl (by decide) (by decide) rfl rfl (Src.ofArr (k := 0) H.ok rfl) (rdL.one (show rdL (eI .i64) ρ ([x1133]) ([.int .i64 x1133]) from ⟨([.int .i64 x1133]), _, rfl, rfl, rdL.nil⟩)) (app_fit r988 (show rdL (eI .i64) ρ ([x1133]) ([.int .i64 x1133]) from ⟨([.int .i64 x1133]), _, rfl, rfl, rdL.nil⟩) ha1164a)) rfl rfl ?_
       rintro v1165 wd1168 ⟨H, hc1167⟩
       dsimp only [List.set] at H
       refine ne (E_stB (k := 4) (cs := [v1165]) (vs' := [v1165]) H rfl ty23 rfl rfl (arr_cells (H.ok.get (k := 5) rfl)).1 rfl (one_cons (arr_cells (H.ok.get (k := 5) rfl)).2 one_nil) (by simp) rfl) rfl rfl ?_
       rintro _ wd1169 H
       dsimp only [List.set] at H
       refine WL_nil ?_
       replace H := H.f5
       replace H := H.f5
       replace H := H.f4
       replace H := H.f4
       replace H := H.f5
       replace H := H.drop 5 rfl
       dsimp only [List.eraseIdx] at H
       obtain rfl := Option.some.inj ho1160
       refine x_A fun a hf => ⟨v1165, (c986 ++ ([.int .i64 x1133])), x1163, rfl, r1166, hf.sub ⟨rfl, rfl, rfl, rfl, rfl, trivial⟩, H⟩
      ·replace ho1160 := itF hb ho1160
       refine C_skip ?_
       replace H := H.f4
       replace H := H.f4
       replace H := H.f3
       replace H := H.f3
       replace H := H.f4
       obtain rfl := Option.some.inj ho1160
       refine x_A fun a hf => ⟨v985, c986, x987, rfl, r988, hf.sub ⟨rfl, rfl, rfl, rfl, rfl, trivial⟩, H⟩
     ·rintro a wd1170 ⟨v1156, c1157, x1158, rfl, r1159, hf, H⟩
      try dsimp only at ho1132
      refine XX.at hf <| x_block ?_
      replace H := H.f4
      replace H := H.f4
      replace H := H.f4
      replace H := H.f4
      replace H := H.f4
      obtain rfl := Option.some.inj ho1132
      refine x_A fun a hf => ⟨c1142, v1156, c1157, x1143, x1158, rfl, r1145, r1159, hf.sub ⟨rfl, rfl, rfl, rfl, rfl, trivial⟩, H⟩
    ·rintro a wd1171 ⟨c1125, v1128, c1129, x1126, x1130, rfl, r1127, r1131, hf, H⟩
     try dsimp only at hB1084
     refine CW.at hf <| R_nd <| nq (Q_add rfl rfl) rfl rfl <| nq (Q_move rfl) rfl rfl <| WL_nil ?_
     replace H := H.f4
     replace H := H.f4
     replace H := H.f4
     replace H := H.f4
     replace H := H.f4
     obtain rfl := Option.some.inj hB1084
     refine x_A fun a hf => ⟨_, rfl, c1125, v1128, c1129, x1126, x1130, w64 (x989 + 1), rfl, r1127, r1131, hf.sub ⟨rfl, rfl, rfl, rfl, rfl, trivial⟩, H⟩
   ·replace hB1084 := itF hb hB1084
    refine C_exit <| x_then_exit <| x_then_exit <| x_block_exit ?_
    replace H := H.f4
    replace H := H.f4
    replace H := H.f4
    replace H := H.f4
    replace H := H.f4
    obtain rfl := Option.some.inj hB1084
    obtain rfl := hO1085 _ rfl
    refine x_A fun a hf => ⟨c982, v985, c986, x983, x987, rfl, r984, r988, hf.sub trivial, H⟩
 ·rintro a wd1172 ⟨c881, v884, c885, x882, x886, rfl, r883, r887, hf, H⟩
  try dsimp only at hF
  refine XX.at hf ?_
  replace H := H.f4
  replace H := H.f4
  replace H := H.f4
  replace H := H.f4
  replace H := H.f4
  obtain rfl := Option.some.inj hF
  exact fn_end (l := []) (vs := []) rfl rfl rfl ⟨c881, v884, c885, x882, x886, rfl, rfl, r883, r887, H⟩
theorem c_50 {N : Nat} {C : Cx} {w : World} {ρ : View} {hs : List Hl} {v1 : Value} {v4 : Value} {v7 : Value} {x2 : (List (List Int))} {x5 : (List Int)} {x8 : (List Int)} (H : Hp C w ρ (hs)) {ge0 : Value} (gl0 : GErr ρ 0 ge0) (r3 : RdSl ρ (eA 256 (eI .i64)) v1 x2) (_r6 : RdSl ρ (eI .i64) v4 x5) (r9 : RdSl ρ (eI .i64) v7 x8) {r : (List Int)} (hF : F_canon_order N x2 x5 x8 = some r) :
  Calls Tryd.prog 50 [.agg #[v1, v4, v7]].toArray w (Rets (fun v w' => (∃ (v254 : Value) (c255 : (List Value)) (x256 : (List Int)), x256 = r ∧ v254 = v ∧ rdL (eI .i64) ρ x256 c255 ∧ Hp C w' ρ (Arr v254 1 c255 :: hs)))) := by
 unfold F_canon_order at hF
 have h0 : Tryd.f50.body = some _ := rfl
 refine fn_calls' Tryd.func50 h0 (n := 42) rfl (by simp) <| C_seq <| R_nd <| ne (E_box H (vs := [v1, v4, v7]) rfl rfl) rfl rfl ?_
 rintro _ wd259 ⟨b258, rfl, H⟩
 refine nq (Q_assign rfl) rfl rfl <| WL_nil <| x_then <| C_seq <| R_nd <| nq (v := .pointer (some ⟨b258, 0, none⟩)) (Q_fld Tryd.underlying25 rfl ty22 (by decide) rfl rfl) rfl rfl <| nq (v := v1) (Q_ldB (k := 0) (cs := [v1]) H.ok rfl ty22 rfl rfl rfl (fun _ => rfl) rfl) rfl rfl <| nq (Q_len Tryd.underlying22 rfl r3) rfl rfl ?_
 obtain ⟨q260, hq260, hF⟩ := bnd hF
 refine ne (E_call fn51 rfl (c_51 H gl0  hq260)) rfl rfl ?_
 rintro _ wd267 (⟨rfl, rfl, H⟩ | ⟨b262, v263, c264, x265, rfl, rfl, r266, H⟩)
 ·try dsimp only at hF
  refine nq (Q_move rfl) rfl rfl <| nq (Q_extract rfl rfl) rfl rfl <| nq (Q_extract rfl rfl) rfl rfl <| ne (E_alloc H ty61 (zs := [.pointer none]) rfl) rfl rfl ?_
  rintro _ wd269 ⟨b268, rfl, H⟩
  refine ne (E_stB (k := 0) (cs := [.pointer none]) (vs' := [.pointer none]) H rfl ty61 rfl rfl rfl rfl (one_cons rfl one_nil) (by simp) rfl) rfl rfl ?_
  rintro _ wd270 H
  dsimp only [List.set] at H
  refine nq (Q_assign rfl) rfl rfl <| WL_nil <| x_then <| C_seq <| C_seq <| R_nd <| nq (Q_move rfl) rfl rfl <| nq (v := .bool true) (Q_neqE Tryd.underlying63 gl0 rfl) rfl rfl <| WL_nil <| x_then ?_
  refine C_cond rfl (fun _ => ?_) (fun h => nomatch h)
  refine C_seq <| R_nd <| nq (Q_assign rfl) rfl rfl <| WL_nil <| x_then <| C_ret <| x_then_ret ?_
  have H := H.nilArr 1
  replace H := H.drop 1 rfl
  dsimp only [List.eraseIdx] at H
  replace H := H.drop 1 rfl
  dsimp only [List.eraseIdx] at H
  obtain rfl := Option.some.inj hF
  exact fn_ret (l := [.tmp 2]) (vs := [(.slice none 0 0)]) rfl rfl rfl ⟨(.slice none 0 0), [], [], rfl, rfl, rdL.nil, H⟩
 ·try dsimp only at hF
  refine nq (Q_move rfl) rfl rfl <| nq (Q_extract rfl rfl) rfl rfl <| nq (Q_extract rfl rfl) rfl rfl <| ne (E_alloc H ty61 (zs := [.pointer none]) rfl) rfl rfl ?_
  rintro _ wd272 ⟨b271, rfl, H⟩
  refine ne (E_stB (k := 0) (cs := [.pointer (some ⟨b262, 0, none⟩)]) (vs' := [.pointer (some ⟨b262, 0, none⟩)]) H rfl ty61 rfl rfl rfl rfl (one_cons rfl one_nil) (by simp) rfl) rfl rfl ?_
  rintro _ wd273 H
  dsimp only [List.set] at H
  refine nq (Q_assign rfl) rfl rfl <| WL_nil <| x_then <| C_seq <| C_seq <| R_nd <| nq (Q_move rfl) rfl rfl <| nq (v := .bool false) (Q_neqN Tryd.underlying63 rfl) rfl rfl <| WL_nil <| x_then ?_
  refine C_cond rfl (fun h => nomatch h) (fun _ => ?_)
  refine C_skip <| x_then <| C_seq <| R_nd <| nq (v := .pointer (some ⟨b262, 0, none⟩)) (Q_ldB (k := 0) (cs := [.pointer (some ⟨b262, 0, none⟩)]) H.ok rfl ty61 rfl rfl rfl (fun _ => rfl) rfl) rfl rfl ?_
  replace H := H.f2
  replace H := H.f2
  obtain ⟨q274, hq274, hF⟩ := bnd hF
  refine ne (E_call fn52 rfl (c_52 H  r266 hq274)) rfl rfl ?_
  rintro _ wd280 ⟨c276, x277, x278, rfl, rfl, r279, H⟩
  try dsimp only at hF
  refine WL_nil <| x_then <| C_seq <| R_nd <| ne (E_bslice (xs := [.const (.int .i64 0)]) (vs := [.int .i64 0]) H Tryd.underlying23 ty3 (by decide) (cs := [.int .i64 0]) rfl (sz_cons rfl sz_nil) rfl (by simp) (by simp) rfl rfl) rfl rfl ?_
  rintro _ wd282 ⟨b281, rfl, H⟩
  refine ne (E_alloc H ty23 (zs := [.slice none 0 0]) rfl) rfl rfl ?_
  rintro _ wd284 ⟨b283, rfl, H⟩
  refine ne (E_stB (k := 0) (cs := [(.slice (some ⟨b281, 0, none⟩) 1 1)]) (vs' := [(.slice (some ⟨b281, 0, none⟩) 1 1)]) H rfl ty23 rfl rfl (arr_cells (H.ok.get (k := 1) rfl)).1 rfl (one_cons (arr_cells (H.ok.get (k := 1) rfl)).2 one_nil) (by simp) rfl) rfl rfl ?_
  rintro _ wd285 H
  dsimp only [List.set] at H
  refine WL_nil <| x_then <| C_seq <| R_nd <| nq (v := .func (.func 75) #[] [.pointer (some ⟨b271, 0, none⟩), .pointer (some ⟨b283, 0, none⟩)].toArray) (Q_func rfl) rfl rfl <| nq (Q_assign rfl) rfl rfl <| WL_nil <| x_then <| C_seq <| R_nd <| nq (Q_move rfl) rfl rfl <| nq (v := .pointer (some ⟨b258, 2, none⟩)) (Q_fld Tryd.underlying25 rfl ty23 (by decide) rfl rfl) rfl rfl <| nq (v := v7) (Q_ldB (k := 5) (cs := [v7]) H.ok rfl ty23 rfl rfl rfl (fun _ => rfl) rfl) rfl rfl ?_
  replace H := H.f1
  replace H := H.f1
  replace H := H.f3
  replace H := H.f3
  replace H := H.f4
  obtain ⟨q286, hq286, hF⟩ := bnd hF
  refine ne (E_callV fn75 rfl rfl (c_75 H  r9 r279 (show rdL (eI .i64) ρ ([0]) ([.int .i64 0]) from ⟨([.int .i64 0]), _, rfl, rfl, rdL.nil⟩) hq286)) rfl rfl ?_
  rintro _ wd295 ⟨c288, v289, c290, x291, x292, rfl, rfl, r293, r294, H⟩
  try dsimp only at hF
  refine WL_nil <| x_then <| C_seq <| C_seq <| R_nd <| nq (Q_assign rfl) rfl rfl <| WL_nil <| x_then ?_
  obtain ⟨o400, ho400, hF⟩ := bnd hF
  refine C_cutQ (fun a w' => ∃ (v396 : Value) (c397 : (List Value)) (x398 : (List Int)), x398 = o400 ∧ rdL (eI .i64) ρ x398 c397 ∧ Fr 42 a [(5, .pointer (some ⟨b283, 0, none⟩))] ∧ Hp C w' ρ (Box b283 [v396] :: Arr v396 1 c397 :: hs)) ?_ ?_
  ·refine C_block ?_
   replace H := H.f2
   replace H := H.f2
   replace H := H.f2
   replace H := H.f4
   replace H := H.f4
   replace H := H.f5
   refine C_iter (f := fun s => F_canon_order_l0 N x2 s.1 s.2.1 s.2.2) ho400 (fun s a w' => ∃ (v433 : Value) (c434 : (List Value)) (c437 : (List Value)) (x435 : (List Int)) (x438 : (List Int)) (x440 : Int), (x435, x438, x440) = s ∧ rdL (eI .i64) ρ x435 c434 ∧ rdL (eI .u64) ρ x438 c437 ∧ Fr 42 a [(1, .pointer (some ⟨b258, 0, none⟩)), (5, .pointer (some ⟨b283, 0, none⟩)), (6, .func (.func 75) #[] [.pointer (some ⟨b271, 0, none⟩), .pointer (some ⟨b283, 0, none⟩)].toArray), (7, .int .i64 x440)] ∧ Hp C w' ρ (Box b258 [v1, v4, v7] :: Box b283 [v433] :: Arr v433 1 c434 :: Box b271 [.pointer (some ⟨b262, 0, none⟩)] :: Box b262 [v263, .int .i64 (x2.length : Int)] :: Arr v263 1 c437 :: hs)) ?_ ?_
   ·exact fun a hf => ⟨v289, c290, c288, x292, x291, 1, rfl, r294, r293, hf.sub ⟨rfl, rfl, rfl, rfl, trivial⟩, H⟩
   ·rintro s o473 a wd476 ⟨v433, c434, c437, x435, x438, x440, rfl, r436, r439, hf, H⟩ hB474 hO475
    replace hB474 : F_canon_order_l0 N x2 x435 x438 x440 = some o473 := hB474
    unfold F_canon_order_l0 at hB474
    refine CW.at hf <| C_seq <| C_seq <| R_nd <| nq (Q_move rfl) rfl rfl <| nq (v := v433) (Q_ldB (k := 1) (cs := [v433]) H.ok rfl ty23 rfl rfl rfl (fun _ => rfl) rfl) rfl rfl <| nq (Q_lenA (k := 2) H.ok rfl r436 (by decide) Tryd.underlying23 rfl) rfl rfl <| nq (Q_lss rfl rfl) rfl rfl <| WL_nil <| x_then ?_
    refine C_cond rfl (fun hb => ?_) (fun hb => ?_)
    ·replace hB474 := itT hb hB474
     refine C_skip <| x_then <| C_seq <| C_block <| R_dr (.take 0 (.take 1 (.take 2 (.take 4 (.one 3 (.take 5 (.one 6 (.take 7 (.take 8 (.one 9 .done)))))))))) (fun w' => Ok w' ρ [Box b258 [v1, v4, v7], Box b271 [.pointer (some ⟨b262, 0, none⟩)], Box b262 [v263, .int .i64 (x2.length : Int)]]) (by kernel_rfl) (by kernel_rfl) (by kernel_rfl) (H.drew.okS (by simp)) ?_
     replace H := H.drew
     refine dq rfl (fun _ _ => Q_move rfl) rfl rfl <| dq (v := .pointer (some ⟨b258, 0, none⟩)) rfl (fun _ _ => Q_fld Tryd.underlying25 rfl ty22 (by decide) rfl rfl) rfl rfl <| dq (v := v1) rfl (fun _ hw => Q_ldB (k := 0) (cs := [v1]) hw rfl ty22 rfl rfl rfl (fun _ => rfl) rfl) rfl rfl <| dq rfl (fun _ _ => Q_move rfl) rfl rfl ?_
     refine d1 (de rfl (Eff.quiet (v := v433) (Q_ldB (k := 1) (cs := [v433]) H.ok rfl ty23 rfl rfl rfl (fun _ => rfl) rfl)) rfl rfl ?_)
     rintro _ _ ⟨rfl, rfl⟩
     refine ⟨H.okS (by simp), ?_⟩
     obtain ⟨x477, hx477, hB474⟩ := bnd hB474
     obtain ⟨b478, o479, hi483, hc481, ha482⟩ := arr_at (hs := [Arr v433 1 c434]) (k := 0) (by decide) (H.okS (by simp)) rfl r436 hx477
     refine dq rfl (fun _ _ => Q_idx hi483 Tryd.underlying23 ty3 rfl rfl) rfl rfl ?_
     refine d1 (de rfl (Eff.quiet (v := .int .i64 x477) (Q_ld (show cellsAt _ _ _ [.int .i64 x477] from (show _ = [_] from hc481) ▸ (ha482 _ (Ok.subS (by simp) H.ok))) ty3 rfl (fun _ => rfl) rfl rfl)) rfl rfl ?_)
     rintro _ _ ⟨rfl, rfl⟩
     refine ⟨H.okS (by simp), ?_⟩
     obtain ⟨x484, hx484, hB474⟩ := bnd hB474
     obtain ⟨b485, o486, c487, hc488, ha489, hi490⟩ := idxR r3 hx484
     refine dq rfl (fun _ _ => Q_idx hi490 Tryd.underlying22 ty58 rfl rfl) rfl rfl <| dq (v := (.slice (some ⟨b485, o486, none⟩) 256 256)) rfl (fun _ _ => Q_slE Tryd.underlying58 ty3 rfl) rfl rfl ?_
     replace H := H.f2
     replace H := H.f2
     replace H := H.f5
     replace H := H.f5
     replace H := H.f5
     obtain ⟨q491, hq491, hB474⟩ := bnd hB474
     refine d1 (de rfl (E_callV fn75 rfl rfl (c_75 H  (rd_of_arr hc488 ha489) r439 r436 hq491)) rfl rfl ?_)
     rintro _ wd500 ⟨c493, v494, c495, x496, x497, rfl, rfl, r498, r499, H⟩
     try dsimp only at hB474
     refine ⟨H.okS (by simp), ?_⟩
     refine DL_nil <| x_block <| x_then <| R_nd <| nq (Q_move rfl) rfl rfl <| nq (Q_add rfl rfl) rfl rfl <| nq (Q_assign rfl) rfl rfl <| WL_nil ?_
     replace H := H.f2
     replace H := H.f2
     replace H := H.f2
     replace H := H.f4
     replace H := H.f4
     replace H := H.f5
     obtain rfl := Option.some.inj hB474
     refine x_A fun a hf => ⟨_, rfl, v494, c495, c493, x497, x496, w64 (x440 + 1), rfl, r499, r498, hf.sub ⟨rfl, rfl, rfl, rfl, trivial⟩, H⟩
    ·replace hB474 := itF hb hB474
     refine C_exit <| x_then_exit <| x_then_exit <| x_block_exit ?_
     replace H := H.f2
     replace H := H.f2
     replace H := H.drop 2 rfl
     dsimp only [List.eraseIdx] at H
     replace H := H.drop 2 rfl
     dsimp only [List.eraseIdx] at H
     replace H := H.drop 2 rfl
     dsimp only [List.eraseIdx] at H
     replace H := H.drop 2 rfl
     dsimp only [List.eraseIdx] at H
     obtain rfl := Option.some.inj hB474
     obtain rfl := hO475 _ rfl
     refine x_A fun a hf => ⟨v433, c434, x435, rfl, r436, hf.sub ⟨rfl, trivial⟩, H⟩
  ·rintro a wd501 ⟨v396, c397, x398, rfl, r399, hf, H⟩
   try dsimp only at hF
   refine XX.at hf <| x_then <| C_seq <| R_nd <| nq (v := v396) (Q_ldB (k := 0) (cs := [v396]) H.ok rfl ty23 rfl rfl rfl (fun _ => rfl) rfl) rfl rfl <| nq (Q_assign rfl) rfl rfl <| WL_nil <| x_then <| C_ret ?_
   replace H := H.f1
   replace H := H.drop 1 rfl
   dsimp only [List.eraseIdx] at H
   obtain rfl := Option.some.inj hF
   exact fn_ret (l := [.tmp 2]) (vs := [v396]) rfl rfl rfl ⟨v396, c397, x398, rfl, rfl, r399, H⟩
theorem c_18 {N : Nat} {C : Cx} {w : World} {ρ : View} {hs : List Hl} {v1 : Value} {v4 : Value} {v7 : Value} {x2 : (List (List Int))} {x5 : (List Int)} {x8 : (List Int)} (H : Hp C w ρ (hs)) {ge0 : Value} (gl0 : GErr ρ 0 ge0) (r3 : RdSl ρ (eA 256 (eI .i64)) v1 x2) (r6 : RdSl ρ (eI .i64) v4 x5) (r9 : RdSl ρ (eI .i64) v7 x8) {r : (List Int)} (hF : F_canon_Order N x2 x5 x8 = some r) :
  Calls Tryd.prog 18 [.agg #[v1, v4, v7]].toArray w (Rets (fun v w' => (∃ (v23 : Value) (c24 : (List Value)) (x25 : (List Int)), x25 = r ∧ v23 = v ∧ rdL (eI .i64) ρ x25 c24 ∧ Hp C w' ρ (Arr v23 1 c24 :: hs)))) := by
 unfold F_canon_Order at hF
 have h0 : Tryd.f18.body = some _ := rfl
 refine fn_calls' Tryd.func18 h0 (n := 8) rfl (by simp) <| C_seq <| R_nd <| ne (E_box H (vs := [v1, v4, v7]) rfl rfl) rfl rfl ?_
 rintro _ wd28 ⟨b27, rfl, H⟩
 refine nq (Q_assign rfl) rfl rfl <| WL_nil <| x_then <| C_seq <| C_seq <| R_nd <| nq (v := .agg #[v1, v4, v7]) (Q_ldB (k := 0) (cs := [v1, v4, v7]) H.ok rfl ty25 rfl rfl rfl (fun h => nomatch h) rfl) rfl rfl ?_
 obtain ⟨q29, hq29, hF⟩ := bnd hF
 refine ne (E_call fn26 rfl (c_26 H  r3 r6 r9 hq29)) rfl rfl ?_
 rintro _ wd32 ⟨x31, rfl, rfl, H⟩
 try dsimp only at hF
 refine nq (Q_not rfl) rfl rfl <| WL_nil <| x_then ?_
 refine C_cond rfl (fun hb => ?_) (fun hb => ?_)
 ·replace hF := itT hb hF
  refine C_seq <| R_nd <| nq (Q_assign rfl) rfl rfl <| WL_nil <| x_then <| C_ret <| x_then_ret ?_
  have H := H.nilArr 1
  replace H := H.drop 1 rfl
  dsimp only [List.eraseIdx] at H
  obtain rfl := Option.some.inj hF
  exact fn_ret (l := [.tmp 2]) (vs := [(.slice none 0 0)]) rfl rfl rfl ⟨(.slice none 0 0), [], [], rfl, rfl, rdL.nil, H⟩
 ·replace hF := itF hb hF
  refine C_skip <| x_then <| C_seq <| R_nd <| nq (v := .agg #[v1, v4, v7]) (Q_ldB (k := 0) (cs := [v1, v4, v7]) H.ok rfl ty25 rfl rfl rfl (fun h => nomatch h) rfl) rfl rfl ?_
  obtain ⟨q33, hq33, hF⟩ := bnd hF
  refine ne (E_call fn50 rfl (c_50 H gl0 r3 r6 r9 hq33)) rfl rfl ?_
  rintro _ wd39 ⟨v35, c36, x37, rfl, rfl, r38, H⟩
  try dsimp only at hF
  refine nq (Q_assign rfl) rfl rfl <| WL_nil <| x_then <| C_ret ?_
  replace H := H.drop 1 rfl
  dsimp only [List.eraseIdx] at H
  obtain rfl := Option.some.inj hF
  exact fn_ret (l := [.tmp 2]) (vs := [v35]) rfl rfl rfl ⟨v35, c36, x37, rfl, rfl, r38, H⟩
theorem c_22 {N : Nat} {C : Cx} {w : World} {ρ : View} {hs : List Hl} {v1 : Value} {v4 : Value} {x2 : (List Int)} {x5 : (List Int)} (H : Hp C w ρ (hs)) (r3 : RdSl ρ (eI .i64) v1 x2) (r6 : RdSl ρ (eI .i64) v4 x5) {r : Bool} (hF : F_doffernum_SameInts N x2 x5 = some r) :
  Calls Tryd.prog 22 [v1, v4].toArray w (Rets (fun v w' => (∃ (x107 : Bool), x107 = r ∧ .bool x107 = v ∧ Hp C w' ρ (hs)))) := by
 unfold F_doffernum_SameInts at hF
 have h0 : Tryd.f22.body = some _ := rfl
 refine fn_calls' Tryd.func22 h0 (n := 26) rfl (by simp) <| C_seq <| R_nd <| nq (Q_assign rfl) rfl rfl <| WL_nil <| x_then <| C_seq <| C_seq <| R_nd <| nq (Q_move rfl) rfl rfl <| nq (Q_len Tryd.underlying23 rfl r3) rfl rfl <| nq (Q_move rfl) rfl rfl <| nq (Q_len Tryd.underlying23 rfl r6) rfl rfl <| nq (Q_neq rfl rfl) rfl rfl ?_
 refine WL_nil <| x_then ?_
 refine C_cond rfl (fun hb => ?_) (fun hb => ?_)
 ·replace hF := itT hb hF
  refine C_seq <| R_nd <| nq (Q_assign rfl) rfl rfl <| WL_nil <| x_then <| C_ret <| x_then_ret ?_
  obtain rfl := Option.some.inj hF
  exact fn_ret (l := [.tmp 4]) (vs := [.bool false]) rfl rfl rfl ⟨false, rfl, rfl, H⟩
 ·replace hF := itF hb hF
  refine C_skip <| x_then <| C_seq <| C_seq <| R_nd <| nq (Q_move rfl) rfl rfl <| nq (Q_len Tryd.underlying23 rfl r3) rfl rfl <| nq (Q_move rfl) rfl rfl <| WL_nil <| x_then ?_
  obtain ⟨o157, ho157, hF⟩ := bnd hF
  refine C_cutQ (fun a w' => .inl () = o157 ∧ Fr 26 a [] ∧ Hp C w' ρ (hs)) ?_ ?_
  ·refine C_block ?_
   refine C_iter (f := fun s => F_doffernum_SameInts_l0 N x2 x5 s) ho157 (fun s a w' => ∃ (x173 : Int), x173 = s ∧ Fr 26 a [(0, v1), (1, v4), (12, .int .i64 (x2.length : Int)), (13, .int .i64 x173)] ∧ Hp C w' ρ (hs)) ?_ ?_
   ·exact fun a hf => ⟨0, rfl, hf.sub ⟨rfl, rfl, rfl, rfl, trivial⟩, H⟩
   ·rintro s o189 a wd192 ⟨x173, rfl, hf, H⟩ hB190 hO191
    replace hB190 : F_doffernum_SameInts_l0 N x2 x5 x173 = some o189 := hB190
    unfold F_doffernum_SameInts_l0 at hB190
    refine CW.at hf <| C_seq <| R_nd <| nq (Q_lss rfl rfl) rfl rfl <| WL_nil <| x_then <| C_seq ?_
    refine C_cond rfl (fun hb => ?_) (fun hb => ?_)
    ·replace hB190 := itT hb hB190
     refine C_skip <| x_then <| C_seq <| C_block <| C_seq <| R_nd <| nq (Q_move rfl) rfl rfl <| nq (Q_assign rfl) rfl rfl <| WL_nil <| x_then <| C_seq <| R_dr (.take 0 (.take 1 (.take 2 (.take 3 (.take 4 (.take 5 (.take 6 (.take 7 (.take 8 .done))))))))) (fun w' => Ok w' ρ []) (by kernel_rfl) (by kernel_rfl) (by kernel_rfl) (H.drew.okS (by simp)) ?_
     replace H := H.drew
     refine dq rfl (fun _ _ => Q_move rfl) rfl rfl <| dq rfl (fun _ _ => Q_move rfl) rfl rfl ?_
     obtain ⟨x193, hx193, hB190⟩ := bnd hB190
     obtain ⟨b194, o195, c196, hc197, ha198, hi199⟩ := idxR r3 hx193
     refine dq rfl (fun _ _ => Q_idx hi199 Tryd.underlying23 ty3 rfl rfl) rfl rfl <| dq (v := .int .i64 x193) rfl (fun _ hw => Q_ld (show cellsAt _ _ _ [.int .i64 x193] from (show _ = [_] from hc197) ▸ (ha198.up hw.view)) ty3 rfl (fun _ => rfl) rfl rfl) rfl rfl <| dq rfl (fun _ _ => Q_move rfl) rfl rfl <| dq rfl (fun _ _ => Q_move rfl) rfl rfl ?_
     obtain ⟨x200, hx200, hB190⟩ := bnd hB190
     obtain ⟨b201, o202, c203, hc204, ha205, hi206⟩ := idxR r6 hx200
     refine dq rfl (fun _ _ => Q_idx hi206 Tryd.underlying23 ty3 rfl rfl) rfl rfl <| dq (v := .int .i64 x200) rfl (fun _ hw => Q_ld (show cellsAt _ _ _ [.int .i64 x200] from (show _ = [_] from hc204) ▸ (ha205.up hw.view)) ty3 rfl (fun _ => rfl) rfl rfl) rfl rfl <| dq rfl (fun _ _ => Q_neq rfl rfl) rfl rfl <| DL_nil <| x_then ?_
     refine C_cond rfl (fun hb => ?_) (fun hb => ?_)
     ·replace hB190 := itT hb hB190
      refine C_seq <| R_nd <| nq (Q_assign rfl) rfl rfl <| WL_nil <| x_then <| C_ret <| x_block_ret <| x_then_ret <| x_then_ret <| x_block_ret <| x_then_ret <| x_then_ret ?_
      obtain rfl := Option.some.inj hB190
      obtain rfl := hO191 _ rfl
      obtain rfl := Option.some.inj (show some _ = some _ from hF)
      exact fn_ret (l := [.tmp 4]) (vs := [.bool false]) rfl rfl rfl ⟨false, rfl, rfl, H⟩
     ·replace hB190 := itF hb hB190
      refine C_skip <| x_block <| x_then <| R_nd <| nq (Q_add rfl rfl) rfl rfl <| nq (Q_move rfl) rfl rfl <| WL_nil ?_
      obtain rfl := Option.some.inj hB190
      refine x_A fun a hf => ⟨_, rfl, w64 (x173 + 1), rfl, hf.sub ⟨rfl, rfl, rfl, rfl, trivial⟩, H⟩
    ·replace hB190 := itF hb hB190
     refine C_exit <| x_then_exit <| x_then_exit <| x_block_exit ?_
     obtain rfl := Option.some.inj hB190
     obtain rfl := hO191 _ rfl
     refine x_A fun a hf => ⟨rfl, hf.sub trivial, H⟩
  ·rintro a wd207 ⟨rfl, hf, H⟩
   try dsimp only at hF
   refine XX.at hf <| x_then <| C_seq <| R_nd <| nq (Q_assign rfl) rfl rfl <| WL_nil <| x_then <| C_ret ?_
   obtain rfl := Option.some.inj hF
   exact fn_ret (l := [.tmp 4]) (vs := [.bool true]) rfl rfl rfl ⟨true, rfl, rfl, H⟩
theorem c_14 {N : Nat} {C : Cx} {w : World} {ρ : View} {hs : List Hl} (H : Hp C w ρ (hs)) {ge0 : Value} (gl0 : GErr ρ 0 ge0) {r : Bool} (hF : F_dofferlaw20_alive N = some r) :
  Calls Tryd.prog 14 [].toArray w (Rets (fun v w' => (∃ (x162 : Bool), x162 = r ∧ .bool x162 = v ∧ Hp C w' ρ (hs)))) := by
 unfold F_dofferlaw20_alive at hF
 have h0 : Tryd.f14.body = some _ := rfl
 refine fn_calls' Tryd.func14 h0 (n := 20) rfl (by simp) <| C_seq <| R_nd <| nq (Q_assign rfl) rfl rfl <| WL_nil <| x_then <| C_seq <| R_nd ?_
 obtain ⟨x163, hx163, hF⟩ := bnd hF
 obtain ⟨hm165a, hm165b, hm165c⟩ := mk_some hx163
 refine ne (E_make H Tryd.underlying22 ty58 (zs := (repC 256 [.int .i64 0])) rfl (by simp [repC_length]) (by decide) (by decide) rfl hm165a hm165b) rfl rfl ?_
 rintro _ wd166 ⟨b164, rfl, H⟩
 refine ne (E_bslice (xs := [.const (.int .i64 (-1)), .const (.int .i64 0), .const (.int .i64 (-1))]) (vs := [.int .i64 (-1), .int .i64 0, .int .i64 (-1)]) H Tryd.underlying23 ty3 (by decide) (cs := [.int .i64 (-1), .int .i64 0, .int .i64 (-1)]) rfl (sz_cons rfl (sz_cons rfl (sz_cons rfl sz_nil))) rfl (by simp) (by simp) rfl rfl) rfl rfl ?_
 rintro _ wd168 ⟨b167, rfl, H⟩
 refine ne (E_bslice (xs := [.const (.int .i64 2)]) (vs := [.int .i64 2]) H Tryd.underlying23 ty3 (by decide) (cs := [.int .i64 2]) rfl (sz_cons rfl sz_nil) rfl (by simp) (by simp) rfl rfl) rfl rfl ?_
 rintro _ wd170 ⟨b169, rfl, H⟩
 refine nq (v := .agg #[(.slice (some ⟨b164, 0, none⟩) (3 : Int).toNat (3 : Int).toNat), (.slice (some ⟨b167, 0, none⟩) 3 3), (.slice (some ⟨b169, 0, none⟩) 1 1)]) (Q_buildS st25.choose_spec (ps := [(0, [(.slice (some ⟨b164, 0, none⟩) (3 : Int).toNat (3 : Int).toNat)]), (1, [(.slice (some ⟨b167, 0, none⟩) 3 3)]), (2, [(.slice (some ⟨b169, 0, none⟩) 1 1)])]) rfl ⟨rfl, (arr_cells (H.ok.get (k := 2) rfl)).1, by simp, ⟨rfl, (arr_cells (H.ok.get (k := 1) rfl)).1, by simp, ⟨rfl, (arr_cells (H.ok.get (k := 0) rfl)).1, by simp, trivial⟩⟩⟩ rfl) rfl rfl <| ne (E_alloc H ty25 (zs := [.slice none 0 0, .slice none 0 0, .slice none 0 0]) rfl) rfl rfl ?_
 rintro _ wd172 ⟨b171, rfl, H⟩
 refine ne (E_stB (k := 0) (cs := [(.slice (some ⟨b164, 0, none⟩) (3 : Int).toNat (3 : Int).toNat), (.slice (some ⟨b167, 0, none⟩) 3 3), (.slice (some ⟨b169, 0, none⟩) 1 1)]) (vs' := [(.slice (some ⟨b164, 0, none⟩) (3 : Int).toNat (3 : Int).toNat), (.slice (some ⟨b167, 0, none⟩) 3 3), (.slice (some ⟨b169, 0, none⟩) 1 1)]) H rfl ty25 rfl rfl rfl rfl (one_cons (arr_cells (H.ok.get (k := 3) rfl)).2 (one_cons (arr_cells (H.ok.get (k := 2) rfl)).2 (one_cons (arr_cells (H.ok.get (k := 1) rfl)).2 one_nil))) (by simp) rfl) rfl rfl ?_
 rintro _ wd173 H
 dsimp only [List.set] at H
 refine WL_nil <| x_then <| C_seq <| C_seq <| R_nd <| nq (Q_move rfl) rfl rfl <| WL_nil <| x_then ?_
 obtain ⟨o232, ho232, hF⟩ := bnd hF
 refine C_cutQ (fun a w' => ∃ (c229 : (List Value)) (x230 : (List (List Int))), x230 = o232 ∧ rdL (eA 256 (eI .i64)) ρ x230 c229 ∧ Fr 20 a [(1, .pointer (some ⟨b171, 0, none⟩))] ∧ Hp C w' ρ (Box b171 [(.slice (some ⟨b164, 0, none⟩) (3 : Int).toNat (3 : Int).toNat), (.slice (some ⟨b167, 0, none⟩) 3 3), (.slice (some ⟨b169, 0, none⟩) 1 1)] :: Arr (.slice (some ⟨b164, 0, none⟩) (3 : Int).toNat (3 : Int).toNat) 256 c229 :: Arr (.slice (some ⟨b167, 0, none⟩) 3 3) 1 ([.int .i64 (-1), .int .i64 0, .int .i64 (-1)]) :: Arr (.slice (some ⟨b169, 0, none⟩) 1 1) 1 ([.int .i64 2]) :: hs)) ?_ ?_
 ·refine C_block ?_
  replace H := H.f1
  replace H := H.f2
  replace H := H.f3
  replace H := H.f3
  refine C_iter (f := fun s => F_dofferlaw20_alive_l0 N s.1 s.2) ho232 (fun s a w' => ∃ (c250 : (List Value)) (x251 : (List (List Int))) (x253 : Int), (x251, x253) = s ∧ rdL (eA 256 (eI .i64)) ρ x251 c250 ∧ Fr 20 a [(1, .pointer (some ⟨b171, 0, none⟩)), (7, .int .i64 x253)] ∧ Hp C w' ρ (Box b171 [(.slice (some ⟨b164, 0, none⟩) (3 : Int).toNat (3 : Int).toNat), (.slice (some ⟨b167, 0, none⟩) 3 3), (.slice (some ⟨b169, 0, none⟩) 1 1)] :: Arr (.slice (some ⟨b164, 0, none⟩) (3 : Int).toNat (3 : Int).toNat) 256 c250 :: Arr (.slice (some ⟨b167, 0, none⟩) 3 3) 1 ([.int .i64 (-1), .int .i64 0, .int .i64 (-1)]) :: Arr (.slice (some ⟨b169, 0, none⟩) 1 1) 1 ([.int .i64 2]) :: hs)) ?_ ?_
  ·exact fun a hf => ⟨(repC (3 : Int).toNat (repC 256 [.int .i64 0])), x163, 0, rfl, (hm165c ▸ rdL_rep (e := (eA 256 (eI .i64))) (ρ := ρ) (⟨by simp, rdL_rep (e:=(eI .i64)) (ρ:=ρ) (rfl) 256⟩) _), hf.sub ⟨rfl, rfl, trivial⟩, H⟩
  ·rintro s o271 a wd274 ⟨c250, x251, x253, rfl, r252, hf, H⟩ hB272 hO273
   replace hB272 : F_dofferlaw20_alive_l0 N x251 x253 = some o271 := hB272
   unfold F_dofferlaw20_alive_l0 at hB272
   refine CW.at hf <| C_seq <| R_nd <| nq (Q_lss rfl rfl) rfl rfl <| WL_nil <| x_then <| C_seq ?_
   refine C_cond rfl (fun hb => ?_) (fun hb => ?_)
   ·replace hB272 := itT hb hB272
    refine C_skip <| x_then <| C_seq <| C_block <| C_seq <| R_nd <| nq (Q_move rfl) rfl rfl <| nq (Q_assign rfl) rfl rfl <| WL_nil <| x_then <| R_nd <| nq (v := .pointer (some ⟨b171, 0, none⟩)) (Q_fld Tryd.underlying25 rfl ty22 (by decide) rfl rfl) rfl rfl <| nq (v := (.slice (some ⟨b164, 0, none⟩) (3 : Int).toNat (3 : Int).toNat)) (Q_ldB (k := 0) (cs := [(.slice (some ⟨b164, 0, none⟩) (3 : Int).toNat (3 : Int).toNat)]) H.ok rfl ty22 rfl rfl rfl (fun _ => rfl) rfl) rfl rfl <| nq (Q_move rfl) rfl rfl ?_
    obtain ⟨x275, hx275, hB272⟩ := bnd hB272
    obtain ⟨b276, o277, hi281, hc279, ha280⟩ := arr_at (hs := [Arr (.slice (some ⟨b164, 0, none⟩) (3 : Int).toNat (3 : Int).toNat) 256 c250]) (k := 0) (by decide) (H.okS (by simp)) rfl r252 hx275
    refine nq (Q_idx hi281 Tryd.underlying22 ty58 rfl rfl) rfl rfl ?_
    obtain ⟨x282, hx282, hB272⟩ := bnd hB272
    have hn283 := idx_lt hc279.1 hx282
    refine nq (Q_idxA hn283.1 hn283.2 Tryd.underlying58 ty3 rfl rfl) rfl rfl ?_
    obtain ⟨x284, hx284, hB272⟩ := bnd hB272
    obtain ⟨x285, hx285, hB272⟩ := bnd hB272
    have r286 : rdL (eA 256 (eI .i64)) ρ x285 (setC c250 ((2 : Int).toNat * 256 + x253.toNat * 1) [.int .i64 1]) := rdL_set2 (e := (eI .i64)) (N := 256) r252 hc279 hx284 hx285 (rfl)
    refine ne (E_stA (k := 1) (j := x253.toNat * 1) (c := [.int .i64 1]) H rfl ty3 hi281 rfl rfl rfl rfl (one_cons rfl one_nil) (idx_fit (N := 256) (m := 1) (idx_lt hc279.1 hx282))) rfl rfl ?_
    rintro _ wd287 H
    dsimp only [List.set] at H
    refine WL_nil <| x_block <| x_then <| R_nd <| nq (Q_add rfl rfl) rfl rfl <| nq (Q_move rfl) rfl rfl <| WL_nil ?_
    replace H := H.f3
    replace H := H.f3
    replace H := H.f3
    replace H := H.f3
    obtain rfl := Option.some.inj hB272
    refine x_A fun a hf => ⟨_, rfl, (setC c250 ((2 : Int).toNat * 256 + x253.toNat * 1) [.int .i64 1]), x285, w64 (x253 + 1), rfl, r286, hf.sub ⟨rfl, rfl, trivial⟩, H⟩
   ·replace hB272 := itF hb hB272
    refine C_exit <| x_then_exit <| x_then_exit <| x_block_exit ?_
    replace H := H.f3
    replace H := H.f3
    replace H := H.f3
    replace H := H.f3
    obtain rfl := Option.some.inj hB272
    obtain rfl := hO273 _ rfl
    refine x_A fun a hf => ⟨c250, x251, rfl, r252, hf.sub ⟨rfl, trivial⟩, H⟩
 ·rintro a wd288 ⟨c229, x230, rfl, r231, hf, H⟩
  try dsimp only at hF
  refine XX.at hf <| x_then <| C_seq <| R_nd <| nq (v := .agg #[(.slice (some ⟨b164, 0, none⟩) (3 : Int).toNat (3 : Int).toNat), (.slice (some ⟨b167, 0, none⟩) 3 3), (.slice (some ⟨b169, 0, none⟩) 1 1)]) (Q_ldB (k := 0) (cs := [(.slice (some ⟨b164, 0, none⟩) (3 : Int).toNat (3 : Int).toNat), (.slice (some ⟨b167, 0, none⟩) 3 3), (.slice (some ⟨b169, 0, none⟩) 1 1)]) H.ok rfl ty25 rfl rfl rfl (fun h => nomatch h) rfl) rfl rfl ?_
  replace H := H.f3
  replace H := H.f3
  replace H := H.f3
  obtain ⟨q289, hq289, hF⟩ := bnd hF
  obtain ⟨C', ρ', hl290, HA, hL, hback⟩ := Hp.lend (A := []) (L := [Arr (.slice (some ⟨b164, 0, none⟩) (3 : Int).toNat (3 : Int).toNat) 256 c229, Arr (.slice (some ⟨b167, 0, none⟩) 3 3) 1 ([.int .i64 (-1), .int .i64 0, .int .i64 (-1)]), Arr (.slice (some ⟨b169, 0, none⟩) 1 1) 1 ([.int .i64 2])]) (F := Box b171 [(.slice (some ⟨b164, 0, none⟩) (3 : Int).toNat (3 : Int).toNat), (.slice (some ⟨b167, 0, none⟩) 3 3), (.slice (some ⟨b169, 0, none⟩) 1 1)] :: hs) H
  refine ne (E_call fn18 rfl (c_18 HA (gl0.up hl290) (arr_rd (by decide) hl290 (hL (Arr (.slice (some ⟨b164, 0, none⟩) (3 : Int).toNat (3 : Int).toNat) 256 c229) (by simp)) r231) (arr_rd (by decide) hl290 (hL (Arr (.slice (some ⟨b167, 0, none⟩) 3 3) 1 ([.int .i64 (-1), .int .i64 0, .int .i64 (-1)])) (by simp)) (show rdL (eI .i64) ρ ([(-1), 0, (-1)]) ([.int .i64 (-1), .int .i64 0, .int .i64 (-1)]) from ⟨([.int .i64 (-1)]), _, rfl, rfl, ⟨([.int .i64 0]), _, rfl, rfl, ⟨([.int .i64 (-1)]), _, rfl, rfl, rdL.nil⟩⟩⟩)) (arr_rd (by decide) hl290 (hL (Arr (.slice (some ⟨b169, 0, none⟩) 1 1) 1 ([.int .i64 2])) (by simp)) (show rdL (eI .i64) ρ ([2]) ([.int .i64 2]) from ⟨([.int .i64 2]), _, rfl, rfl, rdL.nil⟩)) hq289)) rfl rfl ?_
  rintro _ wd295 ⟨v291, c292, x293, rfl, rfl, r294, H⟩
  try dsimp only at hF
  replace H := hback H
  replace r294 := rdL.flat (ρ := ρ') (ρ' := ρ) (flat_I _) r294
  dsimp only [List.cons_append, List.nil_append] at H
  refine ne (E_bslice (xs := [.const (.int .i64 0), .const (.int .i64 2), .const (.int .i64 1)]) (vs := [.int .i64 0, .int .i64 2, .int .i64 1]) H Tryd.underlying23 ty3 (by decide) (cs := [.int .i64 0, .int .i64 2, .int .i64 1]) rfl (sz_cons rfl (sz_cons rfl (sz_cons rfl sz_nil))) rfl (by simp) (by simp) rfl rfl) rfl rfl ?_
  rintro _ wd297 ⟨b296, rfl, H⟩
  replace H := H.f1
  obtain ⟨q298, hq298, hF⟩ := bnd hF
  obtain ⟨C', ρ', hl299, HA, hL, hback⟩ := Hp.lend (A := []) (L := [Arr v291 1 c292, Arr (.slice (some ⟨b296, 0, none⟩) 3 3) 1 ([.int .i64 0, .int .i64 2, .int .i64 1])]) (F := Arr (.slice (some ⟨b164, 0, none⟩) (3 : Int).toNat (3 : Int).toNat) 256 c229 :: Arr (.slice (some ⟨b167, 0, none⟩) 3 3) 1 ([.int .i64 (-1), .int .i64 0, .int .i64 (-1)]) :: Arr (.slice (some ⟨b169, 0, none⟩) 1 1) 1 ([.int .i64 2]) :: Box b171 [(.slice (some ⟨b164, 0, none⟩) (3 : Int).toNat (3 : Int).toNat), (.slice (some ⟨b167, 0, none⟩) 3 3), (.slice (some ⟨b169, 0, none⟩) 1 1)] :: hs) H
  refine ne (E_call fn22 rfl (c_22 HA  (arr_rd (by decide) hl299 (hL (Arr v291 1 c292) (by simp)) r294) (arr_rd (by decide) hl299 (hL (Arr (.slice (some ⟨b296, 0, none⟩) 3 3) 1 ([.int .i64 0, .int .i64 2, .int .i64 1])) (by simp)) (show rdL (eI .i64) ρ ([0, 2, 1]) ([.int .i64 0, .int .i64 2, .int .i64 1]) from ⟨([.int .i64 0]), _, rfl, rfl, ⟨([.int .i64 2]), _, rfl, rfl, ⟨([.int .i64 1]), _, rfl, rfl, rdL.nil⟩⟩⟩)) hq298)) rfl rfl ?_
  rintro _ wd301 ⟨x300, rfl, rfl, H⟩
  try dsimp only at hF
  replace H := hback H
  dsimp only [List.cons_append, List.nil_append] at H
  refine nq (Q_assign rfl) rfl rfl <| WL_nil <| x_then <| C_ret ?_
  replace H := H.drop 0 rfl
  dsimp only [List.eraseIdx] at H
  replace H := H.drop 0 rfl
  dsimp only [List.eraseIdx] at H
  replace H := H.drop 0 rfl
  dsimp only [List.eraseIdx] at H
  replace H := H.drop 0 rfl
  dsimp only [List.eraseIdx] at H
  replace H := H.drop 0 rfl
  dsimp only [List.eraseIdx] at H
  replace H := H.drop 0 rfl
  dsimp only [List.eraseIdx] at H
  obtain rfl := Option.some.inj hF
  exact fn_ret (l := [.tmp 0]) (vs := [.bool x300]) rfl rfl rfl ⟨x300, rfl, rfl, H⟩
set_option maxHeartbeats 8000000 in
theorem c_16 {N : Nat} {C : Cx} {w : World} {ρ : View} {hs : List Hl} {v1 : Value} {v4 : Value} {v7 : Value} {x2 : (List (List Int))} {x5 : (List Int)} {x8 : (List Int)} (H : Hp C w ρ (hs)) {ge0 : Value} (gl0 : GErr ρ 0 ge0) (r3 : RdSl ρ (eA 256 (eI .i64)) v1 x2) (r6 : RdSl ρ (eI .i64) v4 x5) (r9 : RdSl ρ (eI .i64) v7 x8) {r : ((List (List Int)) × (List Int) × (List Int))} (hF : F_canon_Canon N x2 x5 x8 = some r) :
  Calls Tryd.prog 16 [.agg #[v1, v4, v7]].toArray w (Rets (fun v w' => (∃ (v1966 : Value) (c1967 : (List Value)) (v1970 : Value) (c1971 : (List Value)) (v1974 : Value) (c1975 : (List Value)) (x1968 : (List (List Int))) (x1972 : (List Int)) (x1976 : (List Int)), (x1968, x1972, x1976) = r ∧ .agg #[v1966, v1970, v1974] = v ∧ rdL (eA 256 (eI .i64)) ρ x1968 c1967 ∧ rdL (eI .i64) ρ x1972 c1971 ∧ rdL (eI .i64) ρ x1976 c1975 ∧ Hp C w' ρ (Arr v1966 256 c1967 :: Arr v1970 1 c1971 :: Arr v1974 1 c1975 :: hs)))) := by
 unfold F_canon_Canon at hF
 have h0 : Tryd.f16.body = some _ := rfl
 refine fn_calls' Tryd.func16 h0 (n := 95) rfl (by simp) <| C_seq <| R_nd <| ne (E_box H (vs := [v1, v4, v7]) rfl rfl) rfl rfl ?_
 rintro _ wd1979 ⟨b1978, rfl, H⟩
 refine ne (E_alloc H ty25 (zs := [.slice none 0 0, .slice none 0 0, .slice none 0 0]) rfl) rfl rfl ?_
 rintro _ wd1981 ⟨b1980, rfl, H⟩
 refine WL_nil <| x_then <| C_seq <| R_nd <| ne (E_alloc H ty25 (zs := [.slice none 0 0, .slice none 0 0, .slice none 0 0]) rfl) rfl rfl ?_
 rintro _ wd1983 ⟨b1982, rfl, H⟩
 refine WL_nil <| x_then <| C_seq <| R_nd <| nq (v := .agg #[v1, v4, v7]) (Q_ldB (k := 2) (cs := [v1, v4, v7]) H.ok rfl ty25 rfl rfl rfl (fun h => nomatch h) rfl) rfl rfl ?_
 obtain ⟨q1984, hq1984, hF⟩ := bnd hF
 refine ne (E_call fn18 rfl (c_18 H gl0 r3 r6 r9 hq1984)) rfl rfl ?_
 rintro _ wd1990 ⟨v1986, c1987, x1988, rfl, rfl, r1989, H⟩
 try dsimp only at hF
 refine nq (Q_assign rfl) rfl rfl <| WL_nil <| x_then <| C_seq <| R_nd <| nq (v := .pointer (some ⟨b1978, 0, none⟩)) (Q_fld Tryd.underlying25 rfl ty22 (by decide) rfl rfl) rfl rfl <| nq (v := v1) (Q_ldB (k := 3) (cs := [v1]) H.ok rfl ty22 rfl rfl rfl (fun _ => rfl) rfl) rfl rfl <| nq (Q_len Tryd.underlying22 rfl r3) rfl rfl ?_
 obtain ⟨x1991, hx1991, hF⟩ := bnd hF
 obtain ⟨hm1993a, hm1993b, hm1993c⟩ := mk_some hx1991
 refine ne (E_make H Tryd.underlying23 ty3 (zs := [.int .i64 0]) rfl rfl (by decide) (by decide) rfl hm1993a hm1993b) rfl rfl ?_
 rintro _ wd1994 ⟨b1992, rfl, H⟩
 refine nq (Q_assign rfl) rfl rfl <| WL_nil <| x_then <| C_seq <| C_seq <| R_nd <| nq (Q_move rfl) rfl rfl <| nq (Q_lenA (k := 1) H.ok rfl r1989 (by decide) Tryd.underlying23 rfl) rfl rfl <| nq (Q_move rfl) rfl rfl <| WL_nil <| x_then ?_
 obtain ⟨o2068, ho2068, hF⟩ := bnd hF
 refine C_cutQ (fun a w' => ∃ (c2065 : (List Value)) (x2066 : (List Int)), x2066 = o2068 ∧ rdL (eI .i64) ρ x2066 c2065 ∧ Fr 95 a [(1, .pointer (some ⟨b1978, 0, none⟩)), (2, .pointer (some ⟨b1980, 0, none⟩)), (3, .pointer (some ⟨b1982, 0, none⟩)), (4, v1986), (5, (.slice (some ⟨b1992, 0, none⟩) (x2.length : Int).toNat (x2.length : Int).toNat))] ∧ Hp C w' ρ (Box b1978 [v1, v4, v7] :: Box b1980 [.slice none 0 0, .slice none 0 0, .slice none 0 0] :: Box b1982 [.slice none 0 0, .slice none 0 0, .slice none 0 0] :: Arr v1986 1 c1987 :: Arr (.slice (some ⟨b1992, 0, none⟩) (x2.length : Int).toNat (x2.length : Int).toNat) 1 c2065 :: hs)) ?_ ?_
 ·refine C_block ?_
  replace H := H.f2
  replace H := H.f2
  replace H := H.f3
  replace H := H.f4
  refine C_iter (f := fun s => F_canon_Canon_l0 N x1988 s.1 s.2) ho2068 (fun s a w' => ∃ (c2092 : (List Value)) (x2091 : Int) (x2093 : (List Int)), (x2091, x2093) = s ∧ rdL (eI .i64) ρ x2093 c2092 ∧ Fr 95 a [(1, .pointer (some ⟨b1978, 0, none⟩)), (2, .pointer (some ⟨b1980, 0, none⟩)), (3, .pointer (some ⟨b1982, 0, none⟩)), (4, v1986), (5, (.slice (some ⟨b1992, 0, none⟩) (x2.length : Int).toNat (x2.length : Int).toNat)), (21, v1986), (22, .int .i64 (x1988.length : Int)), (23, .int .i64 x2091)] ∧ Hp C w' ρ (Box b1978 [v1, v4, v7] :: Box b1980 [.slice none 0 0, .slice none 0 0, .slice none 0 0] :: Arr v1986 1 c1987 :: Box b1982 [.slice none 0 0, .slice none 0 0, .slice none 0 0] :: Arr (.slice (some ⟨b1992, 0, none⟩) (x2.length : Int).toNat (x2.length : Int).toNat) 1 c2092 :: hs)) ?_ ?_
  ·exact fun a hf => ⟨(repC (x2.length : Int).toNat [.int .i64 0]), 0, x1991, rfl, (hm1993c ▸ rdL_rep (e := (eI .i64)) (ρ := ρ) (rfl) _), hf.sub ⟨rfl, rfl, rfl, rfl, rfl, rfl, rfl, rfl, trivial⟩, H⟩
  ·rintro s o2117 a wd2120 ⟨c2092, x2091, x2093, rfl, r2094, hf, H⟩ hB2118 hO2119
   replace hB2118 : F_canon_Canon_l0 N x1988 x2091 x2093 = some o2117 := hB2118
   unfold F_canon_Canon_l0 at hB2118
   refine CW.at hf <| C_seq <| R_nd <| nq (Q_lss rfl rfl) rfl rfl <| WL_nil <| x_then <| C_seq ?_
   refine C_cond rfl (fun hb => ?_) (fun hb => ?_)
   ·replace hB2118 := itT hb hB2118
    refine C_skip <| x_then <| C_seq <| C_block <| C_seq <| R_nd <| nq (Q_move rfl) rfl rfl ?_
    obtain ⟨x2121, hx2121, hB2118⟩ := bnd hB2118
    obtain ⟨b2122, o2123, hi2127, hc2125, ha2126⟩ := arr_at (hs := [Arr v1986 1 c1987]) (k := 0) (by decide) (H.okS (by simp)) rfl r1989 hx2121
    refine nq (Q_idx hi2127 Tryd.underlying23 ty3 rfl rfl) rfl rfl <| nq (v := .int .i64 x2121) (Q_ld (show cellsAt _ _ _ [.int .i64 x2121] from (show _ = [_] from hc2125) ▸ (ha2126 _ (Ok.subS (by simp) H.ok))) ty3 rfl (fun _ => rfl) rfl rfl) rfl rfl <| nq (Q_assign rfl) rfl rfl <| nq (Q_assign rfl) rfl rfl <| WL_nil <| x_then <| R_nd <| nq (Q_move rfl) rfl rfl <| nq (Q_move rfl) rfl rfl <| nq (Q_move rfl) rfl rfl ?_
    obtain ⟨x2128, hx2128, hB2118⟩ := bnd hB2118
    obtain ⟨b2129, o2130, hi2134, hc2132, ha2133⟩ := arr_at (hs := [Arr (.slice (some ⟨b1992, 0, none⟩) (x2.length : Int).toNat (x2.length : Int).toNat) 1 c2092]) (k := 0) (by decide) (H.okS (by simp)) rfl r2094 hx2128
    refine nq (Q_idx hi2134 Tryd.underlying23 ty3 rfl rfl) rfl rfl ?_
    obtain ⟨x2135, hx2135, hB2118⟩ := bnd hB2118
    obtain ⟨hs2136a, hs2136b, hs2136c⟩ := setI_some hx2135
    have r2137 : rdL (eI .i64) ρ x2135 (setC c2092 (x2121.toNat * 1 + 0) [.int .i64 x2091]) := hs2136c ▸ rdL.set r2094 hs2136b (rfl)
    refine ne (E_stA (k := 4) (j := 0) (c := [.int .i64 x2091]) H rfl ty3 hi2134 rfl rfl rfl rfl (one_cons rfl one_nil) (by decide)) rfl rfl ?_
    rintro _ wd2138 H
    dsimp only [List.set] at H
    refine WL_nil <| x_block <| x_then <| R_nd <| nq (Q_add rfl rfl) rfl rfl <| nq (Q_move rfl) rfl rfl <| WL_nil ?_
    replace H := H.f4
    replace H := H.f4
    replace H := H.f4
    replace H := H.f4
    replace H := H.f4
    obtain rfl := Option.some.inj hB2118
    refine x_A fun a hf => ⟨_, rfl, (setC c2092 (x2121.toNat * 1 + 0) [.int .i64 x2091]), w64 (x2091 + 1), x2135, rfl, r2137, hf.sub ⟨rfl, rfl, rfl, rfl, rfl, rfl, rfl, rfl, trivial⟩, H⟩
   ·replace hB2118 := itF hb hB2118
    refine C_exit <| x_then_exit <| x_then_exit <| x_block_exit ?_
    replace H := H.f4
    replace H := H.f3
    replace H := H.f4
    replace H := H.f4
    replace H := H.f4
    obtain rfl := Option.some.inj hB2118
    obtain rfl := hO2119 _ rfl
    refine x_A fun a hf => ⟨c2092, x2093, rfl, r2094, hf.sub ⟨rfl, rfl, rfl, rfl, rfl, trivial⟩, H⟩
 ·rintro a wd2139 ⟨c2065, x2066, rfl, r2067, hf, H⟩
  try dsimp only at hF
  refine XX.at hf <| x_then <| C_seq <| C_seq <| R_nd <| nq (Q_move rfl) rfl rfl <| nq (Q_lenA (k := 3) H.ok rfl r1989 (by decide) Tryd.underlying23 rfl) rfl rfl <| nq (Q_move rfl) rfl rfl <| WL_nil <| x_then ?_
  obtain ⟨o2827, ho2827, hF⟩ := bnd hF
  refine C_cutQ (fun a w' => ∃ (v2819 : Value) (c2820 : (List Value)) (v2823 : Value) (c2824 : (List Value)) (x2821 : (List (List Int))) (x2825 : (List Int)), (x2821, x2825) = o2827 ∧ rdL (eA 256 (eI .i64)) ρ x2821 c2820 ∧ rdL (eI .i64) ρ x2825 c2824 ∧ Fr 95 a [(1, .pointer (some ⟨b1978, 0, none⟩)), (2, .pointer (some ⟨b1980, 0, none⟩)), (3, .pointer (some ⟨b1982, 0, none⟩)), (4, v1986), (5, (.slice (some ⟨b1992, 0, none⟩) (x2.length : Int).toNat (x2.length : Int).toNat))] ∧ Hp C w' ρ (Box b1978 [v1, v4, v7] :: Box b1980 [.slice none 0 0, .slice none 0 0, .slice none 0 0] :: Box b1982 [v2819, v2823, .slice none 0 0] :: Arr v2819 256 c2820 :: Arr v2823 1 c2824 :: Arr v1986 1 c1987 :: Arr (.slice (some ⟨b1992, 0, none⟩) (x2.length : Int).toNat (x2.length : Int).toNat) 1 c2065 :: hs)) ?_ ?_
  ·refine C_block ?_
   have H := H.nilArr 256
   have H := H.nilArr 1
   replace H := H.f6
   replace H := H.f6
   replace H := H.f2
   replace H := H.f3
   replace H := H.f6
   replace H := H.f6
   replace H := H.f6
   refine C_iter (f := fun s => F_canon_Canon_l1 N x2 x5 x1988 x2066 s.1 s.2.1 s.2.2) ho2827 (fun s a w' => ∃ (v3053 : Value) (c3054 : (List Value)) (v3057 : Value) (c3058 : (List Value)) (x3055 : (List (List Int))) (x3059 : (List Int)) (x3061 : Int), (x3055, x3059, x3061) = s ∧ rdL (eA 256 (eI .i64)) ρ x3055 c3054 ∧ rdL (eI .i64) ρ x3059 c3058 ∧ Fr 95 a [(1, .pointer (some ⟨b1978, 0, none⟩)), (2, .pointer (some ⟨b1980, 0, none⟩)), (3, .pointer (some ⟨b1982, 0, none⟩)), (4, v1986), (5, (.slice (some ⟨b1992, 0, none⟩) (x2.length : Int).toNat (x2.length : Int).toNat)), (33, v1986), (34, .int .i64 (x1988.length : Int)), (35, .int .i64 x3061)] ∧ Hp C w' ρ (Box b1978 [v1, v4, v7] :: Box b1980 [.slice none 0 0, .slice none 0 0, .slice none 0 0] :: Box b1982 [v3053, v3057, .slice none 0 0] :: Arr v3053 256 c3054 :: Arr v3057 1 c3058 :: Arr v1986 1 c1987 :: Arr (.slice (some ⟨b1992, 0, none⟩) (x2.length : Int).toNat (x2.length : Int).toNat) 1 c2065 :: hs)) ?_ ?_
   ·exact fun a hf => ⟨(.slice none 0 0), [], (.slice none 0 0), [], [], [], 0, rfl, rdL.nil, rdL.nil, hf.sub ⟨rfl, rfl, rfl, rfl, rfl, rfl, rfl, rfl, trivial⟩, H⟩
   ·rintro s o3287 a wd3290 ⟨v3053, c3054, v3057, c3058, x3055, x3059, x3061, rfl, r3056, r3060, hf, H⟩ hB3288 hO3289
    replace hB3288 : F_canon_Canon_l1 N x2 x5 x1988 x2066 x3055 x3059 x3061 = some o3287 := hB3288
    unfold F_canon_Canon_l1 at hB3288
    refine CW.at hf <| C_seq <| R_nd <| nq (Q_lss rfl rfl) rfl rfl <| WL_nil <| x_then <| C_seq ?_
    refine C_cond rfl (fun hb => ?_) (fun hb => ?_)
    ·replace hB3288 := itT hb hB3288
     refine C_skip <| x_then <| C_seq <| C_block <| C_seq <| R_nd ?_
     obtain ⟨x3291, hx3291, hB3288⟩ := bnd hB3288
     obtain ⟨b3292, o3293, hi3297, hc3295, ha3296⟩ := arr_at (hs := [Arr v1986 1 c1987]) (k := 0) (by decide) (H.okS (by simp)) rfl r1989 hx3291
     refine nq (Q_idx hi3297 Tryd.underlying23 ty3 rfl rfl) rfl rfl <| nq (v := .int .i64 x3291) (Q_ld (show cellsAt _ _ _ [.int .i64 x3291] from (show _ = [_] from hc3295) ▸ (ha3296 _ (Ok.subS (by simp) H.ok))) ty3 rfl (fun _ => rfl) rfl rfl) rfl rfl <| nq (Q_assign rfl) rfl rfl <| WL_nil <| x_then <| C_seq <| R_nd <| nq (v := .pointer (some ⟨b1978, 0, none⟩)) (Q_fld Tryd.underlying25 rfl ty22 (by decide) rfl rfl) rfl rfl <| nq (v := v1) (Q_ldB (k := 0) (cs := [v1]) H.ok rfl ty22 rfl rfl rfl (fun _ => rfl) rfl) rfl rfl <| nq (Q_move rfl) rfl rfl ?_
     obtain ⟨x3298, hx3298, hB3288⟩ := bnd hB3288
     obtain ⟨b3299, o3300, c3301, hc3302, ha3303, hi3304⟩ := idxR r3 hx3298
     refine nq (Q_idx hi3304 Tryd.underlying22 ty58 rfl rfl) rfl rfl <| nq (v := .agg c3301.toArray) (Q_ld (ha3303.up H.ok.view) ty58 ((eA 256 (eI .i64)).len hc3302) (fun h => nomatch h) rfl rfl) rfl rfl <| ne (E_allocA (N := 256) (n := 1) (zs := (repC 256 [.int .i64 0])) H ty58 rfl (by simp [repC_length])) rfl rfl ?_
     rintro _ wd3306 ⟨b3305, rfl, H⟩
     refine ne (E_stW (k := 0) H rfl ty58 rfl rfl (rdL.one hc3302.2) (arr_clen (rdL_rep (e:=(eI .i64)) (ρ:=ρ) (rfl) 256) List.length_replicate) (arr_clen hc3302.2 hc3302.1)) rfl rfl ?_
     rintro _ wd3307 H
     dsimp only [List.set] at H
     refine WL_nil <| x_then <| C_seq <| C_seq <| R_nd <| nq (Q_ldW (k := 0) H.ok rfl ty58 rfl (arr_clen hc3302.2 hc3302.1)) rfl rfl <| nq (Q_move rfl) rfl rfl <| WL_nil <| x_then ?_
     obtain ⟨o3376, ho3376, hB3288⟩ := bnd hB3288
     refine C_cutQ (fun a w' => ∃ (c3372 : (List Value)) (x3373 : (List Int)), x3373 = o3376 ∧ rdL (eI .i64) ρ x3373 c3372 ∧ x3373.length = 256 ∧ Fr 95 a [(1, .pointer (some ⟨b1978, 0, none⟩)), (2, .pointer (some ⟨b1980, 0, none⟩)), (3, .pointer (some ⟨b1982, 0, none⟩)), (4, v1986), (5, (.slice (some ⟨b1992, 0, none⟩) (x2.length : Int).toNat (x2.length : Int).toNat)), (9, .int .i64 x3291), (10, .pointer (some ⟨b3305, 0, none⟩)), (33, v1986), (34, .int .i64 (x1988.length : Int)), (35, .int .i64 x3061)] ∧ Hp C w' ρ (Box b1978 [v1, v4, v7] :: Arr (.slice (some ⟨b3305, 0, none⟩) 256 256) 1 c3372 :: Box b1980 [.slice none 0 0, .slice none 0 0, .slice none 0 0] :: Box b1982 [v3053, v3057, .slice none 0 0] :: Arr v3053 256 c3054 :: Arr v3057 1 c3058 :: Arr v1986 1 c1987 :: Arr (.slice (some ⟨b1992, 0, none⟩) (x2.length : Int).toNat (x2.length : Int).toNat) 1 c2065 :: hs)) ?_ ?_
     ·refine C_block ?_
      replace H := H.f7
      replace H := H.f7
      replace H := H.f7
      replace H := H.f7
      replace H := H.f7
      replace H := H.f7
      replace H := H.f6
      replace H := H.f7
      refine C_iter (f := fun s => F_canon_Canon_l2 N x2066 x3298 s.1 s.2) ho3376 (fun s a w' => ∃ (c3397 : (List Value)) (x3398 : (List Int)) (x3401 : Int), (x3398, x3401) = s ∧ rdL (eI .i64) ρ x3398 c3397 ∧ x3398.length = 256 ∧ Fr 95 a [(1, .pointer (some ⟨b1978, 0, none⟩)), (2, .pointer (some ⟨b1980, 0, none⟩)), (3, .pointer (some ⟨b1982, 0, none⟩)), (4, v1986), (5, (.slice (some ⟨b1992, 0, none⟩) (x2.length : Int).toNat (x2.length : Int).toNat)), (9, .int .i64 x3291), (10, .pointer (some ⟨b3305, 0, none⟩)), (33, v1986), (34, .int .i64 (x1988.length : Int)), (35, .int .i64 x3061), (44, .agg c3301.toArray), (45, .int .i64 x3401)] ∧ Hp C w' ρ (Box b1978 [v1, v4, v7] :: Arr (.slice (some ⟨b3305, 0, none⟩) 256 256) 1 c3397 :: Box b1980 [.slice none 0 0, .slice none 0 0, .slice none 0 0] :: Box b1982 [v3053, v3057, .slice none 0 0] :: Arr v3053 256 c3054 :: Arr v3057 1 c3058 :: Arr v1986 1 c1987 :: Arr (.slice (some ⟨b1992, 0, none⟩) (x2.length : Int).toNat (x2.length : Int).toNat) 1 c2065 :: hs)) ?_ ?_
      ·exact fun a hf => ⟨c3301, x3298, 0, rfl, hc3302.2, hc3302.1, hf.sub ⟨rfl, rfl, rfl, rfl, rfl, rfl, rfl, rfl, rfl, rfl, rfl, rfl, trivial⟩, H⟩
      ·rintro s o3422 a wd3425 ⟨c3397, x3398, x3401, rfl, r3399, lp3400, hf, H⟩ hB3423 hO3424
       replace hB3423 : F_canon_Canon_l2 N x2066 x3298 x3398 x3401 = some o3422 := hB3423
       unfold F_canon_Canon_l2 at hB3423
       refine CW.at hf <| C_seq <| R_nd <| nq (Q_lss rfl rfl) rfl rfl <| WL_nil <| x_then <| C_seq ?_
       refine C_cond rfl (fun hb => ?_) (fun hb => ?_)
       ·replace hB3423 := itT hb hB3423
        refine C_skip <| x_then <| C_seq <| C_block <| C_seq <| R_nd <| nq (Q_move rfl) rfl rfl ?_
        obtain ⟨x3426, hx3426, hB3423⟩ := bnd hB3423
        refine nq (Q_ixI hc3302.2 hc3302.1 hx3426 Tryd.underlying58 rfl rfl ty3 rfl) rfl rfl <| nq (Q_assign rfl) rfl rfl <| nq (Q_assign rfl) rfl rfl <| WL_nil <| x_then <| R_nd <| nq (Q_move rfl) rfl rfl <| nq (Q_move rfl) rfl rfl <| nq (Q_move rfl) rfl rfl ?_
        obtain ⟨x3427, hx3427, hB3423⟩ := bnd hB3423
        obtain ⟨b3428, o3429, hi3433, hc3431, ha3432⟩ := arr_at (hs := [Arr (.slice (some ⟨b1992, 0, none⟩) (x2.length : Int).toNat (x2.length : Int).toNat) 1 c2065]) (k := 0) (by decide) (H.okS (by simp)) rfl r2067 hx3427
        refine nq (Q_idx hi3433 Tryd.underlying23 ty3 rfl rfl) rfl rfl <| nq (v := .int .i64 x3427) (Q_ld (show cellsAt _ _ _ [.int .i64 x3427] from (show _ = [_] from hc3431) ▸ (ha3432 _ (Ok.subS (by simp) H.ok))) ty3 rfl (fun _ => rfl) rfl rfl) rfl rfl ?_
        obtain ⟨x3434, hx3434, hB3423⟩ := bnd hB3423
        have hn3436 := idx_lt (N := 256) (lp3400) hx3434
        have hi3435 : IdxOk (.slice (some ⟨b3305, 0, none⟩) 256 256) x3401 1 b3305 (0 + x3401.toNat * 1) := ⟨0, 256, 256, rfl, hn3436.1, hn3436.2, rfl⟩
        refine nq (Q_idxA hn3436.1 hn3436.2 Tryd.underlying58 ty3 rfl rfl) rfl rfl ?_
        obtain ⟨x3437, hx3437, hB3423⟩ := bnd hB3423
        obtain ⟨hs3438a, hs3438b, hs3438c⟩ := setI_some hx3437
        have r3439 : rdL (eI .i64) ρ x3437 (setC c3397 (x3401.toNat * 1 + 0) [.int .i64 x3427]) := hs3438c ▸ rdL.set r3399 hs3438b (rfl)
        refine ne (E_stA (k := 1) (j := 0) (c := [.int .i64 x3427]) H rfl ty3 hi3435 rfl rfl rfl rfl (one_cons rfl one_nil) (by decide)) rfl rfl ?_
        rintro _ wd3440 H
        dsimp only [List.set] at H
        refine WL_nil <| x_block <| x_then <| R_nd <| nq (Q_add rfl rfl) rfl rfl <| nq (Q_move rfl) rfl rfl <| WL_nil ?_
        replace H := H.f7
        replace H := H.f7
        replace H := H.f7
        replace H := H.f7
        replace H := H.f7
        replace H := H.f7
        replace H := H.f7
        replace H := H.f7
        obtain rfl := Option.some.inj hB3423
        refine x_A fun a hf => ⟨_, rfl, (setC c3397 (x3401.toNat * 1 + 0) [.int .i64 x3427]), x3437, w64 (x3401 + 1), rfl, r3439, (setI_len hx3437 lp3400), hf.sub ⟨rfl, rfl, rfl, rfl, rfl, rfl, rfl, rfl, rfl, rfl, rfl, rfl, trivial⟩, H⟩
       ·replace hB3423 := itF hb hB3423
        refine C_exit <| x_then_exit <| x_then_exit <| x_block_exit ?_
        replace H := H.f7
        replace H := H.f7
        replace H := H.f7
        replace H := H.f7
        replace H := H.f7
        replace H := H.f7
        replace H := H.f7
        replace H := H.f7
        obtain rfl := Option.some.inj hB3423
        obtain rfl := hO3424 _ rfl
        refine x_A fun a hf => ⟨c3397, x3398, rfl, r3399, lp3400, hf.sub ⟨rfl, rfl, rfl, rfl, rfl, rfl, rfl, rfl, rfl, rfl, trivial⟩, H⟩
     ·rintro a wd3441 ⟨c3372, x3373, rfl, r3374, lp3375, hf, H⟩
      try dsimp only at hB3288
      refine XX.at hf <| x_then <| C_seq <| R_nd <| nq (v := .pointer (some ⟨b1982, 0, none⟩)) (Q_fld Tryd.underlying25 rfl ty22 (by decide) rfl rfl) rfl rfl <| nq (v := v3053) (Q_ldB (k := 3) (cs := [v3053]) H.ok rfl ty22 rfl rfl rfl (fun _ => rfl) rfl) rfl rfl <| nq (Q_ldW (k := 1) H.ok rfl ty58 rfl (arr_clen r3374 lp3375)) rfl rfl <| ne (E_bslice (xs := [.tmp 58]) (vs := [.agg c3372.toArray]) H Tryd.underlying22 ty58 (by decide) (cs := c3372) rfl (sz_cons (arr_clen r3374 lp3375) sz_nil) (by simp [Value.cells]) (by simp) (by simp) rfl rfl) rfl rfl ?_
      rintro _ wd3443 ⟨b3442, rfl, H⟩
      obtain ⟨x3444, hx3444, hB3288⟩ := bnd hB3288
      obtain ⟨ha3445a, ha3445b⟩ := app_some hx3444
      have r3447 : rdL (eA 256 (eI .i64)) ρ x3444 (c3054 ++ c3372) := ha3445b ▸ rdL.app r3056 (show rdL (eA 256 (eI .i64)) ρ ([x3373]) c3372 from rdL.single ⟨lp3375, r3374⟩)
      refine ne (E_append (k := 5) H rfl Tryd.underlying22 ty58 rfl (by decide) (by decide) rfl rfl (Src.ofArr (k := 0) H.ok rfl) (rdL.one (show rdL (eA 256 (eI .i64)) ρ ([x3373]) c3372 from rdL.single ⟨lp3375, r3374⟩)) (app_fit r3056 (show rdL (eA 256 (eI .i64)) ρ ([x3373]) c3372 from rdL.single ⟨lp3375, r3374⟩) ha3445a)) rfl rfl ?_
      rintro v3446 wd3449 ⟨H, hc3448⟩
      dsimp only [List.set] at H
      refine nq (v := .pointer (some ⟨b1982, 0, none⟩)) (Q_fld Tryd.underlying25 rfl ty22 (by decide) rfl rfl) rfl rfl <| ne (E_stB (k := 4) (cs := [v3446]) (vs' := [v3446, v3057, .slice none 0 0]) H rfl ty22 rfl rfl (arr_cells (H.ok.get (k := 5) rfl)).1 rfl (one_cons (arr_cells (H.ok.get (k := 5) rfl)).2 one_nil) (by simp) rfl) rfl rfl ?_
      rintro _ wd3450 H
      dsimp only [List.set] at H
      refine WL_nil <| x_then ?_
      obtain ⟨o3480, ho3480, hB3288⟩ := bnd hB3288
      refine C_cutQ (fun a w' => ∃ (v3476 : Value) (c3477 : (List Value)) (x3478 : (List Int)), x3478 = o3480 ∧ rdL (eI .i64) ρ x3478 c3477 ∧ Fr 95 a [(1, .pointer (some ⟨b1978, 0, none⟩)), (2, .pointer (some ⟨b1980, 0, none⟩)), (3, .pointer (some ⟨b1982, 0, none⟩)), (4, v1986), (5, (.slice (some ⟨b1992, 0, none⟩) (x2.length : Int).toNat (x2.length : Int).toNat)), (33, v1986), (34, .int .i64 (x1988.length : Int)), (35, .int .i64 x3061)] ∧ Hp C w' ρ (Box b1978 [v1, v4, v7] :: Box b1980 [.slice none 0 0, .slice none 0 0, .slice none 0 0] :: Box b1982 [v3446, v3476, .slice none 0 0] :: Arr v3446 256 (c3054 ++ c3372) :: Arr v3476 1 c3477 :: Arr v1986 1 c1987 :: Arr (.slice (some ⟨b1992, 0, none⟩) (x2.length : Int).toNat (x2.length : Int).toNat) 1 c2065 :: hs)) ?_ ?_
      ·refine R_dr (.take 0 (.take 2 (.take 3 (.take 4 (.take 5 (.take 6 (.two 1 7 (.one 7 (.one 8 (.take 9 (.one 10 .done)))) (.one 1 (.one 8 (.take 9 (.one 10 .done))))))))))) (fun w' => Ok w' ρ [Arr (.slice (some ⟨b3442, 0, none⟩) 1 1) 256 c3372, Box b1978 [v1, v4, v7], Arr (.slice (some ⟨b3305, 0, none⟩) 256 256) 1 c3372, Box b1980 [.slice none 0 0, .slice none 0 0, .slice none 0 0], Arr v3446 256 (c3054 ++ c3372), Arr v1986 1 c1987, Arr (.slice (some ⟨b1992, 0, none⟩) (x2.length : Int).toNat (x2.length : Int).toNat) 1 c2065]) (by kernel_rfl) (by kernel_rfl) (by kernel_rfl) (H.drew.okS (by simp)) ?_
       replace H := H.drew
       refine dq (v := .pointer (some ⟨b1982, 1, none⟩)) rfl (fun _ _ => Q_fld Tryd.underlying25 rfl ty23 (by decide) rfl rfl) rfl rfl <| dq (v := .pointer (some ⟨b1978, 1, none⟩)) rfl (fun _ _ => Q_fld Tryd.underlying25 rfl ty23 (by decide) rfl rfl) rfl rfl <| dq (v := v4) rfl (fun _ hw => Q_ldB (k := 1) (cs := [v4]) hw rfl ty23 rfl rfl rfl (fun _ => rfl) rfl) rfl rfl <| dq rfl (fun _ _ => Q_move rfl) rfl rfl ?_
       obtain ⟨x3481, hx3481, ho3480⟩ := bnd ho3480
       obtain ⟨b3482, o3483, c3484, hc3485, ha3486, hi3487⟩ := idxR r6 hx3481
       refine dq rfl (fun _ _ => Q_idx hi3487 Tryd.underlying23 ty3 rfl rfl) rfl rfl <| dq (v := .int .i64 x3481) rfl (fun _ hw => Q_ld (show cellsAt _ _ _ [.int .i64 x3481] from (show _ = [_] from hc3485) ▸ (ha3486.up hw.view)) ty3 rfl (fun _ => rfl) rfl rfl) rfl rfl ?_
       refine d2 ?_ ?_
       ·refine de rfl (Eff.quiet (v := v3057) (Q_ldB (k := 4) (cs := [v3057]) H.ok rfl ty23 rfl rfl rfl (fun _ => rfl) rfl)) rfl rfl ?_
        rintro _ _ ⟨rfl, rfl⟩
        refine ⟨H.okS (by simp), ?_⟩
        refine d1 (de rfl (E_bslice (xs := [.tmp 68]) (vs := [.int .i64 x3481]) H Tryd.underlying23 ty3 (by decide) (cs := [.int .i64 x3481]) rfl (sz_cons rfl sz_nil) rfl (by simp) (by simp) rfl rfl) rfl rfl ?_)
        rintro _ wd3489 ⟨b3488, rfl, H⟩
        refine ⟨H.okS (by simp), ?_⟩
        obtain ⟨x3490, hx3490, ho3480⟩ := bnd ho3480
        obtain ⟨ha3491a, ha3491b⟩ := app_some hx3490
        have r3493 : rdL (eI .i64) ρ x3490 (c3058 ++ ([.int .i64 x3481])) := ha3491b ▸ rdL.app r3060 (show rdL (eI .i64) ρ ([x3481]) ([.int .i64 x3481]) from ⟨([.int .i64 x3481]), _, rfl, rfl, rdL.nil⟩)
        refine d1 (de rfl (E_append (k := 7) H rfl Tryd.underlying23 ty3 rfl (by decide) (by decide) rfl rfl (Src.ofArr (k := 0) H.ok rfl) (rdL.one (show rdL (eI .i64) ρ ([x3481]) ([.int .i64 x3481]) from ⟨([.int .i64 x3481]), _, rfl, rfl, rdL.nil⟩)) (app_fit r3060 (show rdL (eI .i64) ρ ([x3481]) ([.int .i64 x3481]) from ⟨([.int .i64 x3481]), _, rfl, rfl, rdL.nil⟩) ha3491a)) rfl rfl ?_)
        rintro v3492 wd3495 ⟨H, hc3494⟩
        dsimp only [List.set] at H
        refine ⟨H.okS (by simp), ?_⟩
        refine dq (v := .pointer (some ⟨b1982, 1, none⟩)) rfl (fun _ _ => Q_fld Tryd.underlying25 rfl ty23 (by decide) rfl rfl) rfl rfl ?_
        refine d1 (de rfl (E_stB (k := 5) (cs := [v3492]) (vs' := [v3446, v3492, .slice none 0 0]) H rfl ty23 rfl rfl (arr_cells (H.ok.get (k := 7) rfl)).1 rfl (one_cons (arr_cells (H.ok.get (k := 7) rfl)).2 one_nil) (by simp) rfl) rfl rfl ?_)
        rintro _ wd3496 H
        dsimp only [List.set] at H
        refine ⟨H.okS (by simp), ?_⟩
        refine DL_nil ?_
        replace H := H.f9
        replace H := H.f9
        replace H := H.f9
        replace H := H.f9
        replace H := H.f9
        replace H := H.f9
        replace H := H.f8
        replace H := H.drop 7 rfl
        dsimp only [List.eraseIdx] at H
        replace H := H.drop 7 rfl
        dsimp only [List.eraseIdx] at H
        replace H := H.drop 7 rfl
        dsimp only [List.eraseIdx] at H
        obtain rfl := Option.some.inj ho3480
        refine x_A fun a hf => ⟨v3492, (c3058 ++ ([.int .i64 x3481])), x3490, rfl, r3493, hf.sub ⟨rfl, rfl, rfl, rfl, rfl, rfl, rfl, rfl, trivial⟩, H⟩
       ·refine de rfl (E_bslice (xs := [.tmp 68]) (vs := [.int .i64 x3481]) H Tryd.underlying23 ty3 (by decide) (cs := [.int .i64 x3481]) rfl (sz_cons rfl sz_nil) rfl (by simp) (by simp) rfl rfl) rfl rfl ?_
        rintro _ wd3498 ⟨b3497, rfl, H⟩
        refine ⟨H.okS (by simp), ?_⟩
        refine d1 (de rfl (Eff.quiet (v := v3057) (Q_ldB (k := 5) (cs := [v3057]) H.ok rfl ty23 rfl rfl rfl (fun _ => rfl) rfl)) rfl rfl ?_)
        rintro _ _ ⟨rfl, rfl⟩
        refine ⟨H.okS (by simp), ?_⟩
        obtain ⟨x3499, hx3499, ho3480⟩ := bnd ho3480
        obtain ⟨ha3500a, ha3500b⟩ := app_some hx3499
        have r3502 : rdL (eI .i64) ρ x3499 (c3058 ++ ([.int .i64 x3481])) := ha3500b ▸ rdL.app r3060 (show rdL (eI .i64) ρ ([x3481]) ([.int .i64 x3481]) from ⟨([.int .i64 x3481]), _, rfl, rfl, rdL.nil⟩)
        refine d1 (de rfl (E_append (k := 7) H rfl Tryd.underlying23 ty3 rfl (by decide) (by decide) rfl rfl (Src.ofArr (k := 0) H.ok rfl) (rdL.one (show rdL (eI .i64) ρ ([x3481]) ([.int .i64 x3481]) from ⟨([.int .i64 x3481]), _, rfl, rfl, rdL.nil⟩)) (app_fit r3060 (show rdL (eI .i64) ρ ([x3481]) ([.int .i64 x3481]) from ⟨([.int .i64 x3481]), _, rfl, rfl, rdL.nil⟩) ha3500a)) rfl rfl ?_)
        rintro v3501 wd3504 ⟨H, hc3503⟩
        dsimp only [List.set] at H
        refine ⟨H.okS (by simp), ?_⟩
        refine dq (v := .pointer (some ⟨b1982, 1, none⟩)) rfl (fun _ _ => Q_fld Tryd.underlying25 rfl ty23 (by decide) rfl rfl) rfl rfl ?_
        refine d1 (de rfl (E_stB (k := 5) (cs := [v3501]) (vs' := [v3446, v3501, .slice none 0 0]) H rfl ty23 rfl rfl (arr_cells (H.ok.get (k := 7) rfl)).1 rfl (one_cons (arr_cells (H.ok.get (k := 7) rfl)).2 one_nil) (by simp) rfl) rfl rfl ?_)
        rintro _ wd3505 H
        dsimp only [List.set] at H
        refine ⟨H.okS (by simp), ?_⟩
        refine DL_nil ?_
        replace H := H.f9
        replace H := H.f9
        replace H := H.f9
        replace H := H.f9
        replace H := H.f9
        replace H := H.f9
        replace H := H.f8
        replace H := H.drop 7 rfl
        dsimp only [List.eraseIdx] at H
        replace H := H.drop 7 rfl
        dsimp only [List.eraseIdx] at H
        replace H := H.drop 7 rfl
        dsimp only [List.eraseIdx] at H
        obtain rfl := Option.some.inj ho3480
        refine x_A fun a hf => ⟨v3501, (c3058 ++ ([.int .i64 x3481])), x3499, rfl, r3502, hf.sub ⟨rfl, rfl, rfl, rfl, rfl, rfl, rfl, rfl, trivial⟩, H⟩
      ·rintro a wd3506 ⟨v3476, c3477, x3478, rfl, r3479, hf, H⟩
       try dsimp only at hB3288
       refine XX.at hf <| x_block <| x_then <| R_nd <| nq (Q_add rfl rfl) rfl rfl <| nq (Q_move rfl) rfl rfl <| WL_nil ?_
       replace H := H.f6
       replace H := H.f6
       replace H := H.f6
       replace H := H.f6
       replace H := H.f6
       replace H := H.f6
       replace H := H.f6
       obtain rfl := Option.some.inj hB3288
       refine x_A fun a hf => ⟨_, rfl, v3446, (c3054 ++ c3372), v3476, c3477, x3444, x3478, w64 (x3061 + 1), rfl, r3447, r3479, hf.sub ⟨rfl, rfl, rfl, rfl, rfl, rfl, rfl, rfl, trivial⟩, H⟩
    ·replace hB3288 := itF hb hB3288
     refine C_exit <| x_then_exit <| x_then_exit <| x_block_exit ?_
     replace H := H.f6
     replace H := H.f6
     replace H := H.f6
     replace H := H.f6
     replace H := H.f6
     replace H := H.f6
     replace H := H.f6
     obtain rfl := Option.some.inj hB3288
     obtain rfl := hO3289 _ rfl
     refine x_A fun a hf => ⟨v3053, c3054, v3057, c3058, x3055, x3059, rfl, r3056, r3060, hf.sub ⟨rfl, rfl, rfl, rfl, rfl, trivial⟩, H⟩
  ·rintro a wd3507 ⟨v2819, c2820, v2823, c2824, x2821, x2825, rfl, r2822, r2826, hf, H⟩
   try dsimp only at hF
   refine XX.at hf <| x_then <| C_seq <| C_seq <| R_nd <| nq (Q_move rfl) rfl rfl <| nq (Q_lenA (k := 5) H.ok rfl r1989 (by decide) Tryd.underlying23 rfl) rfl rfl <| nq (Q_eql rfl rfl) rfl rfl <| WL_nil <| x_then ?_
   refine C_cond rfl (fun hb => ?_) (fun hb => ?_)
   ·replace hF := itT hb hF
    refine C_seq <| R_nd <| nq (v := .agg #[v2819, v2823, .slice none 0 0]) (Q_ldB (k := 2) (cs := [v2819, v2823, .slice none 0 0]) H.ok rfl ty25 rfl rfl rfl (fun h => nomatch h) rfl) rfl rfl <| ne (E_stB (k := 1) (cs := [v2819, v2823, .slice none 0 0]) (vs' := [v2819, v2823, .slice none 0 0]) H rfl ty25 rfl rfl rfl rfl (one_cons (arr_cells (H.ok.get (k := 3) rfl)).2 (one_cons (arr_cells (H.ok.get (k := 4) rfl)).2 (one_cons rfl one_nil))) (by simp) rfl) rfl rfl ?_
    rintro _ wd3508 H
    dsimp only [List.set] at H
    refine WL_nil <| x_then <| C_ret <| x_then_ret ?_
    have H := H.nilArr 1
    have hRV : RV Tryd.prog wd3508 [(2, .pointer (some ⟨b1980, 0, none⟩))] [.cell 2 25] [.agg #[v2819, v2823, (.slice none 0 0)]] := ⟨⟨_, rfl, run_ldv ty25 rfl (fun h => nomatch h) (box_at (H.ok.get (k := 2) rfl) 0 3)⟩, trivial⟩
    replace H := H.f5
    replace H := H.f5
    replace H := H.drop 3 rfl
    dsimp only [List.eraseIdx] at H
    replace H := H.drop 3 rfl
    dsimp only [List.eraseIdx] at H
    replace H := H.drop 3 rfl
    dsimp only [List.eraseIdx] at H
    replace H := H.drop 3 rfl
    dsimp only [List.eraseIdx] at H
    replace H := H.drop 3 rfl
    dsimp only [List.eraseIdx] at H
    obtain rfl := Option.some.inj hF
    exact fn_retV (rs := [.cell 2 25]) (vs := [.agg #[v2819, v2823, (.slice none 0 0)]]) rfl hRV ⟨v2819, c2820, v2823, c2824, (.slice none 0 0), [], x2821, x2825, [], rfl, rfl, r2822, r2826, rdL.nil, H⟩
   ·replace hF := itF hb hF
    refine C_skip <| x_then <| C_seq <| C_seq <| R_nd <| nq (v := .pointer (some ⟨b1978, 2, none⟩)) (Q_fld Tryd.underlying25 rfl ty23 (by decide) rfl rfl) rfl rfl <| nq (v := v7) (Q_ldB (k := 0) (cs := [v7]) H.ok rfl ty23 rfl rfl rfl (fun _ => rfl) rfl) rfl rfl <| nq (Q_len Tryd.underlying23 rfl r9) rfl rfl <| nq (Q_move rfl) rfl rfl <| WL_nil <| x_then ?_
    obtain ⟨o3721, ho3721, hF⟩ := bnd hF
    refine C_cutQ (fun a w' => ∃ (v3717 : Value) (c3718 : (List Value)) (x3719 : (List Int)), x3719 = o3721 ∧ rdL (eI .i64) ρ x3719 c3718 ∧ Fr 95 a [(2, .pointer (some ⟨b1980, 0, none⟩)), (3, .pointer (some ⟨b1982, 0, none⟩))] ∧ Hp C w' ρ (Box b1980 [.slice none 0 0, .slice none 0 0, .slice none 0 0] :: Box b1982 [v2819, v2823, v3717] :: Arr v2819 256 c2820 :: Arr v2823 1 c2824 :: Arr v3717 1 c3718 :: hs)) ?_ ?_
    ·refine C_block ?_
     have H := H.nilArr 1
     replace H := H.f7
     replace H := H.f1
     replace H := H.f6
     replace H := H.f6
     replace H := H.f6
     replace H := H.f6
     replace H := H.drop 6 rfl
     dsimp only [List.eraseIdx] at H
     replace H := H.drop 6 rfl
     dsimp only [List.eraseIdx] at H
     refine C_iter (f := fun s => F_canon_Canon_l3 N x8 x2066 s.1 s.2) ho3721 (fun s a w' => ∃ (v3790 : Value) (c3791 : (List Value)) (x3792 : (List Int)) (x3794 : Int), (x3792, x3794) = s ∧ rdL (eI .i64) ρ x3792 c3791 ∧ Fr 95 a [(2, .pointer (some ⟨b1980, 0, none⟩)), (3, .pointer (some ⟨b1982, 0, none⟩)), (5, (.slice (some ⟨b1992, 0, none⟩) (x2.length : Int).toNat (x2.length : Int).toNat)), (78, v7), (79, .int .i64 (x8.length : Int)), (80, .int .i64 x3794)] ∧ Hp C w' ρ (Box b1980 [.slice none 0 0, .slice none 0 0, .slice none 0 0] :: Box b1982 [v2819, v2823, v3790] :: Arr v2819 256 c2820 :: Arr v2823 1 c2824 :: Arr v3790 1 c3791 :: Arr (.slice (some ⟨b1992, 0, none⟩) (x2.length : Int).toNat (x2.length : Int).toNat) 1 c2065 :: hs)) ?_ ?_
     ·exact fun a hf => ⟨(.slice none 0 0), [], [], 0, rfl, rdL.nil, hf.sub ⟨rfl, rfl, rfl, rfl, rfl, rfl, trivial⟩, H⟩
     ·rintro s o3863 a wd3866 ⟨v3790, c3791, x3792, x3794, rfl, r3793, hf, H⟩ hB3864 hO3865
      replace hB3864 : F_canon_Canon_l3 N x8 x2066 x3792 x3794 = some o3863 := hB3864
      unfold F_canon_Canon_l3 at hB3864
      refine CW.at hf <| C_seq <| R_nd <| nq (Q_lss rfl rfl) rfl rfl <| WL_nil <| x_then <| C_seq ?_
      refine C_cond rfl (fun hb => ?_) (fun hb => ?_)
      ·replace hB3864 := itT hb hB3864
       refine C_skip <| x_then <| C_seq <| C_block <| C_seq <| R_nd ?_
       obtain ⟨x3867, hx3867, hB3864⟩ := bnd hB3864
       obtain ⟨b3868, o3869, c3870, hc3871, ha3872, hi3873⟩ := idxR r9 hx3867
       refine nq (Q_idx hi3873 Tryd.underlying23 ty3 rfl rfl) rfl rfl <| nq (v := .int .i64 x3867) (Q_ld (show cellsAt _ _ _ [.int .i64 x3867] from (show _ = [_] from hc3871) ▸ (ha3872.up H.ok.view)) ty3 rfl (fun _ => rfl) rfl rfl) rfl rfl <| nq (Q_assign rfl) rfl rfl <| WL_nil <| x_then ?_
       obtain ⟨o3903, ho3903, hB3864⟩ := bnd hB3864
       refine C_cutQ (fun a w' => ∃ (v3899 : Value) (c3900 : (List Value)) (x3901 : (List Int)), x3901 = o3903 ∧ rdL (eI .i64) ρ x3901 c3900 ∧ Fr 95 a [(2, .pointer (some ⟨b1980, 0, none⟩)), (3, .pointer (some ⟨b1982, 0, none⟩)), (5, (.slice (some ⟨b1992, 0, none⟩) (x2.length : Int).toNat (x2.length : Int).toNat)), (78, v7), (79, .int .i64 (x8.length : Int)), (80, .int .i64 x3794)] ∧ Hp C w' ρ (Box b1980 [.slice none 0 0, .slice none 0 0, .slice none 0 0] :: Box b1982 [v2819, v2823, v3899] :: Arr v2819 256 c2820 :: Arr v2823 1 c2824 :: Arr v3899 1 c3900 :: Arr (.slice (some ⟨b1992, 0, none⟩) (x2.length : Int).toNat (x2.length : Int).toNat) 1 c2065 :: hs)) ?_ ?_
       ·refine R_dr (.take 0 (.take 2 (.take 3 (.take 4 (.take 5 (.two 1 6 (.one 6 (.one 7 (.take 8 (.one 9 .done)))) (.one 1 (.one 7 (.take 8 (.one 9 .done)))))))))) (fun w' => Ok w' ρ [Box b1980 [.slice none 0 0, .slice none 0 0, .slice none 0 0], Arr v2819 256 c2820, Arr v2823 1 c2824, Arr (.slice (some ⟨b1992, 0, none⟩) (x2.length : Int).toNat (x2.length : Int).toNat) 1 c2065]) (by kernel_rfl) (by kernel_rfl) (by kernel_rfl) (H.drew.okS (by simp)) ?_
        replace H := H.drew
        refine dq (v := .pointer (some ⟨b1982, 2, none⟩)) rfl (fun _ _ => Q_fld Tryd.underlying25 rfl ty23 (by decide) rfl rfl) rfl rfl <| dq rfl (fun _ _ => Q_move rfl) rfl rfl <| dq rfl (fun _ _ => Q_move rfl) rfl rfl ?_
        obtain ⟨x3904, hx3904, ho3903⟩ := bnd ho3903
        obtain ⟨b3905, o3906, hi3910, hc3908, ha3909⟩ := arr_at (hs := [Arr (.slice (some ⟨b1992, 0, none⟩) (x2.length : Int).toNat (x2.length : Int).toNat) 1 c2065]) (k := 0) (by decide) (H.okS (by simp)) rfl r2067 hx3904
        refine dq rfl (fun _ _ => Q_idx hi3910 Tryd.underlying23 ty3 rfl rfl) rfl rfl <| dq (v := .int .i64 x3904) rfl (fun _ hw => Q_ld (show cellsAt _ _ _ [.int .i64 x3904] from (show _ = [_] from hc3908) ▸ (ha3909 _ (Ok.subS (by simp) hw))) ty3 rfl (fun _ => rfl) rfl rfl) rfl rfl ?_
        refine d2 ?_ ?_
        ·refine de rfl (Eff.quiet (v := v3790) (Q_ldB (k := 1) (cs := [v3790]) H.ok rfl ty23 rfl rfl rfl (fun _ => rfl) rfl)) rfl rfl ?_
         rintro _ _ ⟨rfl, rfl⟩
         refine ⟨H.okS (by simp), ?_⟩
         refine d1 (de rfl (E_bslice (xs := [.tmp 89]) (vs := [.int .i64 x3904]) H Tryd.underlying23 ty3 (by decide) (cs := [.int .i64 x3904]) rfl (sz_cons rfl sz_nil) rfl (by simp) (by simp) rfl rfl) rfl rfl ?_)
         rintro _ wd3912 ⟨b3911, rfl, H⟩
         refine ⟨H.okS (by simp), ?_⟩
         obtain ⟨x3913, hx3913, ho3903⟩ := bnd ho3903
         obtain ⟨ha3914a, ha3914b⟩ := app_some hx3913
         have r3916 : rdL (eI .i64) ρ x3913 (c3791 ++ ([.int .i64 x3904])) := ha3914b ▸ rdL.app r3793 (show rdL (eI .i64) ρ ([x3904]) ([.int .i64 x3904]) from ⟨([.int .i64 x3904]), _, rfl, rfl, rdL.nil⟩)
         refine d1 (de rfl (E_append (k := 5) H rfl Tryd.underlying23 ty3 rfl (by decide) (by decide) rfl rfl (Src.ofArr (k := 0) H.ok rfl) (rdL.one (show rdL (eI .i64) ρ ([x3904]) ([.int .i64 x3904]) from ⟨([.int .i64 x3904]), _, rfl, rfl, rdL.nil⟩)) (app_fit r3793 (show rdL (eI .i64) ρ ([x3904]) ([.int .i64 x3904]) from ⟨([.int .i64 x3904]), _, rfl, rfl, rdL.nil⟩) ha3914a)) rfl rfl ?_)
         rintro v3915 wd3918 ⟨H, hc3917⟩
         dsimp only [List.set] at H
         refine ⟨H.okS (by simp), ?_⟩
         refine dq (v := .pointer (some ⟨b1982, 2, none⟩)) rfl (fun _ _ => Q_fld Tryd.underlying25 rfl ty23 (by decide) rfl rfl) rfl rfl ?_
         refine d1 (de rfl (E_stB (k := 2) (cs := [v3915]) (vs' := [v2819, v2823, v3915]) H rfl ty23 rfl rfl (arr_cells (H.ok.get (k := 5) rfl)).1 rfl (one_cons (arr_cells (H.ok.get (k := 5) rfl)).2 one_nil) (by simp) rfl) rfl rfl ?_)
         rintro _ wd3919 H
         dsimp only [List.set] at H
         refine ⟨H.okS (by simp), ?_⟩
         refine DL_nil ?_
         replace H := H.f6
         replace H := H.f6
         replace H := H.f6
         replace H := H.f6
         replace H := H.f6
         replace H := H.f6
         replace H := H.drop 6 rfl
         dsimp only [List.eraseIdx] at H
         obtain rfl := Option.some.inj ho3903
         refine x_A fun a hf => ⟨v3915, (c3791 ++ ([.int .i64 x3904])), x3913, rfl, r3916, hf.sub ⟨rfl, rfl, rfl, rfl, rfl, rfl, trivial⟩, H⟩
        ·refine de rfl (E_bslice (xs := [.tmp 89]) (vs := [.int .i64 x3904]) H Tryd.underlying23 ty3 (by decide) (cs := [.int .i64 x3904]) rfl (sz_cons rfl sz_nil) rfl (by simp) (by simp) rfl rfl) rfl rfl ?_
         rintro _ wd3921 ⟨b3920, rfl, H⟩
         refine ⟨H.okS (by simp), ?_⟩
         refine d1 (de rfl (Eff.quiet (v := v3790) (Q_ldB (k := 2) (cs := [v3790]) H.ok rfl ty23 rfl rfl rfl (fun _ => rfl) rfl)) rfl rfl ?_)
         rintro _ _ ⟨rfl, rfl⟩
         refine ⟨H.okS (by simp), ?_⟩
         obtain ⟨x3922, hx3922, ho3903⟩ := bnd ho3903
         obtain ⟨ha3923a, ha3923b⟩ := app_some hx3922
         have r3925 : rdL (eI .i64) ρ x3922 (c3791 ++ ([.int .i64 x3904])) := ha3923b ▸ rdL.app r3793 (show rdL (eI .i64) ρ ([x3904]) ([.int .i64 x3904]) from ⟨([.int .i64 x3904]), _, rfl, rfl, rdL.nil⟩)
         refine d1 (de rfl (E_append (k := 5) H rfl Tryd.underlying23 ty3 rfl (by decide) (by decide) rfl rfl (Src.ofArr (k := 0) H.ok rfl) (rdL.one (show rdL (eI .i64) ρ ([x3904]) ([.int .i64 x3904]) from ⟨([.int .i64 x3904]), _, rfl, rfl, rdL.nil⟩)) (app_fit r3793 (show rdL (eI .i64) ρ ([x3904]) ([.int .i64 x3904]) from ⟨([.int .i64 x3904]), _, rfl, rfl, rdL.nil⟩) ha3923a)) rfl rfl ?_)
         rintro v3924 wd3927 ⟨H, hc3926⟩
         dsimp only [List.set] at H
         refine ⟨H.okS (by simp), ?_⟩
         refine dq (v := .pointer (some ⟨b1982, 2, none⟩)) rfl (fun _ _ => Q_fld Tryd.underlying25 rfl ty23 (by decide) rfl rfl) rfl rfl ?_
         refine d1 (de rfl (E_stB (k := 2) (cs := [v3924]) (vs' := [v2819, v2823, v3924]) H rfl ty23 rfl rfl (arr_cells (H.ok.get (k := 5) rfl)).1 rfl (one_cons (arr_cells (H.ok.get (k := 5) rfl)).2 one_nil) (by simp) rfl) rfl rfl ?_)
         rintro _ wd3928 H
         dsimp only [List.set] at H
         refine ⟨H.okS (by simp), ?_⟩
         refine DL_nil ?_
         replace H := H.f6
         replace H := H.f6
         replace H := H.f6
         replace H := H.f6
         replace H := H.f6
         replace H := H.f6
         replace H := H.drop 6 rfl
         dsimp only [List.eraseIdx] at H
         obtain rfl := Option.some.inj ho3903
         refine x_A fun a hf => ⟨v3924, (c3791 ++ ([.int .i64 x3904])), x3922, rfl, r3925, hf.sub ⟨rfl, rfl, rfl, rfl, rfl, rfl, trivial⟩, H⟩
       ·rintro a wd3929 ⟨v3899, c3900, x3901, rfl, r3902, hf, H⟩
        try dsimp only at hB3864
        refine XX.at hf <| x_block <| x_then <| R_nd <| nq (Q_add rfl rfl) rfl rfl <| nq (Q_move rfl) rfl rfl <| WL_nil ?_
        replace H := H.f5
        replace H := H.f5
        replace H := H.f5
        replace H := H.f5
        replace H := H.f5
        replace H := H.f5
        obtain rfl := Option.some.inj hB3864
        refine x_A fun a hf => ⟨_, rfl, v3899, c3900, x3901, w64 (x3794 + 1), rfl, r3902, hf.sub ⟨rfl, rfl, rfl, rfl, rfl, rfl, trivial⟩, H⟩
      ·replace hB3864 := itF hb hB3864
       refine C_exit <| x_then_exit <| x_then_exit <| x_block_exit ?_
       replace H := H.f4
       replace H := H.f4
       replace H := H.f4
       replace H := H.f4
       replace H := H.f4
       replace H := H.drop 5 rfl
       dsimp only [List.eraseIdx] at H
       obtain rfl := Option.some.inj hB3864
       obtain rfl := hO3865 _ rfl
       refine x_A fun a hf => ⟨v3790, c3791, x3792, rfl, r3793, hf.sub ⟨rfl, rfl, trivial⟩, H⟩
    ·rintro a wd3930 ⟨v3717, c3718, x3719, rfl, r3720, hf, H⟩
     try dsimp only at hF
     refine XX.at hf <| x_then <| C_seq <| R_nd <| nq (v := .agg #[v2819, v2823, v3717]) (Q_ldB (k := 1) (cs := [v2819, v2823, v3717]) H.ok rfl ty25 rfl rfl rfl (fun h => nomatch h) rfl) rfl rfl <| ne (E_stB (k := 0) (cs := [v2819, v2823, v3717]) (vs' := [v2819, v2823, v3717]) H rfl ty25 rfl rfl rfl rfl (one_cons (arr_cells (H.ok.get (k := 2) rfl)).2 (one_cons (arr_cells (H.ok.get (k := 3) rfl)).2 (one_cons (arr_cells (H.ok.get (k := 4) rfl)).2 one_nil))) (by simp) rfl) rfl rfl ?_
     rintro _ wd3931 H
     dsimp only [List.set] at H
     refine WL_nil <| x_then <| C_ret ?_
     have hRV : RV Tryd.prog wd3931 [(2, .pointer (some ⟨b1980, 0, none⟩))] [.cell 2 25] [.agg #[v2819, v2823, v3717]] := ⟨⟨_, rfl, run_ldv ty25 rfl (fun h => nomatch h) (box_at (H.ok.get (k := 0) rfl) 0 3)⟩, trivial⟩
     replace H := H.f4
     replace H := H.f4
     replace H := H.f4
     replace H := H.drop 3 rfl
     dsimp only [List.eraseIdx] at H
     replace H := H.drop 3 rfl
     dsimp only [List.eraseIdx] at H
     obtain rfl := Option.some.inj hF
     exact fn_retV (rs := [.cell 2 25]) (vs := [.agg #[v2819, v2823, v3717]]) rfl hRV ⟨v2819, c2820, v2823, c2824, v3717, c3718, x2821, x2825, x3719, rfl, rfl, r2822, r2826, r3720, H⟩
theorem c_77 {N : Nat} {C : Cx} {w : World} {ρ : View} {hs : List Hl} {b1 : Nat} {c2 : List Value} {v5 : Value} {x3 : (List Int)} {x6 : Int} (H : Hp C w ρ (Box b1 [v5, .int .i64 x6] :: Arr v5 1 c2 :: hs)) (_r4 : rdL (eI .u64) ρ x3 c2) {r : Unit} (hF : F_marks_Marks_own N x3 x6 = some r) :
  Calls Tryd.prog 77 [.pointer (some ⟨b1, 0, none⟩)].toArray w (Rets (fun v w' => (() = r ∧ v5 = v ∧ Hp C w' ρ (Box b1 [v5, .int .i64 x6] :: Arr v5 1 c2 :: hs)))) := by
 unfold F_marks_Marks_own at hF
 have h0 : Tryd.f77.body = some _ := rfl
 refine fn_calls' Tryd.func77 h0 (n := 9) rfl (by simp) <| C_seq <| R_nd <| nq (Q_assign rfl) rfl rfl <| WL_nil <| x_then <| C_seq <| C_seq <| R_nd <| nq (Q_move rfl) rfl rfl <| nq (v := .bool false) (Q_eqlP (o := (some ⟨b1, 0, none⟩)) Tryd.underlying61 rfl) rfl rfl <| WL_nil <| x_then ?_
 refine C_cond rfl (fun h => nomatch h) (fun _ => ?_)
 refine C_skip <| x_then <| C_seq <| R_nd <| nq (Q_move rfl) rfl rfl <| nq (Q_nilP rfl) rfl rfl <| nq (v := .pointer (some ⟨b1, 0, none⟩)) (Q_fld Tryd.underlying94 rfl ty92 (by decide) rfl rfl) rfl rfl <| nq (v := v5) (Q_ldB (k := 0) (cs := [v5]) H.ok rfl ty92 rfl rfl rfl (fun _ => rfl) rfl) rfl rfl <| nq (Q_assign rfl) rfl rfl <| WL_nil <| x_then <| C_ret ?_
 replace H := H.f1
 replace H := H.f1
 obtain rfl := Option.some.inj hF
 exact fn_ret (l := [.tmp 2]) (vs := [v5]) rfl rfl rfl ⟨rfl, rfl, H⟩
theorem c_66 {N : Nat} {C : Cx} {w : World} {ρ : View} {hs : List Hl} {v1 : Value} {v4 : Value} {v7 : Value} {v10 : Value} {x2 : (List (List Int))} {x5 : (List Int)} {x8 : (List Int)} {x11 : (List Int)} (H : Hp C w ρ (hs)) {ge0 : Value} (gl0 : GErr ρ 0 ge0) (r3 : RdSl ρ (eA 256 (eI .i64)) v1 x2) (_r6 : RdSl ρ (eI .i64) v4 x5) (_r9 : RdSl ρ (eI .i64) v7 x8) (r12 : RdSl ρ (eI .i64) v10 x11) {r : (Unit ⊕ (List Int))} (hF : F_trim_marked N x2 x5 x8 x11 = some r) :
  Calls Tryd.prog 66 [.agg #[v1, v4, v7], v10].toArray w (Rets (fun v w' => (.inl () = r ∧ .pointer none = v ∧ Hp C w' ρ (hs)) ∨ (∃ (b144 : Nat) (v145 : Value) (c146 : (List Value)) (x147 : (List Int)), .inr x147 = r ∧ .pointer (some ⟨b144, 0, none⟩) = v ∧ rdL (eI .u64) ρ x147 c146 ∧ Hp C w' ρ (Box b144 [v145, .int .i64 (x2.length : Int)] :: Arr v145 1 c146 :: hs)))) := by
 unfold F_trim_marked at hF
 have h0 : Tryd.f66.body = some _ := rfl
 refine fn_calls' Tryd.func66 h0 (n := 29) rfl (by simp) <| C_seq <| R_nd <| ne (E_box H (vs := [v1, v4, v7]) rfl rfl) rfl rfl ?_
 rintro _ wd150 ⟨b149, rfl, H⟩
 refine nq (Q_assign rfl) rfl rfl <| WL_nil <| x_then <| C_seq <| R_nd <| nq (v := .pointer (some ⟨b149, 0, none⟩)) (Q_fld Tryd.underlying25 rfl ty22 (by decide) rfl rfl) rfl rfl <| nq (v := v1) (Q_ldB (k := 0) (cs := [v1]) H.ok rfl ty22 rfl rfl rfl (fun _ => rfl) rfl) rfl rfl <| nq (Q_len Tryd.underlying22 rfl r3) rfl rfl ?_
 obtain ⟨q151, hq151, hF⟩ := bnd hF
 refine ne (E_call fn51 rfl (c_51 H gl0  hq151)) rfl rfl ?_
 rintro _ wd158 (⟨rfl, rfl, H⟩ | ⟨b153, v154, c155, x156, rfl, rfl, r157, H⟩)
 ·try dsimp only at hF
  refine nq (Q_move rfl) rfl rfl <| nq (Q_extract rfl rfl) rfl rfl <| nq (Q_extract rfl rfl) rfl rfl <| nq (Q_assign rfl) rfl rfl <| nq (Q_assign rfl) rfl rfl <| WL_nil <| x_then <| C_seq <| C_seq <| R_nd <| nq (Q_move rfl) rfl rfl <| nq (v := .bool true) (Q_neqE Tryd.underlying63 gl0 rfl) rfl rfl <| WL_nil <| x_then ?_
  refine C_cond rfl (fun _ => ?_) (fun h => nomatch h)
  refine C_seq <| R_nd <| nq (Q_assign rfl) rfl rfl <| WL_nil <| x_then <| C_ret <| x_then_ret ?_
  replace H := H.drop 0 rfl
  dsimp only [List.eraseIdx] at H
  obtain rfl := Option.some.inj hF
  exact fn_ret (l := [.tmp 4]) (vs := [.pointer none]) rfl rfl rfl (.inl ⟨rfl, rfl, H⟩)
 ·try dsimp only at hF
  refine nq (Q_move rfl) rfl rfl <| nq (Q_extract rfl rfl) rfl rfl <| nq (Q_extract rfl rfl) rfl rfl <| nq (Q_assign rfl) rfl rfl <| nq (Q_assign rfl) rfl rfl <| WL_nil <| x_then <| C_seq <| C_seq <| R_nd <| nq (Q_move rfl) rfl rfl <| nq (v := .bool false) (Q_neqN Tryd.underlying63 rfl) rfl rfl <| WL_nil <| x_then ?_
  refine C_cond rfl (fun h => nomatch h) (fun _ => ?_)
  refine C_skip <| x_then <| C_seq <| C_seq <| R_nd <| nq (Q_move rfl) rfl rfl <| nq (Q_len Tryd.underlying23 rfl r12) rfl rfl <| nq (Q_move rfl) rfl rfl <| WL_nil <| x_then ?_
  obtain ⟨o220, ho220, hF⟩ := bnd hF
  refine C_cutQ (fun a w' => ∃ (c217 : (List Value)) (x218 : (List Int)), x218 = o220 ∧ rdL (eI .u64) ρ x218 c217 ∧ Fr 29 a [(5, .pointer (some ⟨b153, 0, none⟩))] ∧ Hp C w' ρ (Box b153 [v154, .int .i64 (x2.length : Int)] :: Arr v154 1 c217 :: hs)) ?_ ?_
  ·refine C_block ?_
   replace H := H.f1
   replace H := H.f1
   replace H := H.drop 2 rfl
   dsimp only [List.eraseIdx] at H
   refine C_iter (f := fun s => F_trim_marked_l0 N x2 x11 s.1 s.2) ho220 (fun s a w' => ∃ (c240 : (List Value)) (x239 : Int) (x241 : (List Int)), (x239, x241) = s ∧ rdL (eI .u64) ρ x241 c240 ∧ Fr 29 a [(5, .pointer (some ⟨b153, 0, none⟩)), (18, v10), (19, .int .i64 (x11.length : Int)), (20, .int .i64 x239)] ∧ Hp C w' ρ (Box b153 [v154, .int .i64 (x2.length : Int)] :: Arr v154 1 c240 :: hs)) ?_ ?_
   ·exact fun a hf => ⟨c155, 0, x156, rfl, r157, hf.sub ⟨rfl, rfl, rfl, rfl, trivial⟩, H⟩
   ·rintro s o261 a wd264 ⟨c240, x239, x241, rfl, r242, hf, H⟩ hB262 hO263
    replace hB262 : F_trim_marked_l0 N x2 x11 x239 x241 = some o261 := hB262
    unfold F_trim_marked_l0 at hB262
    refine CW.at hf <| C_seq <| R_nd <| nq (Q_lss rfl rfl) rfl rfl <| WL_nil <| x_then <| C_seq ?_
    refine C_cond rfl (fun hb => ?_) (fun hb => ?_)
    ·replace hB262 := itT hb hB262
     refine C_skip <| x_then <| C_seq <| C_block <| C_seq <| R_nd ?_
     obtain ⟨x265, hx265, hB262⟩ := bnd hB262
     obtain ⟨b266, o267, c268, hc269, ha270, hi271⟩ := idxR r12 hx265
     refine nq (Q_idx hi271 Tryd.underlying23 ty3 rfl rfl) rfl rfl <| nq (v := .int .i64 x265) (Q_ld (show cellsAt _ _ _ [.int .i64 x265] from (show _ = [_] from hc269) ▸ (ha270.up H.ok.view)) ty3 rfl (fun _ => rfl) rfl rfl) rfl rfl <| nq (Q_assign rfl) rfl rfl <| WL_nil <| x_then <| R_nd <| nq (Q_move rfl) rfl rfl <| nq (Q_move rfl) rfl rfl ?_
     replace H := H.f1
     replace H := H.f1
     obtain ⟨q272, hq272, hB262⟩ := bnd hB262
     refine ne (E_call fn52 rfl (c_52 H  r242 hq272)) rfl rfl ?_
     rintro _ wd278 ⟨c274, x275, x276, rfl, rfl, r277, H⟩
     try dsimp only at hB262
     refine WL_nil <| x_block <| x_then <| R_nd <| nq (Q_add rfl rfl) rfl rfl <| nq (Q_move rfl) rfl rfl <| WL_nil ?_
     replace H := H.f1
     replace H := H.f1
     obtain rfl := Option.some.inj hB262
     refine x_A fun a hf => ⟨_, rfl, c274, w64 (x239 + 1), x275, rfl, r277, hf.sub ⟨rfl, rfl, rfl, rfl, trivial⟩, H⟩
    ·replace hB262 := itF hb hB262
     refine C_exit <| x_then_exit <| x_then_exit <| x_block_exit ?_
     replace H := H.f1
     replace H := H.f1
     obtain rfl := Option.some.inj hB262
     obtain rfl := hO263 _ rfl
     refine x_A fun a hf => ⟨c240, x241, rfl, r242, hf.sub ⟨rfl, trivial⟩, H⟩
  ·rintro a wd279 ⟨c217, x218, rfl, r219, hf, H⟩
   try dsimp only at hF
   refine XX.at hf <| x_then <| C_seq <| R_nd <| nq (Q_move rfl) rfl rfl <| nq (Q_assign rfl) rfl rfl <| WL_nil <| x_then <| C_ret ?_
   replace H := H.f1
   replace H := H.f1
   obtain rfl := Option.some.inj hF
   exact fn_ret (l := [.tmp 4]) (vs := [.pointer (some ⟨b153, 0, none⟩)]) rfl rfl rfl (.inr ⟨b153, v154, c217, x218, rfl, rfl, r219, H⟩)
theorem c_82 {N : Nat} {C : Cx} {w : World} {ρ : View} {hs : List Hl} {v : Value} {x : (List Int)} (H : Hp C w ρ (hs)) (r3 : RdSl ρ (eI .i64) v x) {r : (List Int)} (hF : F_clone_82 N x = some r) :
  Calls Tryd.prog 82 [v].toArray w (Rets (fun v w' => (∃ (v1 : Value) (c1 : List Value) (x1 : (List Int)), x1 = r ∧ v1 = v ∧ rdL (eI .i64) ρ x1 c1 ∧ Hp C w' ρ (Arr v1 1 c1 :: hs)))) := by
 unfold F_clone_82 at hF
 refine fn_calls' (args := [v]) Tryd.func82 rfl (n := 8) rfl (by simp) ?_
 refine C_seq ?_
 refine R_nd ?_
 refine nq (v := .slice none 0 0) (Q_assign rfl) rfl rfl ?_
 refine WL_nil ?_
 refine x_then ?_
 refine C_seq ?_
 refine C_seq ?_
 refine R_nd ?_
 refine nq (v := v) (Q_move rfl) rfl rfl ?_
 obtain ⟨o, c, news, rfl, hn, hs3⟩ : ∃ o c news, v = .slice o x.length c ∧ rdL (eI .i64) ρ x news ∧ (o = none → x = []) ∧ ∀ h', View.le ρ h' → Src h' v 1 news := by
  rcases r3 with ⟨ad, cap, rfl, rfl⟩ | ⟨b, o, cap, cs, rfl, _, h2, h3⟩
  ·exact ⟨ad, cap, [], rfl, rdL.nil, fun _ => rfl, fun _ _ => .inl ⟨ad, cap, rfl, rfl⟩⟩
  ·exact ⟨_, cap, cs, rfl, h2, fun h => (nomatch h), fun _ hl => .inr ⟨b, o, _, cap, rfl, h2.len, h3.up hl⟩⟩
 obtain ⟨hs3, hs4⟩ := hs3
 cases o with
 | none =>
  obtain rfl := hs3 rfl
  refine nq (v := .bool true) (Q_eqlS (o := none) Tryd.underlying23 rfl) rfl rfl ?_
  refine WL_nil ?_
  refine x_then ?_
  refine C_cond rfl (fun _ => ?_) (fun h => nomatch h)
  refine C_seq ?_
  refine R_nd ?_
  refine nq (v := .slice none 0 0) (Q_assign rfl) rfl rfl ?_
  refine WL_nil ?_
  refine x_then ?_
  refine C_ret ?_
  refine x_then_ret ?_
  obtain ⟨_, rfl⟩ := app_some hF
  exact fn_ret (l := [.tmp 2]) (vs := [.slice none 0 0]) rfl rfl rfl ⟨_, [], _, rfl, rfl, rdL.nil, H.nilArr 1⟩
 | some a =>
  refine nq (v := .bool false) (Q_eqlS (o := some a) Tryd.underlying23 rfl) rfl rfl ?_
  refine WL_nil ?_
  refine x_then ?_
  refine C_cond rfl (fun h => nomatch h) (fun _ => ?_)
  refine C_skip ?_
  refine x_then ?_
  obtain ⟨ha, rfl⟩ := app_some hF
  refine C_seq ?_
  refine R_nd ?_
  refine ne (E_bslice0 H Tryd.underlying23 ty3) rfl rfl ?_
  rintro _ w1 ⟨b1, rfl, H1⟩
  refine nq (Q_move rfl) rfl rfl ?_
  have hs5 := hs4 _ H1.view
  refine ne (E_append (k := 0) (cs := []) (news := news) H1 rfl Tryd.underlying23 ty3 rfl (by decide) (by decide) rfl rfl hs5 (rdL.one hn) (app_fit rdL.nil hn ha)) rfl rfl ?_
  rintro v2 w2 ⟨H2, _⟩
  refine nq (v := v2) (Q_assign rfl) rfl rfl ?_
  refine WL_nil ?_
  refine x_then ?_
  refine C_ret ?_
  exact fn_ret (l := [.tmp 2]) (vs := [v2]) rfl rfl rfl ⟨v2, _, _, rfl, rfl, rdL.app rdL.nil hn, H2⟩
theorem c_87_1 {N : Nat} {C : Cx} {w : World} {ρ : View} {hs : List Hl} (H : Hp C w ρ (hs)) {r : Unit} (hF : F_marks_Marks_Size_1 N = some r) :
  Calls Tryd.prog 87 [.pointer none].toArray w (Rets (fun v w' => (() = r ∧ .int .i64 0 = v ∧ Hp C w' ρ (hs)))) := by
 unfold F_marks_Marks_Size_1 at hF
 have h0 : Tryd.f87.body = some _ := rfl
 refine fn_calls' Tryd.func87 h0 (n := 9) rfl (by simp) <| C_seq <| R_nd <| nq (Q_assign rfl) rfl rfl <| WL_nil <| x_then <| C_seq <| C_seq <| R_nd <| nq (Q_move rfl) rfl rfl <| nq (v := .bool true) (Q_eqlP (o := none) Tryd.underlying61 rfl) rfl rfl <| WL_nil <| x_then ?_
 refine C_cond rfl (fun _ => ?_) (fun h => nomatch h)
 refine C_seq <| R_nd <| nq (Q_assign rfl) rfl rfl <| WL_nil <| x_then <| C_ret <| x_then_ret ?_
 obtain rfl := Option.some.inj hF
 exact fn_ret (l := [.tmp 2]) (vs := [.int .i64 0]) rfl rfl rfl ⟨rfl, rfl, H⟩
theorem c_76_1 {N : Nat} {C : Cx} {w : World} {ρ : View} {hs : List Hl} {x1 : Int} (H : Hp C w ρ (hs)) {r : (Int × Int × Bool)} (hF : F_marks_Marks_at_1 N x1 = some r) :
  Calls Tryd.prog 76 [.pointer none, .int .i64 x1].toArray w (Rets (fun v w' => (∃ (x15 : Int) (x16 : Int) (x17 : Bool), (x15, x16, x17) = r ∧ .tuple [.int .i64 x15, .int .u64 x16, .bool x17].toArray = v ∧ Hp C w' ρ (hs)))) := by
 unfold F_marks_Marks_at_1 at hF
 have h0 : Tryd.f76.body = some _ := rfl
 refine fn_calls' Tryd.func76 h0 (n := 21) rfl (by simp) <| C_seq <| R_nd <| nq (Q_assign rfl) rfl rfl <| nq (Q_assign rfl) rfl rfl <| nq (Q_assign rfl) rfl rfl <| WL_nil <| x_then ?_
 obtain ⟨o25, ho25, hF⟩ := bnd hF
 refine C_cut (fun a w' => ∃ (x22 : Int) (x23 : Int) (x24 : Bool), (x22, x23, x24) = o25 ∧ Fr 21 a [(4, .int .i64 x22), (5, .int .u64 x23), (6, .bool x24)] ∧ Hp C w' ρ (hs)) ?_ ?_
 ·refine R_nd <| nq (Q_move rfl) rfl rfl <| nq (Q_quo rfl rfl (by decide)) rfl rfl <| nq (Q_move rfl) rfl rfl <| nq (Q_cvI ⟨_, Tryd.underlying3⟩ Tryd.underlying59 rfl) rfl rfl <| nq (Q_rem rfl rfl (by decide)) rfl rfl ?_
  obtain ⟨x26, hx26, ho25⟩ := bnd ho25
  refine nq (Q_shl rfl rfl (nn_some hx26)) rfl rfl <| nq (Q_move rfl) rfl rfl <| nq (Q_geq rfl rfl) rfl rfl <| nq (Q_move rfl) rfl rfl ?_
  rcases Bool.eq_false_or_eq_true (decide (x1 ≥ 0)) with hb | hb
  ·rw [hb]
   replace ho25 := itT hb ho25
   refine gq (Q_move rfl) rfl rfl rfl <| gq (Q_move rfl) rfl rfl rfl ?_
   obtain ⟨q27, hq27, ho25⟩ := bnd ho25
   refine ge (E_call fn87 rfl (c_87_1 H   hq27)) rfl rfl rfl ?_
   rintro _ wd29 ⟨rfl, rfl, H⟩
   try dsimp only at ho25
   refine gq (Q_lss rfl rfl) rfl rfl rfl <| nq (Q_pickT rfl rfl) rfl rfl <| nq (Q_assign rfl) rfl rfl <| nq (Q_assign rfl) rfl rfl <| nq (Q_assign rfl) rfl rfl <| WL_nil ?_
   obtain rfl := Option.some.inj ho25
   refine x_A fun a hf => ⟨w64 (x1.tdiv 64), shlI .u64 1 ((IntKind.wrap .u64 x1).tmod 64), decide (x1 < 0), rfl, hf.sub ⟨rfl, rfl, rfl, trivial⟩, H⟩
  ·rw [hb]
   replace ho25 := itF hb ho25
   refine gs rfl rfl rfl rfl <| gs rfl rfl rfl rfl <| gs rfl rfl rfl rfl <| gs rfl rfl rfl rfl <| nq (Q_pickF rfl rfl) rfl rfl <| nq (Q_assign rfl) rfl rfl <| nq (Q_assign rfl) rfl rfl <| nq (Q_assign rfl) rfl rfl <| WL_nil ?_
   obtain rfl := Option.some.inj ho25
   refine x_A fun a hf => ⟨w64 (x1.tdiv 64), shlI .u64 1 ((IntKind.wrap .u64 x1).tmod 64), false, rfl, hf.sub ⟨rfl, rfl, rfl, trivial⟩, H⟩
 ·rintro a wd30 ⟨x22, x23, x24, rfl, hf, H⟩
  try dsimp only at hF
  refine CW.at hf <| C_ret ?_
  obtain rfl := Option.some.inj hF
  exact fn_ret (l := [.tmp 4, .tmp 5, .tmp 6]) (vs := [.int .i64 x22, .int .u64 x23, .bool x24]) rfl rfl rfl ⟨x22, x23, x24, rfl, rfl, H⟩
theorem c_52_1 {N : Nat} {C : Cx} {w : World} {ρ : View} {hs : List Hl} {x1 : Int} (H : Hp C w ρ (hs)) {r : Unit} (hF : F_marks_Marks_Put_1 N x1 = some r) :
  Calls Tryd.prog 52 [.pointer none, .int .i64 x1].toArray w (Rets (fun v w' => (() = r ∧ .bool false = v ∧ Hp C w' ρ (hs)))) := by
 unfold F_marks_Marks_Put_1 at hF
 have h0 : Tryd.f52.body = some _ := rfl
 refine fn_calls' Tryd.func52 h0 (n := 39) rfl (by simp) <| C_seq <| R_nd <| nq (Q_assign rfl) rfl rfl <| WL_nil <| x_then <| C_seq <| R_nd <| nq (Q_move rfl) rfl rfl <| nq (Q_move rfl) rfl rfl ?_
 obtain ⟨q10, hq10, hF⟩ := bnd hF
 refine ne (E_call fn76 rfl (c_76_1 H   hq10)) rfl rfl ?_
 rintro _ wd15 ⟨x12, x13, x14, rfl, rfl, H⟩
 try dsimp only at hF
 refine nq (Q_move rfl) rfl rfl <| nq (Q_extract rfl rfl) rfl rfl <| nq (Q_extract rfl rfl) rfl rfl <| nq (Q_extract rfl rfl) rfl rfl <| nq (Q_assign rfl) rfl rfl <| nq (Q_assign rfl) rfl rfl <| nq (Q_assign rfl) rfl rfl <| WL_nil <| x_then <| C_seq ?_
 obtain ⟨o16, ho16, hF⟩ := bnd hF
 refine C_cut (fun a w' => Fr 39 a [(0, .pointer none), (5, .int .i64 x12), (6, .int .u64 x13), (28, .bool true)] ∧ Hp C w' ρ (hs)) ?_ ?_
 ·refine R_nd <| nq (Q_move rfl) rfl rfl <| nq (Q_not rfl) rfl rfl <| nq (Q_move rfl) rfl rfl ?_
  rcases Bool.eq_false_or_eq_true (!x14) with hb | hb
  ·rw [hb]
   replace ho16 := itT hb ho16
   refine gs rfl rfl rfl rfl <| gs rfl rfl rfl rfl <| gs rfl rfl rfl rfl <| gs rfl rfl rfl rfl <| gs rfl rfl rfl rfl <| gs rfl rfl rfl rfl <| gs rfl rfl rfl rfl <| gs rfl rfl rfl rfl <| gs rfl rfl rfl rfl <| gs rfl rfl rfl rfl <| nq (Q_pickT rfl rfl) rfl rfl <| WL_nil ?_
   obtain rfl := Option.some.inj ho16
   refine x_A fun a hf => ⟨hf.sub ⟨rfl, rfl, rfl, rfl, trivial⟩, H⟩
  ·rw [hb]
   replace ho16 := itF hb ho16
   refine gq (Q_move rfl) rfl rfl rfl ?_
   cases ho16
 ·rintro a wd17 ⟨hf, H⟩
  try dsimp only at hF
  refine CW.at hf ?_
  refine C_cond rfl (fun _ => ?_) (fun h => nomatch h)
  refine C_seq <| R_nd <| nq (Q_assign rfl) rfl rfl <| WL_nil <| x_then <| C_ret <| x_then_ret ?_
  obtain rfl := Option.some.inj hF
  exact fn_ret (l := [.tmp 4]) (vs := [.bool false]) rfl rfl rfl ⟨rfl, rfl, H⟩
theorem c_63 {N : Nat} {C : Cx} {w : World} {ρ : View} {hs : List Hl} {v1 : Value} {v4 : Value} {v7 : Value} {x2 : (List (List Int))} {x5 : (List Int)} {x8 : (List Int)} (H : Hp C w ρ (hs)) {ge0 : Value} (gl0 : GErr ρ 0 ge0) (r3 : RdSl ρ (eA 256 (eI .i64)) v1 x2) (r6 : RdSl ρ (eI .i64) v4 x5) (r9 : RdSl ρ (eI .i64) v7 x8) {r : (Unit ⊕ (List Int))} (hF : F_trim_reached N x2 x5 x8 = some r) :
  Calls Tryd.prog 63 [.agg #[v1, v4, v7]].toArray w (Rets (fun v w' => (.inl () = r ∧ .pointer none = v ∧ Hp C w' ρ (hs)) ∨ (∃ (b1151 : Nat) (v1152 : Value) (c1153 : (List Value)) (x1154 : (List Int)), .inr x1154 = r ∧ .pointer (some ⟨b1151, 0, none⟩) = v ∧ rdL (eI .u64) ρ x1154 c1153 ∧ Hp C w' ρ (Box b1151 [v1152, .int .i64 (x2.length : Int)] :: Arr v1152 1 c1153 :: hs)))) := by
 unfold F_trim_reached at hF
 have h0 : Tryd.f63.body = some _ := rfl
 refine fn_calls' Tryd.func63 h0 (n := 31) rfl (by simp) <| C_seq <| R_nd <| ne (E_box H (vs := [v1, v4, v7]) rfl rfl) rfl rfl ?_
 rintro _ wd1157 ⟨b1156, rfl, H⟩
 refine nq (Q_assign rfl) rfl rfl <| WL_nil <| x_then <| C_seq <| R_nd <| nq (v := .agg #[v1, v4, v7]) (Q_ldB (k := 0) (cs := [v1, v4, v7]) H.ok rfl ty25 rfl rfl rfl (fun h => nomatch h) rfl) rfl rfl <| ne (E_bslice (xs := [.const (.int .i64 0)]) (vs := [.int .i64 0]) H Tryd.underlying23 ty3 (by decide) (cs := [.int .i64 0]) rfl (sz_cons rfl sz_nil) rfl (by simp) (by simp) rfl rfl) rfl rfl ?_
 rintro _ wd1159 ⟨b1158, rfl, H⟩
 obtain ⟨q1160, hq1160, hF⟩ := bnd hF
 obtain ⟨C', ρ', hl1161, HA, hL, hback⟩ := Hp.lend (A := []) (L := [Arr (.slice (some ⟨b1158, 0, none⟩) 1 1) 1 ([.int .i64 0])]) (F := Box b1156 [v1, v4, v7] :: hs) H
 refine ne (E_call fn66 rfl (c_66 HA (gl0.up hl1161) (r3.up hl1161) (r6.up hl1161) (r9.up hl1161) (arr_rd (by decide) hl1161 (hL (Arr (.slice (some ⟨b1158, 0, none⟩) 1 1) 1 ([.int .i64 0])) (by simp)) (show rdL (eI .i64) ρ ([0]) ([.int .i64 0]) from ⟨([.int .i64 0]), _, rfl, rfl, rdL.nil⟩)) hq1160)) rfl rfl ?_
 rintro _ wd1167 (⟨rfl, rfl, H⟩ | ⟨b1162, v1163, c1164, x1165, rfl, rfl, r1166, H⟩)
 ·try dsimp only at hF
  replace H := hback H
  dsimp only [List.cons_append, List.nil_append] at H
  refine nq (Q_assign rfl) rfl rfl <| WL_nil <| x_then <| C_seq <| R_nd <| nq (v := .pointer (some ⟨b1156, 2, none⟩)) (Q_fld Tryd.underlying25 rfl ty23 (by decide) rfl rfl) rfl rfl <| nq (v := v7) (Q_ldB (k := 1) (cs := [v7]) H.ok rfl ty23 rfl rfl rfl (fun _ => rfl) rfl) rfl rfl ?_
  obtain ⟨q1168, hq1168, hF⟩ := bnd hF
  refine ne (E_call fn82 rfl (c_82 H  r9 hq1168)) rfl rfl ?_
  rintro _ wd1174 ⟨v1170, c1171, x1172, rfl, rfl, r1173, H⟩
  try dsimp only at hF
  refine nq (Q_assign rfl) rfl rfl <| WL_nil <| x_then ?_
  obtain ⟨o1323, ho1323, hF⟩ := bnd hF
  refine C_cut (fun a w' => Fr 31 a [(3, .pointer none)] ∧ Hp C w' ρ (hs)) ?_ ?_
  ·refine C_block ?_
   replace H := H.f2
   replace H := H.drop 2 rfl
   dsimp only [List.eraseIdx] at H
   refine C_iter (f := fun s => F_trim_reached_l0 N s) ho1323 (fun s a w' => ∃ (v1372 : Value) (c1373 : (List Value)) (x1374 : (List Int)), x1374 = s ∧ rdL (eI .i64) ρ x1374 c1373 ∧ Fr 31 a [(1, .pointer (some ⟨b1156, 0, none⟩)), (3, .pointer none), (4, v1372)] ∧ Hp C w' ρ (Box b1156 [v1, v4, v7] :: Arr v1372 1 c1373 :: hs)) ?_ ?_
   ·exact fun a hf => ⟨v1170, c1171, x1172, rfl, r1173, hf.sub ⟨rfl, rfl, rfl, trivial⟩, H⟩
   ·rintro s o1424 a wd1427 ⟨v1372, c1373, x1374, rfl, r1375, hf, H⟩ hB1425 hO1426
    replace hB1425 : F_trim_reached_l0 N x1374 = some o1424 := hB1425
    unfold F_trim_reached_l0 at hB1425
    refine CW.at hf <| C_seq <| C_seq <| R_nd <| nq (Q_move rfl) rfl rfl <| nq (Q_lenA (k := 1) H.ok rfl r1375 (by decide) Tryd.underlying23 rfl) rfl rfl <| nq (Q_gtr rfl rfl) rfl rfl <| WL_nil <| x_then ?_
    refine C_cond rfl (fun hb => ?_) (fun hb => ?_)
    ·replace hB1425 := itT hb hB1425
     refine C_skip <| x_then ?_
     obtain ⟨o1451, ho1451, hB1425⟩ := bnd hB1425
     refine C_cutQ (fun a w' => ∃ (v1447 : Value) (c1448 : (List Value)) (x1449 : (List Int)), x1449 = o1451 ∧ rdL (eI .i64) ρ x1449 c1448 ∧ Fr 31 a [(1, .pointer (some ⟨b1156, 0, none⟩)), (3, .pointer none), (4, v1447)] ∧ Hp C w' ρ (Box b1156 [v1, v4, v7] :: Arr v1447 1 c1448 :: hs)) ?_ ?_
     ·refine C_block <| C_seq <| R_nd <| nq (Q_move rfl) rfl rfl ?_
      obtain ⟨x1452, hx1452, ho1451⟩ := bnd ho1451
      obtain ⟨b1453, o1454, hi1458, hc1456, ha1457⟩ := arr_at (hs := [Arr v1372 1 c1373]) (k := 0) (by decide) (H.okS (by simp)) rfl r1375 hx1452
      refine nq (Q_idx hi1458 Tryd.underlying23 ty3 rfl rfl) rfl rfl <| nq (v := .int .i64 x1452) (Q_ld (show cellsAt _ _ _ [.int .i64 x1452] from (show _ = [_] from hc1456) ▸ (ha1457 _ (Ok.subS (by simp) H.ok))) ty3 rfl (fun _ => rfl) rfl rfl) rfl rfl <| nq (Q_assign rfl) rfl rfl <| WL_nil <| x_then <| C_seq <| R_nd <| nq (Q_move rfl) rfl rfl ?_
      obtain ⟨x1459, hx1459, ho1451⟩ := bnd ho1451
      obtain ⟨v1461, c1464, H, r1462, hq1465⟩ := sliceW (P := Tryd.prog) (en := (eI .i64)) (k := 1) H rfl (by decide) r1375 hx1459
      dsimp only [List.set] at H
      refine nq (v := v1461) (hq1465 _ _ _ _ _ _ _ _ _ _ _ _ _ _ _ Tryd.underlying23 ty3 rfl ⟨_, rfl⟩ rfl) rfl rfl <| nq (Q_assign rfl) rfl rfl <| WL_nil <| x_then <| C_seq <| R_nd <| nq (Q_move rfl) rfl rfl <| nq (Q_move rfl) rfl rfl ?_
      obtain ⟨q1466, hq1466, ho1451⟩ := bnd ho1451
      refine ne (E_call fn52 rfl (c_52_1 H   hq1466)) rfl rfl ?_
      rintro _ wd1468 ⟨rfl, rfl, H⟩
      try dsimp only at ho1451
      refine WL_nil <| x_then ?_
      obtain ⟨o1469, ho1469, ho1451⟩ := bnd ho1451
      refine C_cutQ (fun a w' => Fr 31 a [(1, .pointer (some ⟨b1156, 0, none⟩)), (3, .pointer none), (4, v1461)] ∧ Hp C w' ρ (Box b1156 [v1, v4, v7] :: Arr v1461 1 c1464 :: hs)) ?_ ?_
      ·refine C_cond rfl (fun h => nomatch h) (fun _ => ?_)
       refine C_skip ?_
       replace H := H.f1
       replace H := H.f1
       obtain rfl := Option.some.inj ho1469
       refine x_A fun a hf => ⟨hf.sub ⟨rfl, rfl, rfl, trivial⟩, H⟩
      ·rintro a wd1470 ⟨hf, H⟩
       try dsimp only at ho1451
       refine XX.at hf <| x_block ?_
       replace H := H.f1
       replace H := H.f1
       obtain rfl := Option.some.inj ho1451
       refine x_A fun a hf => ⟨v1461, c1464, x1459, rfl, r1462, hf.sub ⟨rfl, rfl, rfl, trivial⟩, H⟩
     ·rintro a wd1471 ⟨v1447, c1448, x1449, rfl, r1450, hf, H⟩
      try dsimp only at hB1425
      refine XX.at hf ?_
      replace H := H.f1
      replace H := H.f1
      obtain rfl := Option.some.inj hB1425
      refine x_A fun a hf => ⟨_, rfl, v1447, c1448, x1449, rfl, r1450, hf.sub ⟨rfl, rfl, rfl, trivial⟩, H⟩
    ·replace hB1425 := itF hb hB1425
     refine C_exit <| x_then_exit <| x_then_exit <| x_block_exit ?_
     replace H := H.drop 0 rfl
     dsimp only [List.eraseIdx] at H
     replace H := H.drop 0 rfl
     dsimp only [List.eraseIdx] at H
     obtain rfl := Option.some.inj hB1425
     obtain rfl := hO1426 _ rfl
     refine x_A fun a hf => ⟨hf.sub ⟨rfl, trivial⟩, H⟩
  ·rintro a wd1472 ⟨hf, H⟩
   try dsimp only at hF
   refine CW.at hf <| C_seq <| R_nd <| nq (Q_move rfl) rfl rfl <| nq (Q_assign rfl) rfl rfl <| WL_nil <| x_then <| C_ret ?_
   obtain rfl := Option.some.inj hF
   exact fn_ret (l := [.tmp 2]) (vs := [.pointer none]) rfl rfl rfl (.inl ⟨rfl, rfl, H⟩)
 ·try dsimp only at hF
  replace H := hback H
  replace r1166 := rdL.flat (ρ := ρ') (ρ' := ρ) (flat_I _) r1166
  dsimp only [List.cons_append, List.nil_append] at H
  refine nq (Q_assign rfl) rfl rfl <| WL_nil <| x_then <| C_seq <| R_nd <| nq (v := .pointer (some ⟨b1156, 2, none⟩)) (Q_fld Tryd.underlying25 rfl ty23 (by decide) rfl rfl) rfl rfl <| nq (v := v7) (Q_ldB (k := 3) (cs := [v7]) H.ok rfl ty23 rfl rfl rfl (fun _ => rfl) rfl) rfl rfl ?_
  obtain ⟨q1473, hq1473, hF⟩ := bnd hF
  refine ne (E_call fn82 rfl (c_82 H  r9 hq1473)) rfl rfl ?_
  rintro _ wd1479 ⟨v1475, c1476, x1477, rfl, rfl, r1478, H⟩
  try dsimp only at hF
  refine nq (Q_assign rfl) rfl rfl <| WL_nil <| x_then ?_
  obtain ⟨o1889, ho1889, hF⟩ := bnd hF
  refine C_cut (fun a w' => ∃ (c1886 : (List Value)) (x1887 : (List Int)), x1887 = o1889 ∧ rdL (eI .u64) ρ x1887 c1886 ∧ Fr 31 a [(3, .pointer (some ⟨b1162, 0, none⟩))] ∧ Hp C w' ρ (Box b1162 [v1163, .int .i64 (x2.length : Int)] :: Arr v1163 1 c1886 :: hs)) ?_ ?_
  ·refine C_block ?_
   replace H := H.f2
   replace H := H.f2
   replace H := H.f4
   replace H := H.drop 4 rfl
   dsimp only [List.eraseIdx] at H
   refine C_iter (f := fun s => F_trim_reached_l1 N x2 s.1 s.2) ho1889 (fun s a w' => ∃ (c2024 : (List Value)) (v2027 : Value) (c2028 : (List Value)) (x2025 : (List Int)) (x2029 : (List Int)), (x2025, x2029) = s ∧ rdL (eI .u64) ρ x2025 c2024 ∧ rdL (eI .i64) ρ x2029 c2028 ∧ Fr 31 a [(1, .pointer (some ⟨b1156, 0, none⟩)), (3, .pointer (some ⟨b1162, 0, none⟩)), (4, v2027)] ∧ Hp C w' ρ (Box b1156 [v1, v4, v7] :: Box b1162 [v1163, .int .i64 (x2.length : Int)] :: Arr v1163 1 c2024 :: Arr v2027 1 c2028 :: hs)) ?_ ?_
   ·exact fun a hf => ⟨c1164, v1475, c1476, x1165, x1477, rfl, r1166, r1478, hf.sub ⟨rfl, rfl, rfl, trivial⟩, H⟩
   ·rintro s o2165 a wd2168 ⟨c2024, v2027, c2028, x2025, x2029, rfl, r2026, r2030, hf, H⟩ hB2166 hO2167
    replace hB2166 : F_trim_reached_l1 N x2 x2025 x2029 = some o2165 := hB2166
    unfold F_trim_reached_l1 at hB2166
    refine CW.at hf <| C_seq <| C_seq <| R_nd <| nq (Q_move rfl) rfl rfl <| nq (Q_lenA (k := 3) H.ok rfl r2030 (by decide) Tryd.underlying23 rfl) rfl rfl <| nq (Q_gtr rfl rfl) rfl rfl <| WL_nil <| x_then ?_
    refine C_cond rfl (fun hb => ?_) (fun hb => ?_)
    ·replace hB2166 := itT hb hB2166
     refine C_skip <| x_then ?_
     obtain ⟨o2235, ho2235, hB2166⟩ := bnd hB2166
     refine C_cutQ (fun a w' => ∃ (c2228 : (List Value)) (v2231 : Value) (c2232 : (List Value)) (x2229 : (List Int)) (x2233 : (List Int)), (x2229, x2233) = o2235 ∧ rdL (eI .u64) ρ x2229 c2228 ∧ rdL (eI .i64) ρ x2233 c2232 ∧ Fr 31 a [(1, .pointer (some ⟨b1156, 0, none⟩)), (3, .pointer (some ⟨b1162, 0, none⟩)), (4, v2231)] ∧ Hp C w' ρ (Box b1156 [v1, v4, v7] :: Box b1162 [v1163, .int .i64 (x2.length : Int)] :: Arr v1163 1 c2228 :: Arr v2231 1 c2232 :: hs)) ?_ ?_
     ·refine C_block <| C_seq <| R_nd <| nq (Q_move rfl) rfl rfl ?_
      obtain ⟨x2236, hx2236, ho2235⟩ := bnd ho2235
      obtain ⟨b2237, o2238, hi2242, hc2240, ha2241⟩ := arr_at (hs := [Arr v2027 1 c2028]) (k := 0) (by decide) (H.okS (by simp)) rfl r2030 hx2236
      refine nq (Q_idx hi2242 Tryd.underlying23 ty3 rfl rfl) rfl rfl <| nq (v := .int .i64 x2236) (Q_ld (show cellsAt _ _ _ [.int .i64 x2236] from (show _ = [_] from hc2240) ▸ (ha2241 _ (Ok.subS (by simp) H.ok))) ty3 rfl (fun _ => rfl) rfl rfl) rfl rfl <| nq (Q_assign rfl) rfl rfl <| WL_nil <| x_then <| C_seq <| R_nd <| nq (Q_move rfl) rfl rfl ?_
      obtain ⟨x2243, hx2243, ho2235⟩ := bnd ho2235
      obtain ⟨v2245, c2248, H, r2246, hq2249⟩ := sliceW (P := Tryd.prog) (en := (eI .i64)) (k := 3) H rfl (by decide) r2030 hx2243
      dsimp only [List.set] at H
      refine nq (v := v2245) (hq2249 _ _ _ _ _ _ _ _ _ _ _ _ _ _ _ Tryd.underlying23 ty3 rfl ⟨_, rfl⟩ rfl) rfl rfl <| nq (Q_assign rfl) rfl rfl <| WL_nil <| x_then <| C_seq <| R_nd <| nq (Q_move rfl) rfl rfl <| nq (Q_move rfl) rfl rfl ?_
      replace H := H.f2
      replace H := H.f2
      obtain ⟨q2250, hq2250, ho2235⟩ := bnd ho2235
      refine ne (E_call fn52 rfl (c_52 H  r2026 hq2250)) rfl rfl ?_
      rintro _ wd2256 ⟨c2252, x2253, x2254, rfl, rfl, r2255, H⟩
      try dsimp only at ho2235
      refine WL_nil <| x_then ?_
      obtain ⟨o2277, ho2277, ho2235⟩ := bnd ho2235
      refine C_cutQ (fun a w' => ∃ (v2273 : Value) (c2274 : (List Value)) (x2275 : (List Int)), x2275 = o2277 ∧ rdL (eI .i64) ρ x2275 c2274 ∧ Fr 31 a [(1, .pointer (some ⟨b1156, 0, none⟩)), (3, .pointer (some ⟨b1162, 0, none⟩)), (4, v2273)] ∧ Hp C w' ρ (Box b1156 [v1, v4, v7] :: Box b1162 [v1163, .int .i64 (x2.length : Int)] :: Arr v1163 1 c2252 :: Arr v2273 1 c2274 :: hs)) ?_ ?_
      ·refine C_cond rfl (fun hb => ?_) (fun hb => ?_)
       ·replace ho2277 := itT hb ho2277
        refine R_nd <| nq (Q_move rfl) rfl rfl <| nq (v := .pointer (some ⟨b1156, 0, none⟩)) (Q_fld Tryd.underlying25 rfl ty22 (by decide) rfl rfl) rfl rfl <| nq (v := v1) (Q_ldB (k := 2) (cs := [v1]) H.ok rfl ty22 rfl rfl rfl (fun _ => rfl) rfl) rfl rfl <| nq (Q_move rfl) rfl rfl ?_
        obtain ⟨x2278, hx2278, ho2277⟩ := bnd ho2277
        obtain ⟨b2279, o2280, c2281, hc2282, ha2283, hi2284⟩ := idxR r3 hx2278
        refine nq (Q_idx hi2284 Tryd.underlying22 ty58 rfl rfl) rfl rfl <| nq (v := (.slice (some ⟨b2279, o2280, none⟩) 256 256)) (Q_slE Tryd.underlying58 ty3 rfl) rfl rfl ?_
        obtain ⟨x2285, hx2285, ho2277⟩ := bnd ho2277
        obtain ⟨ha2286a, ha2286b⟩ := app_some hx2285
        obtain ⟨c2287, r2288, hs2289⟩ := Src.ofRd H.ok (rd_of_arr hc2282 ha2283)
        have r2291 : rdL (eI .i64) ρ x2285 (c2248 ++ c2287) := ha2286b ▸ rdL.app r2246 r2288
        refine ne (E_append (k := 3) H rfl Tryd.underlying23 ty3 rfl (by decide) (by decide) rfl rfl hs2289 (rdL.one r2288) (app_fit r2246 r2288 ha2286a)) rfl rfl ?_
        rintro v2290 wd2293 ⟨H, hc2292⟩
        dsimp only [List.set] at H
        refine nq (Q_assign rfl) rfl rfl <| WL_nil ?_
        replace H := H.f3
        replace H := H.f2
        replace H := H.f2
        replace H := H.f3
        obtain rfl := Option.some.inj ho2277
        refine x_A fun a hf => ⟨v2290, (c2248 ++ c2287), x2285, rfl, r2291, hf.sub ⟨rfl, rfl, rfl, trivial⟩, H⟩
       ·replace ho2277 := itF hb ho2277
        refine C_skip ?_
        replace H := H.f3
        replace H := H.f2
        replace H := H.f2
        replace H := H.f3
        obtain rfl := Option.some.inj ho2277
        refine x_A fun a hf => ⟨v2245, c2248, x2243, rfl, r2246, hf.sub ⟨rfl, rfl, rfl, trivial⟩, H⟩
      ·rintro a wd2294 ⟨v2273, c2274, x2275, rfl, r2276, hf, H⟩
       try dsimp only at ho2235
       refine XX.at hf <| x_block ?_
       replace H := H.f3
       replace H := H.f3
       replace H := H.f3
       replace H := H.f3
       obtain rfl := Option.some.inj ho2235
       refine x_A fun a hf => ⟨c2252, v2273, c2274, x2253, x2275, rfl, r2255, r2276, hf.sub ⟨rfl, rfl, rfl, trivial⟩, H⟩
     ·rintro a wd2295 ⟨c2228, v2231, c2232, x2229, x2233, rfl, r2230, r2234, hf, H⟩
      try dsimp only at hB2166
      refine XX.at hf ?_
      replace H := H.f3
      replace H := H.f3
      replace H := H.f3
      replace H := H.f3
      obtain rfl := Option.some.inj hB2166
      refine x_A fun a hf => ⟨_, rfl, c2228, v2231, c2232, x2229, x2233, rfl, r2230, r2234, hf.sub ⟨rfl, rfl, rfl, trivial⟩, H⟩
    ·replace hB2166 := itF hb hB2166
     refine C_exit <| x_then_exit <| x_then_exit <| x_block_exit ?_
     replace H := H.f2
     replace H := H.f2
     replace H := H.drop 2 rfl
     dsimp only [List.eraseIdx] at H
     replace H := H.drop 2 rfl
     dsimp only [List.eraseIdx] at H
     obtain rfl := Option.some.inj hB2166
     obtain rfl := hO2167 _ rfl
     refine x_A fun a hf => ⟨c2024, x2025, rfl, r2026, hf.sub ⟨rfl, trivial⟩, H⟩
  ·rintro a wd2296 ⟨c1886, x1887, rfl, r1888, hf, H⟩
   try dsimp only at hF
   refine CW.at hf <| C_seq <| R_nd <| nq (Q_move rfl) rfl rfl <| nq (Q_assign rfl) rfl rfl <| WL_nil <| x_then <| C_ret ?_
   replace H := H.f1
   replace H := H.f1
   obtain rfl := Option.some.inj hF
   exact fn_ret (l := [.tmp 2]) (vs := [.pointer (some ⟨b1162, 0, none⟩)]) rfl rfl rfl (.inr ⟨b1162, v1163, c1886, x1887, rfl, rfl, r1888, H⟩)
theorem c_77_1 {N : Nat} {C : Cx} {w : World} {ρ : View} {hs : List Hl} (H : Hp C w ρ (hs)) {r : Unit} (hF : F_marks_Marks_own_1 N = some r) :
  Calls Tryd.prog 77 [.pointer none].toArray w (Rets (fun v w' => (() = r ∧ (.slice none 0 0) = v ∧ Hp C w' ρ (Arr (.slice none 0 0) 1 ([]) :: hs)))) := by
 unfold F_marks_Marks_own_1 at hF
 have h0 : Tryd.f77.body = some _ := rfl
 refine fn_calls' Tryd.func77 h0 (n := 9) rfl (by simp) <| C_seq <| R_nd <| nq (Q_assign rfl) rfl rfl <| WL_nil <| x_then <| C_seq <| C_seq <| R_nd <| nq (Q_move rfl) rfl rfl <| nq (v := .bool true) (Q_eqlP (o := none) Tryd.underlying61 rfl) rfl rfl <| WL_nil <| x_then ?_
 refine C_cond rfl (fun _ => ?_) (fun h => nomatch h)
 refine C_seq <| R_nd <| nq (Q_assign rfl) rfl rfl <| WL_nil <| x_then <| C_ret <| x_then_ret ?_
 have H := H.nilArr 1
 obtain rfl := Option.some.inj hF
 exact fn_ret (l := [.tmp 2]) (vs := [(.slice none 0 0)]) rfl rfl rfl ⟨rfl, rfl, H⟩
theorem c_83 {N : Nat} {C : Cx} {w : World} {ρ : View} {hs : List Hl} {x1 : Int} (H : Hp C w ρ (hs)) {r : Unit} (hF : F_marks_Marks_After N x1 = some r) :
  Calls Tryd.prog 83 [.pointer none, .int .i64 x1].toArray w (Rets (fun v w' => (() = r ∧ .int .i64 (-1) = v ∧ Hp C w' ρ (hs)))) := by
 unfold F_marks_Marks_After at hF
 have h0 : Tryd.f83.body = some _ := rfl
 refine fn_calls' Tryd.func83 h0 (n := 48) rfl (by simp) <| C_seq <| R_nd <| nq (Q_assign rfl) rfl rfl <| WL_nil <| x_then <| C_seq <| C_seq <| R_nd <| nq (Q_move rfl) rfl rfl <| nq (Q_move rfl) rfl rfl ?_
 obtain ⟨q35, hq35, hF⟩ := bnd hF
 refine ne (E_call fn87 rfl (c_87_1 H   hq35)) rfl rfl ?_
 rintro _ wd37 ⟨rfl, rfl, H⟩
 try dsimp only at hF
 refine nq (Q_geq rfl rfl) rfl rfl <| WL_nil <| x_then ?_
 refine C_cond rfl (fun hb => ?_) (fun hb => ?_)
 ·replace hF := itT hb hF
  refine C_seq <| R_nd <| nq (Q_assign rfl) rfl rfl <| WL_nil <| x_then <| C_ret <| x_then_ret ?_
  obtain rfl := Option.some.inj hF
  exact fn_ret (l := [.tmp 4]) (vs := [.int .i64 (-1)]) rfl rfl rfl ⟨rfl, rfl, H⟩
 ·replace hF := itF hb hF
  refine C_skip <| x_then <| C_seq <| R_nd <| nq (Q_move rfl) rfl rfl <| nq (v := .int .i64 (imax x1 (-1))) (Q_max rfl rfl) rfl rfl <| nq (Q_add rfl rfl) rfl rfl <| nq (Q_assign rfl) rfl rfl <| WL_nil <| x_then <| C_seq <| C_seq <| R_nd <| nq (Q_move rfl) rfl rfl ?_
  refine nq (Q_quo rfl rfl (by decide)) rfl rfl <| nq (Q_assign rfl) rfl rfl <| WL_nil <| x_then ?_
  obtain ⟨o52, ho52, hF⟩ := bnd hF
  refine C_cutQ (fun a w' => Fr 48 a [] ∧ Hp C w' ρ (hs)) ?_ ?_
  ·refine C_block ?_
   refine C_iter (f := fun s => F_marks_Marks_After_l0 N s.1 s.2) ho52 (fun s a w' => ∃ (x53 : Int) (x54 : Int), (x53, x54) = s ∧ Fr 48 a [(0, .pointer none), (1, .int .i64 x53), (5, .int .i64 x54)] ∧ Hp C w' ρ (hs)) ?_ ?_
   ·exact fun a hf => ⟨w64 ((imax x1 (-1)) + 1), w64 ((w64 ((imax x1 (-1)) + 1)).tdiv 64), rfl, hf.sub ⟨rfl, rfl, rfl, trivial⟩, H⟩
   ·rintro s o60 a wd63 ⟨x53, x54, rfl, hf, H⟩ hB61 hO62
    replace hB61 : F_marks_Marks_After_l0 N x53 x54 = some o60 := hB61
    unfold F_marks_Marks_After_l0 at hB61
    refine CW.at hf <| C_seq <| C_seq <| R_nd <| nq (Q_move rfl) rfl rfl <| nq (Q_move rfl) rfl rfl ?_
    obtain ⟨q64, hq64, hB61⟩ := bnd hB61
    refine ne (E_call fn77 rfl (c_77_1 H   hq64)) rfl rfl ?_
    rintro _ wd66 ⟨rfl, rfl, H⟩
    try dsimp only at hB61
    refine nq (Q_lenA (en := (eI .u64)) (k := 0) H.ok rfl rdL.nil (by decide) Tryd.underlying92 rfl) rfl rfl <| nq (Q_lss rfl rfl) rfl rfl <| WL_nil <| x_then ?_
    refine C_cond rfl (fun hb => ?_) (fun hb => ?_)
    ·replace hB61 := itT hb hB61
     refine C_skip <| x_then <| C_seq <| C_block <| C_seq <| R_nd <| nq (Q_move rfl) rfl rfl ?_
     cases hB61
    ·replace hB61 := itF hb hB61
     refine C_exit <| x_then_exit <| x_then_exit <| x_block_exit ?_
     replace H := H.drop 0 rfl
     dsimp only [List.eraseIdx] at H
     obtain rfl := Option.some.inj hB61
     obtain rfl := hO62 _ rfl
     refine x_A fun a hf => ⟨hf.sub trivial, H⟩
  ·rintro a wd67 ⟨hf, H⟩
   try dsimp only at hF
   refine XX.at hf <| x_then <| C_seq <| R_nd <| nq (Q_assign rfl) rfl rfl <| WL_nil <| x_then <| C_ret ?_
   obtain rfl := Option.some.inj hF
   exact fn_ret (l := [.tmp 4]) (vs := [.int .i64 (-1)]) rfl rfl rfl ⟨rfl, rfl, H⟩
theorem c_64 {N : Nat} {C : Cx} {w : World} {ρ : View} {hs : List Hl} (H : Hp C w ρ (hs)) {r : (List Int)} (hF : F_marks_Marks_List N = some r) :
  Calls Tryd.prog 64 [.pointer none].toArray w (Rets (fun v w' => (∃ (v108 : Value) (c109 : (List Value)) (x110 : (List Int)), x110 = r ∧ v108 = v ∧ rdL (eI .i64) ρ x110 c109 ∧ Hp C w' ρ (Arr v108 1 c109 :: hs)))) := by
 unfold F_marks_Marks_List at hF
 have h0 : Tryd.f64.body = some _ := rfl
 refine fn_calls' Tryd.func64 h0 (n := 17) rfl (by simp) <| C_seq <| R_nd <| nq (Q_assign rfl) rfl rfl <| WL_nil <| x_then <| C_seq <| R_nd <| nq (Q_assign rfl) rfl rfl <| WL_nil <| x_then <| C_seq <| C_seq <| R_nd ?_
 refine nq (Q_move rfl) rfl rfl ?_
 obtain ⟨q112, hq112, hF⟩ := bnd hF
 refine ne (E_call fn83 rfl (c_83 H   hq112)) rfl rfl ?_
 rintro _ wd114 ⟨rfl, rfl, H⟩
 try dsimp only at hF
 refine nq (Q_assign rfl) rfl rfl <| WL_nil <| x_then ?_
 obtain ⟨o168, ho168, hF⟩ := bnd hF
 refine C_cutQ (fun a w' => ∃ (v164 : Value) (c165 : (List Value)) (x166 : (List Int)), x166 = o168 ∧ rdL (eI .i64) ρ x166 c165 ∧ Fr 17 a [(3, v164)] ∧ Hp C w' ρ (Arr v164 1 c165 :: hs)) ?_ ?_
 ·refine C_block ?_
  have H := H.nilArr 1
  refine C_iter (f := fun s => F_marks_Marks_List_l0 N s) ho168 (fun s a w' => ∃ (v184 : Value) (c185 : (List Value)) (x186 : (List Int)), x186 = s ∧ rdL (eI .i64) ρ x186 c185 ∧ Fr 17 a [(0, .pointer none), (3, v184), (4, .int .i64 (-1))] ∧ Hp C w' ρ (Arr v184 1 c185 :: hs)) ?_ ?_
  ·exact fun a hf => ⟨(.slice none 0 0), [], [], rfl, rdL.nil, hf.sub ⟨rfl, rfl, rfl, trivial⟩, H⟩
  ·rintro s o203 a wd206 ⟨v184, c185, x186, rfl, r187, hf, H⟩ hB204 hO205
   replace hB204 : F_marks_Marks_List_l0 N x186 = some o203 := hB204
   unfold F_marks_Marks_List_l0 at hB204
   refine CW.at hf <| C_seq <| C_seq <| R_nd <| nq (Q_move rfl) rfl rfl <| nq (Q_geq rfl rfl) rfl rfl <| WL_nil <| x_then ?_
   refine C_cond rfl (fun hb => ?_) (fun hb => ?_)
   ·replace hB204 := itT hb hB204
    refine C_skip <| x_then <| C_seq <| C_block <| R_nd <| nq (Q_move rfl) rfl rfl <| nq (Q_move rfl) rfl rfl <| ne (E_bslice (xs := [.tmp 13]) (vs := [.int .i64 (-1)]) H Tryd.underlying23 ty3 (by decide) (cs := [.int .i64 (-1)]) rfl (sz_cons rfl sz_nil) rfl (by simp) (by simp) rfl rfl) rfl rfl ?_
    rintro _ wd208 ⟨b207, rfl, H⟩
    obtain ⟨x209, hx209, hB204⟩ := bnd hB204
    obtain ⟨ha210a, ha210b⟩ := app_some hx209
    have r212 : rdL (eI .i64) ρ x209 (c185 ++ ([.int .i64 (-1)])) := ha210b ▸ rdL.app r187 (show rdL (eI .i64) ρ ([(-1)]) ([.int .i64 (-1)]) from ⟨([.int .i64 (-1)]), _, rfl, rfl, rdL.nil⟩)
    refine ne (E_append (k := 1) H rfl Tryd.underlying23 ty3 rfl (by decide) (by decide) rfl rfl (Src.ofArr (k := 0) H.ok rfl) (rdL.one (show rdL (eI .i64) ρ ([(-1)]) ([.int .i64 (-1)]) from ⟨([.int .i64 (-1)]), _, rfl, rfl, rdL.nil⟩)) (app_fit r187 (show rdL (eI .i64) ρ ([(-1)]) ([.int .i64 (-1)]) from ⟨([.int .i64 (-1)]), _, rfl, rfl, rdL.nil⟩) ha210a)) rfl rfl ?_
    rintro v211 wd214 ⟨H, hc213⟩
    dsimp only [List.set] at H
    refine nq (Q_assign rfl) rfl rfl <| WL_nil <| x_block <| x_then <| R_nd <| nq (Q_move rfl) rfl rfl <| nq (Q_move rfl) rfl rfl ?_
    obtain ⟨q215, hq215, hB204⟩ := bnd hB204
    refine ne (E_call fn83 rfl (c_83 H   hq215)) rfl rfl ?_
    rintro _ wd217 ⟨rfl, rfl, H⟩
    try dsimp only at hB204
    refine nq (Q_assign rfl) rfl rfl <| WL_nil ?_
    replace H := H.f1
    replace H := H.drop 1 rfl
    dsimp only [List.eraseIdx] at H
    obtain rfl := Option.some.inj hB204
    refine x_A fun a hf => ⟨_, rfl, v211, (c185 ++ ([.int .i64 (-1)])), x209, rfl, r212, hf.sub ⟨rfl, rfl, rfl, trivial⟩, H⟩
   ·replace hB204 := itF hb hB204
    refine C_exit <| x_then_exit <| x_then_exit <| x_block_exit ?_
    obtain rfl := Option.some.inj hB204
    obtain rfl := hO205 _ rfl
    refine x_A fun a hf => ⟨v184, c185, x186, rfl, r187, hf.sub ⟨rfl, trivial⟩, H⟩
 ·rintro a wd218 ⟨v164, c165, x166, rfl, r167, hf, H⟩
  try dsimp only at hF
  refine XX.at hf <| x_then <| C_seq <| R_nd <| nq (Q_move rfl) rfl rfl <| nq (Q_assign rfl) rfl rfl <| WL_nil <| x_then <| C_ret ?_
  obtain rfl := Option.some.inj hF
  exact fn_ret (l := [.tmp 2]) (vs := [v164]) rfl rfl rfl ⟨v164, c165, x166, rfl, rfl, r167, H⟩
theorem c_89 {N : Nat} {C : Cx} {w : World} {ρ : View} {hs : List Hl} {x1 : Int} (H : Hp C w ρ (hs)) (gl1 : GTab ρ 1 .u8 tab_math_bits_deBruijn64tab) {r : Int} (hF : F_math_bits_TrailingZeros64 N x1 = some r) :
  Calls Tryd.prog 89 [.int .u64 x1].toArray w (Rets (fun v w' => (∃ (x4 : Int), x4 = r ∧ .int .i64 x4 = v ∧ Hp C w' ρ (hs)))) := by
 unfold F_math_bits_TrailingZeros64 at hF
 have h0 : Tryd.f89.body = some _ := rfl
 refine fn_calls' Tryd.func89 h0 (n := 14) rfl (by simp) <| C_seq <| R_nd <| nq (Q_assign rfl) rfl rfl <| WL_nil <| x_then <| C_seq <| C_seq <| R_nd <| nq (Q_move rfl) rfl rfl <| nq (Q_eql rfl rfl) rfl rfl <| WL_nil <| x_then ?_
 refine C_cond rfl (fun hb => ?_) (fun hb => ?_)
 ·replace hF := itT hb hF
  refine C_seq <| R_nd <| nq (Q_assign rfl) rfl rfl <| WL_nil <| x_then <| C_ret <| x_then_ret ?_
  obtain rfl := Option.some.inj hF
  exact fn_ret (l := [.tmp 2]) (vs := [.int .i64 64]) rfl rfl rfl ⟨64, rfl, rfl, H⟩
 ·replace hF := itF hb hF
  refine C_skip <| x_then <| C_seq <| R_nd <| nq (Q_move rfl) rfl rfl <| nq (Q_move rfl) rfl rfl <| nq (v := .int .u64 (IntKind.wrap .u64 (0 - x1))) (Q_neg rfl) rfl rfl <| nq (Q_and rfl rfl) rfl rfl <| nq (Q_mul rfl rfl) rfl rfl <| nq (Q_shr rfl rfl (by decide)) rfl rfl ?_
  obtain ⟨x5, hx5, hF⟩ := bnd hF
  have hn6 := idx_lt (N := 64) (xs := tab_math_bits_deBruijn64tab) rfl hx5
  refine nq (Q_idxA hn6.1 hn6.2 Tryd.underlying115 ty5 rfl rfl) rfl rfl <| nq (v := .int .u8 x5) (Q_ld ((GTab.at gl1 hx5).up H.ok.view) ty5 rfl (fun _ => rfl) rfl rfl) rfl rfl <| nq (Q_cvI ⟨_, Tryd.underlying5⟩ Tryd.underlying3 rfl) rfl rfl <| nq (Q_assign rfl) rfl rfl <| WL_nil <| x_then <| C_ret ?_
  obtain rfl := Option.some.inj hF
  exact fn_ret (l := [.tmp 2]) (vs := [.int .i64 (IntKind.wrap .i64 x5)]) rfl rfl rfl ⟨IntKind.wrap .i64 x5, rfl, rfl, H⟩
theorem c_83_1 {N : Nat} {C : Cx} {w : World} {ρ : View} {hs : List Hl} {b1 : Nat} {c2 : List Value} {v5 : Value} {x3 : (List Int)} {x6 : Int} {x7 : Int} (H : Hp C w ρ (Box b1 [v5, .int .i64 x6] :: Arr v5 1 c2 :: hs)) (gl1 : GTab ρ 1 .u8 tab_math_bits_deBruijn64tab) (r4 : rdL (eI .u64) ρ x3 c2) {r : Int} (hF : F_marks_Marks_After_1 N x3 x6 x7 = some r) :
  Calls Tryd.prog 83 [.pointer (some ⟨b1, 0, none⟩), .int .i64 x7].toArray w (Rets (fun v w' => (∃ (x233 : Int), x233 = r ∧ .int .i64 x233 = v ∧ Hp C w' ρ (Box b1 [v5, .int .i64 x6] :: Arr v5 1 c2 :: hs)))) := by
 unfold F_marks_Marks_After_1 at hF
 have h0 : Tryd.f83.body = some _ := rfl
 refine fn_calls' Tryd.func83 h0 (n := 48) rfl (by simp) <| C_seq <| R_nd <| nq (Q_assign rfl) rfl rfl <| WL_nil <| x_then <| C_seq <| C_seq <| R_nd <| nq (Q_move rfl) rfl rfl <| nq (Q_move rfl) rfl rfl ?_
 replace H := H.f1
 replace H := H.f1
 obtain ⟨q234, hq234, hF⟩ := bnd hF
 refine ne (E_call fn87 rfl (c_87 H  r4 hq234)) rfl rfl ?_
 rintro _ wd236 ⟨rfl, rfl, H⟩
 try dsimp only at hF
 refine nq (Q_geq rfl rfl) rfl rfl <| WL_nil <| x_then ?_
 refine C_cond rfl (fun hb => ?_) (fun hb => ?_)
 ·replace hF := itT hb hF
  refine C_seq <| R_nd <| nq (Q_assign rfl) rfl rfl <| WL_nil <| x_then <| C_ret <| x_then_ret ?_
  replace H := H.f1
  replace H := H.f1
  obtain rfl := Option.some.inj hF
  exact fn_ret (l := [.tmp 4]) (vs := [.int .i64 (-1)]) rfl rfl rfl ⟨(-1), rfl, rfl, H⟩
 ·replace hF := itF hb hF
  refine C_skip <| x_then <| C_seq <| R_nd <| nq (Q_move rfl) rfl rfl <| nq (v := .int .i64 (imax x7 (-1))) (Q_max rfl rfl) rfl rfl <| nq (Q_add rfl rfl) rfl rfl <| nq (Q_assign rfl) rfl rfl <| WL_nil <| x_then <| C_seq <| C_seq <| R_nd <| nq (Q_move rfl) rfl rfl ?_
  refine nq (Q_quo rfl rfl (by decide)) rfl rfl <| nq (Q_assign rfl) rfl rfl <| WL_nil <| x_then ?_
  obtain ⟨o367, ho367, hF⟩ := bnd hF
  refine C_cutQ (fun a w' => .inl () = o367 ∧ Fr 48 a [] ∧ Hp C w' ρ (Box b1 [v5, .int .i64 x6] :: Arr v5 1 c2 :: hs)) ?_ ?_
  ·refine C_block ?_
   replace H := H.f1
   replace H := H.f1
   refine C_iter (f := fun s => F_marks_Marks_After_1_l0 N x3 x6 x7 s) ho367 (fun s a w' => ∃ (x410 : Int), x410 = s ∧ Fr 48 a [(0, .pointer (some ⟨b1, 0, none⟩)), (1, .int .i64 (w64 ((imax x7 (-1)) + 1))), (5, .int .i64 x410)] ∧ Hp C w' ρ (Box b1 [v5, .int .i64 x6] :: Arr v5 1 c2 :: hs)) ?_ ?_
   ·exact fun a hf => ⟨w64 ((w64 ((imax x7 (-1)) + 1)).tdiv 64), rfl, hf.sub ⟨rfl, rfl, rfl, trivial⟩, H⟩
   ·rintro s o453 a wd456 ⟨x410, rfl, hf, H⟩ hB454 hO455
    replace hB454 : F_marks_Marks_After_1_l0 N x3 x6 x7 x410 = some o453 := hB454
    unfold F_marks_Marks_After_1_l0 at hB454
    refine CW.at hf <| C_seq <| C_seq <| R_nd <| nq (Q_move rfl) rfl rfl <| nq (Q_move rfl) rfl rfl ?_
    replace H := H.f1
    replace H := H.f1
    obtain ⟨q457, hq457, hB454⟩ := bnd hB454
    refine ne (E_call fn77 rfl (c_77 H  r4 hq457)) rfl rfl ?_
    rintro _ wd459 ⟨rfl, rfl, H⟩
    try dsimp only at hB454
    refine nq (Q_lenA (k := 1) H.ok rfl r4 (by decide) Tryd.underlying92 rfl) rfl rfl <| nq (Q_lss rfl rfl) rfl rfl <| WL_nil <| x_then ?_
    refine C_cond rfl (fun hb => ?_) (fun hb => ?_)
    ·replace hB454 := itT hb hB454
     refine C_skip <| x_then ?_
     obtain ⟨o478, ho478, hB454⟩ := bnd hB454
     refine C_cut (fun a w' => .inl () = o478 ∧ Fr 48 a [(0, .pointer (some ⟨b1, 0, none⟩)), (1, .int .i64 (w64 ((imax x7 (-1)) + 1))), (5, .int .i64 x410)] ∧ Hp C w' ρ (Box b1 [v5, .int .i64 x6] :: Arr v5 1 c2 :: hs)) ?_ ?_
     ·refine C_block <| C_seq <| R_nd <| nq (Q_move rfl) rfl rfl <| nq (Q_nilP rfl) rfl rfl <| nq (v := .pointer (some ⟨b1, 0, none⟩)) (Q_fld Tryd.underlying94 rfl ty92 (by decide) rfl rfl) rfl rfl <| nq (v := v5) (Q_ldB (k := 0) (cs := [v5]) H.ok rfl ty92 rfl rfl rfl (fun _ => rfl) rfl) rfl rfl <| nq (Q_move rfl) rfl rfl ?_
      obtain ⟨x479, hx479, ho478⟩ := bnd ho478
      obtain ⟨b480, o481, hi485, hc483, ha484⟩ := arr_at (hs := [Arr v5 1 c2]) (k := 0) (by decide) (H.okS (by simp)) rfl r4 hx479
      refine nq (Q_idx hi485 Tryd.underlying92 ty95 rfl rfl) rfl rfl <| nq (v := .int .u64 x479) (Q_ld (show cellsAt _ _ _ [.int .u64 x479] from (show _ = [_] from hc483) ▸ (ha484 _ (Ok.subS (by simp) H.ok))) ty95 rfl (fun _ => rfl) rfl rfl) rfl rfl <| nq (Q_assign rfl) rfl rfl <| WL_nil <| x_then <| C_seq <| C_seq <| R_nd <| nq (Q_move rfl) rfl rfl <| nq (Q_move rfl) rfl rfl <| nq (Q_quo rfl rfl (by decide)) rfl rfl <| nq (Q_eql rfl rfl) rfl rfl <| WL_nil <| x_then ?_
      obtain ⟨o489, ho489, ho478⟩ := bnd ho478
      refine C_cutQ (fun a w' => ∃ (x488 : Int), x488 = o489 ∧ Fr 48 a [(0, .pointer (some ⟨b1, 0, none⟩)), (1, .int .i64 (w64 ((imax x7 (-1)) + 1))), (5, .int .i64 x410), (6, .int .u64 x488)] ∧ Hp C w' ρ (Box b1 [v5, .int .i64 x6] :: Arr v5 1 c2 :: hs)) ?_ ?_
      ·refine C_cond rfl (fun hb => ?_) (fun hb => ?_)
       ·replace ho489 := itT hb ho489
        refine R_nd <| nq (Q_move rfl) rfl rfl <| nq (Q_move rfl) rfl rfl <| nq (Q_rem rfl rfl (by decide)) rfl rfl ?_
        obtain ⟨x490, hx490, ho489⟩ := bnd ho489
        refine nq (Q_shr rfl rfl (nn_some hx490)) rfl rfl <| nq (Q_move rfl) rfl rfl <| nq (Q_rem rfl rfl (by decide)) rfl rfl ?_
        obtain ⟨x491, hx491, ho489⟩ := bnd ho489
        refine nq (Q_shl rfl rfl (nn_some hx491)) rfl rfl <| nq (Q_assign rfl) rfl rfl <| WL_nil ?_
        replace H := H.f1
        replace H := H.f1
        obtain rfl := Option.some.inj ho489
        refine x_A fun a hf => ⟨shlI .u64 (shrI .u64 x479 ((w64 ((imax x7 (-1)) + 1)).tmod 64)) ((w64 ((imax x7 (-1)) + 1)).tmod 64), rfl, hf.sub ⟨rfl, rfl, rfl, rfl, trivial⟩, H⟩
       ·replace ho489 := itF hb ho489
        refine C_skip ?_
        replace H := H.f1
        replace H := H.f1
        obtain rfl := Option.some.inj ho489
        refine x_A fun a hf => ⟨x479, rfl, hf.sub ⟨rfl, rfl, rfl, rfl, trivial⟩, H⟩
      ·rintro a wd492 ⟨x488, rfl, hf, H⟩
       try dsimp only at ho478
       refine XX.at hf <| x_then <| C_seq <| R_nd <| nq (Q_move rfl) rfl rfl <| nq (Q_neq rfl rfl) rfl rfl <| WL_nil <| x_then ?_
       refine C_cond rfl (fun hb => ?_) (fun hb => ?_)
       ·replace ho478 := itT hb ho478
        refine C_seq <| R_nd <| nq (Q_move rfl) rfl rfl <| nq (Q_mul rfl rfl) rfl rfl <| nq (Q_move rfl) rfl rfl ?_
        obtain ⟨q493, hq493, ho478⟩ := bnd ho478
        refine ne (E_call fn89 rfl (c_89 H gl1  hq493)) rfl rfl ?_
        rintro _ wd496 ⟨x495, rfl, rfl, H⟩
        try dsimp only at ho478
        refine nq (Q_add rfl rfl) rfl rfl <| nq (Q_assign rfl) rfl rfl <| WL_nil <| x_then <| C_ret <| x_block_ret <| x_then_ret <| x_then_ret <| x_block_ret <| x_then_ret <| x_then_ret ?_
        replace H := H.f1
        replace H := H.f1
        obtain rfl := Option.some.inj ho478
        obtain rfl := Option.some.inj (show some _ = some _ from hB454)
        obtain rfl := hO455 _ rfl
        obtain rfl := Option.some.inj (show some _ = some _ from hF)
        exact fn_ret (l := [.tmp 4]) (vs := [.int .i64 (w64 ((w64 (64 * x410)) + x495))]) rfl rfl rfl ⟨w64 ((w64 (64 * x410)) + x495), rfl, rfl, H⟩
       ·replace ho478 := itF hb ho478
        refine C_skip <| x_block ?_
        replace H := H.f1
        replace H := H.f1
        obtain rfl := Option.some.inj ho478
        refine x_A fun a hf => ⟨rfl, hf.sub ⟨rfl, rfl, rfl, trivial⟩, H⟩
     ·rintro a wd497 ⟨rfl, hf, H⟩
      try dsimp only at hB454
      refine CW.at hf <| R_nd <| nq (Q_move rfl) rfl rfl <| nq (Q_add rfl rfl) rfl rfl <| nq (Q_assign rfl) rfl rfl <| WL_nil ?_
      replace H := H.f1
      replace H := H.f1
      obtain rfl := Option.some.inj hB454
      refine x_A fun a hf => ⟨_, rfl, w64 (x410 + 1), rfl, hf.sub ⟨rfl, rfl, rfl, trivial⟩, H⟩
    ·replace hB454 := itF hb hB454
     refine C_exit <| x_then_exit <| x_then_exit <| x_block_exit ?_
     replace H := H.f1
     replace H := H.f1
     obtain rfl := Option.some.inj hB454
     obtain rfl := hO455 _ rfl
     refine x_A fun a hf => ⟨rfl, hf.sub trivial, H⟩
  ·rintro a wd498 ⟨rfl, hf, H⟩
   try dsimp only at hF
   refine XX.at hf <| x_then <| C_seq <| R_nd <| nq (Q_assign rfl) rfl rfl <| WL_nil <| x_then <| C_ret ?_
   replace H := H.f1
   replace H := H.f1
   obtain rfl := Option.some.inj hF
   exact fn_ret (l := [.tmp 4]) (vs := [.int .i64 (-1)]) rfl rfl rfl ⟨(-1), rfl, rfl, H⟩
theorem c_64_1 {N : Nat} {C : Cx} {w : World} {ρ : View} {hs : List Hl} {b1 : Nat} {c2 : List Value} {v5 : Value} {x3 : (List Int)} {x6 : Int} (H : Hp C w ρ (Box b1 [v5, .int .i64 x6] :: Arr v5 1 c2 :: hs)) (gl1 : GTab ρ 1 .u8 tab_math_bits_deBruijn64tab) (r4 : rdL (eI .u64) ρ x3 c2) {r : (List Int)} (hF : F_marks_Marks_List_1 N x3 x6 = some r) :
  Calls Tryd.prog 64 [.pointer (some ⟨b1, 0, none⟩)].toArray w (Rets (fun v w' => (∃ (v127 : Value) (c128 : (List Value)) (x129 : (List Int)), x129 = r ∧ v127 = v ∧ rdL (eI .i64) ρ x129 c128 ∧ Hp C w' ρ (Box b1 [v5, .int .i64 x6] :: Arr v5 1 c2 :: Arr v127 1 c128 :: hs)))) := by
 unfold F_marks_Marks_List_1 at hF
 have h0 : Tryd.f64.body = some _ := rfl
 refine fn_calls' Tryd.func64 h0 (n := 17) rfl (by simp) <| C_seq <| R_nd <| nq (Q_assign rfl) rfl rfl <| WL_nil <| x_then <| C_seq <| R_nd <| nq (Q_assign rfl) rfl rfl <| WL_nil <| x_then <| C_seq <| C_seq <| R_nd ?_
 refine nq (Q_move rfl) rfl rfl ?_
 replace H := H.f1
 replace H := H.f1
 obtain ⟨q131, hq131, hF⟩ := bnd hF
 refine ne (E_call fn83 rfl (c_83_1 H gl1 r4 hq131)) rfl rfl ?_
 rintro _ wd134 ⟨x133, rfl, rfl, H⟩
 try dsimp only at hF
 refine nq (Q_assign rfl) rfl rfl <| WL_nil <| x_then ?_
 obtain ⟨o194, ho194, hF⟩ := bnd hF
 refine C_cutQ (fun a w' => ∃ (v190 : Value) (c191 : (List Value)) (x192 : (List Int)), x192 = o194 ∧ rdL (eI .i64) ρ x192 c191 ∧ Fr 17 a [(3, v190)] ∧ Hp C w' ρ (Box b1 [v5, .int .i64 x6] :: Arr v5 1 c2 :: Arr v190 1 c191 :: hs)) ?_ ?_
 ·refine C_block ?_
  have H := H.nilArr 1
  replace H := H.f2
  replace H := H.f2
  refine C_iter (f := fun s => F_marks_Marks_List_1_l0 N x3 x6 s.1 s.2) ho194 (fun s a w' => ∃ (v212 : Value) (c213 : (List Value)) (x214 : (List Int)) (x216 : Int), (x214, x216) = s ∧ rdL (eI .i64) ρ x214 c213 ∧ Fr 17 a [(0, .pointer (some ⟨b1, 0, none⟩)), (3, v212), (4, .int .i64 x216)] ∧ Hp C w' ρ (Box b1 [v5, .int .i64 x6] :: Arr v5 1 c2 :: Arr v212 1 c213 :: hs)) ?_ ?_
  ·exact fun a hf => ⟨(.slice none 0 0), [], [], x133, rfl, rdL.nil, hf.sub ⟨rfl, rfl, rfl, trivial⟩, H⟩
  ·rintro s o234 a wd237 ⟨v212, c213, x214, x216, rfl, r215, hf, H⟩ hB235 hO236
   replace hB235 : F_marks_Marks_List_1_l0 N x3 x6 x214 x216 = some o234 := hB235
   unfold F_marks_Marks_List_1_l0 at hB235
   refine CW.at hf <| C_seq <| C_seq <| R_nd <| nq (Q_move rfl) rfl rfl <| nq (Q_geq rfl rfl) rfl rfl <| WL_nil <| x_then ?_
   refine C_cond rfl (fun hb => ?_) (fun hb => ?_)
   ·replace hB235 := itT hb hB235
    refine C_skip <| x_then <| C_seq <| C_block <| R_nd <| nq (Q_move rfl) rfl rfl <| nq (Q_move rfl) rfl rfl <| ne (E_bslice (xs := [.tmp 13]) (vs := [.int .i64 x216]) H Tryd.underlying23 ty3 (by decide) (cs := [.int .i64 x216]) rfl (sz_cons rfl sz_nil) rfl (by simp) (by simp) rfl rfl) rfl rfl ?_
    rintro _ wd239 ⟨b238, rfl, H⟩
    obtain ⟨x240, hx240, hB235⟩ := bnd hB235
    obtain ⟨ha241a, ha241b⟩ := app_some hx240
    have r243 : rdL (eI .i64) ρ x240 (c213 ++ ([.int .i64 x216])) := ha241b ▸ rdL.app r215 (show rdL (eI .i64) ρ ([x216]) ([.int .i64 x216]) from ⟨([.int .i64 x216]), _, rfl, rfl, rdL.nil⟩)
    refine ne (E_append (k := 3) H rfl Tryd.underlying23 ty3 rfl (by decide) (by decide) rfl rfl (Src.ofArr (k := 0) H.ok rfl) (rdL.one (show rdL (eI .i64) ρ ([x216]) ([.int .i64 x216]) from ⟨([.int .i64 x216]), _, rfl, rfl, rdL.nil⟩)) (app_fit r215 (show rdL (eI .i64) ρ ([x216]) ([.int .i64 x216]) from ⟨([.int .i64 x216]), _, rfl, rfl, rdL.nil⟩) ha241a)) rfl rfl ?_
    rintro v242 wd245 ⟨H, hc244⟩
    dsimp only [List.set] at H
    refine nq (Q_assign rfl) rfl rfl <| WL_nil <| x_block <| x_then <| R_nd <| nq (Q_move rfl) rfl rfl <| nq (Q_move rfl) rfl rfl ?_
    replace H := H.f2
    replace H := H.f2
    obtain ⟨q246, hq246, hB235⟩ := bnd hB235
    refine ne (E_call fn83 rfl (c_83_1 H gl1 r4 hq246)) rfl rfl ?_
    rintro _ wd249 ⟨x248, rfl, rfl, H⟩
    try dsimp only at hB235
    refine nq (Q_assign rfl) rfl rfl <| WL_nil ?_
    replace H := H.f3
    replace H := H.f2
    replace H := H.f2
    replace H := H.drop 3 rfl
    dsimp only [List.eraseIdx] at H
    obtain rfl := Option.some.inj hB235
    refine x_A fun a hf => ⟨_, rfl, v242, (c213 ++ ([.int .i64 x216])), x240, x248, rfl, r243, hf.sub ⟨rfl, rfl, rfl, trivial⟩, H⟩
   ·replace hB235 := itF hb hB235
    refine C_exit <| x_then_exit <| x_then_exit <| x_block_exit ?_
    replace H := H.f2
    replace H := H.f2
    replace H := H.f2
    obtain rfl := Option.some.inj hB235
    obtain rfl := hO236 _ rfl
    refine x_A fun a hf => ⟨v212, c213, x214, rfl, r215, hf.sub ⟨rfl, trivial⟩, H⟩
 ·rintro a wd250 ⟨v190, c191, x192, rfl, r193, hf, H⟩
  try dsimp only at hF
  refine XX.at hf <| x_then <| C_seq <| R_nd <| nq (Q_move rfl) rfl rfl <| nq (Q_assign rfl) rfl rfl <| WL_nil <| x_then <| C_ret ?_
  replace H := H.f2
  replace H := H.f2
  replace H := H.f2
  obtain rfl := Option.some.inj hF
  exact fn_ret (l := [.tmp 2]) (vs := [v190]) rfl rfl rfl ⟨v190, c191, x192, rfl, rfl, r193, H⟩
theorem c_81 {N : Nat} {C : Cx} {w : World} {ρ : View} {hs : List Hl} {x1 : Int} (H : Hp C w ρ (hs)) {r : Unit} (hF : F_marks_Marks_Has N x1 = some r) :
  Calls Tryd.prog 81 [.pointer none, .int .i64 x1].toArray w (Rets (fun v w' => (() = r ∧ .bool false = v ∧ Hp C w' ρ (hs)))) := by
 unfold F_marks_Marks_Has at hF
 have h0 : Tryd.f81.body = some _ := rfl
 refine fn_calls' Tryd.func81 h0 (n := 28) rfl (by simp) <| C_seq <| R_nd <| nq (Q_assign rfl) rfl rfl <| WL_nil <| x_then <| C_seq <| R_nd <| nq (Q_move rfl) rfl rfl <| nq (Q_move rfl) rfl rfl ?_
 obtain ⟨q10, hq10, hF⟩ := bnd hF
 refine ne (E_call fn76 rfl (c_76_1 H   hq10)) rfl rfl ?_
 rintro _ wd15 ⟨x12, x13, x14, rfl, rfl, H⟩
 try dsimp only at hF
 refine nq (Q_move rfl) rfl rfl <| nq (Q_extract rfl rfl) rfl rfl <| nq (Q_extract rfl rfl) rfl rfl <| nq (Q_extract rfl rfl) rfl rfl <| nq (Q_assign rfl) rfl rfl <| nq (Q_assign rfl) rfl rfl <| nq (Q_assign rfl) rfl rfl <| WL_nil <| x_then ?_
 obtain ⟨o16, ho16, hF⟩ := bnd hF
 refine C_cut (fun a w' => Fr 28 a [(4, .bool false)] ∧ Hp C w' ρ (hs)) ?_ ?_
 ·refine R_nd <| nq (Q_move rfl) rfl rfl <| nq (Q_move rfl) rfl rfl ?_
  rcases Bool.eq_false_or_eq_true x14 with hb | hb
  ·rw [hb]
   replace ho16 := itT hb ho16
   refine gq (Q_move rfl) rfl rfl rfl ?_
   cases ho16
  ·rw [hb]
   replace ho16 := itF hb ho16
   refine gs rfl rfl rfl rfl <| gs rfl rfl rfl rfl <| gs rfl rfl rfl rfl <| gs rfl rfl rfl rfl <| gs rfl rfl rfl rfl <| gs rfl rfl rfl rfl <| gs rfl rfl rfl rfl <| gs rfl rfl rfl rfl <| gs rfl rfl rfl rfl <| gs rfl rfl rfl rfl <| nq (Q_pickF rfl rfl) rfl rfl <| nq (Q_assign rfl) rfl rfl <| WL_nil ?_
   obtain rfl := Option.some.inj ho16
   refine x_A fun a hf => ⟨hf.sub ⟨rfl, trivial⟩, H⟩
 ·rintro a wd17 ⟨hf, H⟩
  try dsimp only at hF
  refine CW.at hf <| C_ret ?_
  obtain rfl := Option.some.inj hF
  exact fn_ret (l := [.tmp 4]) (vs := [.bool false]) rfl rfl rfl ⟨rfl, rfl, H⟩
theorem c_84 {N : Nat} {C : Cx} {w : World} {ρ : View} {hs : List Hl} {b2 : Nat} {x1 : Int} (H : Hp C w ρ (Box b2 [.pointer none] :: hs)) {r : Unit} (hF : F_trim_live_1 N x1 = some r) :
  Calls Tryd.prog 84 [.int .i64 x1, .pointer (some ⟨b2, 0, none⟩)].toArray w (Rets (fun v w' => (() = r ∧ .bool false = v ∧ Hp C w' ρ (Box b2 [.pointer none] :: hs)))) := by
 unfold F_trim_live_1 at hF
 have h0 : Tryd.f84.body = some _ := rfl
 refine fn_calls' Tryd.func84 h0 (n := 7) rfl (by simp) <| C_seq <| R_nd <| nq (Q_assign rfl) rfl rfl <| WL_nil <| x_then <| C_seq <| R_nd <| nq (v := .pointer none) (Q_ldB (k := 0) (cs := [.pointer none]) H.ok rfl ty61 rfl rfl rfl (fun _ => rfl) rfl) rfl rfl <| nq (Q_move rfl) rfl rfl ?_
 obtain ⟨q6, hq6, hF⟩ := bnd hF
 refine ne (E_call fn81 rfl (c_81 H   hq6)) rfl rfl ?_
 rintro _ wd8 ⟨rfl, rfl, H⟩
 try dsimp only at hF
 refine nq (Q_assign rfl) rfl rfl <| WL_nil <| x_then <| C_ret ?_
 obtain rfl := Option.some.inj hF
 exact fn_ret (l := [.tmp 3]) (vs := [.bool false]) rfl rfl rfl ⟨rfl, rfl, H⟩
theorem c_80_2 {N : Nat} {C : Cx} {w : World} {ρ : View} {hs : List Hl} {v1 : Value} {b4 : Nat} {x2 : (List Int)} (H : Hp C w ρ (Box b4 [.pointer none] :: hs)) (r3 : RdSl ρ (eI .i64) v1 x2) {r : Unit} (hF : F_slices_IndexFunc_int_int_2 N x2 = some r) :
  Calls Tryd.prog 80 [v1, .func (.func 84) #[] [.pointer (some ⟨b4, 0, none⟩)].toArray].toArray w (Rets (fun v w' => (() = r ∧ .int .i64 (-1) = v ∧ Hp C w' ρ (Box b4 [.pointer none] :: hs)))) := by
 unfold F_slices_IndexFunc_int_int_2 at hF
 have h0 : Tryd.f80.body = some _ := rfl
 refine fn_calls' Tryd.func80 h0 (n := 19) rfl (by simp) <| C_seq <| R_nd <| nq (Q_assign rfl) rfl rfl <| WL_nil <| x_then <| C_seq <| C_seq <| R_nd <| nq (Q_move rfl) rfl rfl <| nq (Q_len Tryd.underlying23 rfl r3) rfl rfl <| nq (Q_move rfl) rfl rfl <| WL_nil <| x_then ?_
 obtain ⟨o118, ho118, hF⟩ := bnd hF
 refine C_cutQ (fun a w' => Fr 19 a [] ∧ Hp C w' ρ (Box b4 [.pointer none] :: hs)) ?_ ?_
 ·refine C_block ?_
  refine C_iter (f := fun s => F_slices_IndexFunc_int_int_2_l0 N x2 s) ho118 (fun s a w' => ∃ (x130 : Int), x130 = s ∧ Fr 19 a [(0, v1), (1, .func (.func 84) #[] [.pointer (some ⟨b4, 0, none⟩)].toArray), (7, .int .i64 (x2.length : Int)), (8, .int .i64 x130)] ∧ Hp C w' ρ (Box b4 [.pointer none] :: hs)) ?_ ?_
  ·exact fun a hf => ⟨0, rfl, hf.sub ⟨rfl, rfl, rfl, rfl, trivial⟩, H⟩
  ·rintro s o142 a wd145 ⟨x130, rfl, hf, H⟩ hB143 hO144
   replace hB143 : F_slices_IndexFunc_int_int_2_l0 N x2 x130 = some o142 := hB143
   unfold F_slices_IndexFunc_int_int_2_l0 at hB143
   refine CW.at hf <| C_seq <| R_nd <| nq (Q_lss rfl rfl) rfl rfl <| WL_nil <| x_then <| C_seq ?_
   refine C_cond rfl (fun hb => ?_) (fun hb => ?_)
   ·replace hB143 := itT hb hB143
    refine C_skip <| x_then <| C_seq <| C_block <| C_seq <| R_nd <| nq (Q_move rfl) rfl rfl <| nq (Q_assign rfl) rfl rfl <| WL_nil <| x_then <| C_seq <| R_nd <| nq (Q_move rfl) rfl rfl <| nq (Q_move rfl) rfl rfl ?_
    refine nq (Q_move rfl) rfl rfl ?_
    obtain ⟨x146, hx146, hB143⟩ := bnd hB143
    obtain ⟨b147, o148, c149, hc150, ha151, hi152⟩ := idxR r3 hx146
    refine nq (Q_idx hi152 Tryd.underlying23 ty3 rfl rfl) rfl rfl <| nq (v := .int .i64 x146) (Q_ld (show cellsAt _ _ _ [.int .i64 x146] from (show _ = [_] from hc150) ▸ (ha151.up H.ok.view)) ty3 rfl (fun _ => rfl) rfl rfl) rfl rfl ?_
    obtain ⟨q153, hq153, hB143⟩ := bnd hB143
    refine ne (E_callV fn84 rfl rfl (c_84 H   hq153)) rfl rfl ?_
    rintro _ wd155 ⟨rfl, rfl, H⟩
    try dsimp only at hB143
    refine WL_nil <| x_then ?_
    refine C_cond rfl (fun h => nomatch h) (fun _ => ?_)
    refine C_skip <| x_block <| x_then <| R_nd <| nq (Q_add rfl rfl) rfl rfl <| nq (Q_move rfl) rfl rfl <| WL_nil ?_
    obtain rfl := Option.some.inj hB143
    refine x_A fun a hf => ⟨_, rfl, w64 (x130 + 1), rfl, hf.sub ⟨rfl, rfl, rfl, rfl, trivial⟩, H⟩
   ·replace hB143 := itF hb hB143
    refine C_exit <| x_then_exit <| x_then_exit <| x_block_exit ?_
    obtain rfl := Option.some.inj hB143
    obtain rfl := hO144 _ rfl
    refine x_A fun a hf => ⟨hf.sub trivial, H⟩
 ·rintro a wd156 ⟨hf, H⟩
  try dsimp only at hF
  refine XX.at hf <| x_then <| C_seq <| R_nd <| nq (Q_assign rfl) rfl rfl <| WL_nil <| x_then <| C_ret ?_
  obtain rfl := Option.some.inj hF
  exact fn_ret (l := [.tmp 4]) (vs := [.int .i64 (-1)]) rfl rfl rfl ⟨rfl, rfl, H⟩
theorem c_58_2 {N : Nat} {C : Cx} {w : World} {ρ : View} {hs : List Hl} {v1 : Value} {b4 : Nat} {x2 : (List Int)} (H : Hp C w ρ (Box b4 [.pointer none] :: hs)) (r3 : RdSl ρ (eI .i64) v1 x2) {r : Unit} (hF : F_slices_ContainsFunc_int_int_2 N x2 = some r) :
  Calls Tryd.prog 58 [v1, .func (.func 84) #[] [.pointer (some ⟨b4, 0, none⟩)].toArray].toArray w (Rets (fun v w' => (() = r ∧ .bool (decide ((-1) ≥ 0)) = v ∧ Hp C w' ρ (Box b4 [.pointer none] :: hs)))) := by
 unfold F_slices_ContainsFunc_int_int_2 at hF
 have h0 : Tryd.f58.body = some _ := rfl
 refine fn_calls' Tryd.func58 h0 (n := 9) rfl (by simp) <| C_seq <| R_nd <| nq (Q_assign rfl) rfl rfl <| WL_nil <| x_then <| C_seq <| R_nd <| nq (Q_move rfl) rfl rfl <| nq (Q_move rfl) rfl rfl ?_
 obtain ⟨q8, hq8, hF⟩ := bnd hF
 refine ne (E_call fn80 rfl (c_80_2 H  r3 hq8)) rfl rfl ?_
 rintro _ wd10 ⟨rfl, rfl, H⟩
 try dsimp only at hF
 refine nq (Q_geq rfl rfl) rfl rfl <| nq (Q_assign rfl) rfl rfl <| WL_nil <| x_then <| C_ret ?_
 obtain rfl := Option.some.inj hF
 exact fn_ret (l := [.tmp 4]) (vs := [.bool (decide ((-1) ≥ 0))]) rfl rfl rfl ⟨rfl, rfl, H⟩
theorem c_81_1 {N : Nat} {C : Cx} {w : World} {ρ : View} {hs : List Hl} {b1 : Nat} {c2 : List Value} {v5 : Value} {x3 : (List Int)} {x6 : Int} {x7 : Int} (H : Hp C w ρ (Box b1 [v5, .int .i64 x6] :: Arr v5 1 c2 :: hs)) (r4 : rdL (eI .u64) ρ x3 c2) {r : Bool} (hF : F_marks_Marks_Has_1 N x3 x6 x7 = some r) :
  Calls Tryd.prog 81 [.pointer (some ⟨b1, 0, none⟩), .int .i64 x7].toArray w (Rets (fun v w' => (∃ (x31 : Bool), x31 = r ∧ .bool x31 = v ∧ Hp C w' ρ (Box b1 [v5, .int .i64 x6] :: Arr v5 1 c2 :: hs)))) := by
 unfold F_marks_Marks_Has_1 at hF
 have h0 : Tryd.f81.body = some _ := rfl
 refine fn_calls' Tryd.func81 h0 (n := 28) rfl (by simp) <| C_seq <| R_nd <| nq (Q_assign rfl) rfl rfl <| WL_nil <| x_then <| C_seq <| R_nd <| nq (Q_move rfl) rfl rfl <| nq (Q_move rfl) rfl rfl ?_
 replace H := H.f1
 replace H := H.f1
 obtain ⟨q32, hq32, hF⟩ := bnd hF
 refine ne (E_call fn76 rfl (c_76 H  r4 hq32)) rfl rfl ?_
 rintro _ wd37 ⟨x34, x35, x36, rfl, rfl, H⟩
 try dsimp only at hF
 refine nq (Q_move rfl) rfl rfl <| nq (Q_extract rfl rfl) rfl rfl <| nq (Q_extract rfl rfl) rfl rfl <| nq (Q_extract rfl rfl) rfl rfl <| nq (Q_assign rfl) rfl rfl <| nq (Q_assign rfl) rfl rfl <| nq (Q_assign rfl) rfl rfl <| WL_nil <| x_then ?_
 obtain ⟨o46, ho46, hF⟩ := bnd hF
 refine C_cut (fun a w' => ∃ (x45 : Bool), x45 = o46 ∧ Fr 28 a [(4, .bool x45)] ∧ Hp C w' ρ (Box b1 [v5, .int .i64 x6] :: Arr v5 1 c2 :: hs)) ?_ ?_
 ·refine R_nd <| nq (Q_move rfl) rfl rfl <| nq (Q_move rfl) rfl rfl ?_
  rcases Bool.eq_false_or_eq_true x36 with hb | hb
  ·rw [hb]
   replace ho46 := itT hb ho46
   refine gq (Q_move rfl) rfl rfl rfl <| gq (Q_nilP rfl) rfl rfl rfl <| gq (v := .pointer (some ⟨b1, 0, none⟩)) (Q_fld Tryd.underlying94 rfl ty92 (by decide) rfl rfl) rfl rfl rfl <| gq (v := v5) (Q_ldB (k := 0) (cs := [v5]) H.ok rfl ty92 rfl rfl rfl (fun _ => rfl) rfl) rfl rfl rfl <| gq (Q_move rfl) rfl rfl rfl ?_
   obtain ⟨x47, hx47, ho46⟩ := bnd ho46
   obtain ⟨b48, o49, hi53, hc51, ha52⟩ := arr_at (hs := [Arr v5 1 c2]) (k := 0) (by decide) (H.okS (by simp)) rfl r4 hx47
   refine gq (Q_idx hi53 Tryd.underlying92 ty95 rfl rfl) rfl rfl rfl <| gq (v := .int .u64 x47) (Q_ld (show cellsAt _ _ _ [.int .u64 x47] from (show _ = [_] from hc51) ▸ (ha52 _ (Ok.subS (by simp) H.ok))) ty95 rfl (fun _ => rfl) rfl rfl) rfl rfl rfl <| gq (Q_move rfl) rfl rfl rfl <| gq (Q_and rfl rfl) rfl rfl rfl <| gq (Q_neq rfl rfl) rfl rfl rfl <| nq (Q_pickT rfl rfl) rfl rfl <| nq (Q_assign rfl) rfl rfl <| WL_nil ?_
   replace H := H.f1
   replace H := H.f1
   obtain rfl := Option.some.inj ho46
   refine x_A fun a hf => ⟨(iand .u64 x47 x35) != 0, rfl, hf.sub ⟨rfl, trivial⟩, H⟩
  ·rw [hb]
   replace ho46 := itF hb ho46
   refine gs rfl rfl rfl rfl <| gs rfl rfl rfl rfl <| gs rfl rfl rfl rfl <| gs rfl rfl rfl rfl <| gs rfl rfl rfl rfl <| gs rfl rfl rfl rfl <| gs rfl rfl rfl rfl <| gs rfl rfl rfl rfl <| gs rfl rfl rfl rfl <| gs rfl rfl rfl rfl <| nq (Q_pickF rfl rfl) rfl rfl <| nq (Q_assign rfl) rfl rfl <| WL_nil ?_
   replace H := H.f1
   replace H := H.f1
   obtain rfl := Option.some.inj ho46
   refine x_A fun a hf => ⟨false, rfl, hf.sub ⟨rfl, trivial⟩, H⟩
 ·rintro a wd54 ⟨x45, rfl, hf, H⟩
  try dsimp only at hF
  refine CW.at hf <| C_ret ?_
  replace H := H.f1
  replace H := H.f1
  obtain rfl := Option.some.inj hF
  exact fn_ret (l := [.tmp 4]) (vs := [.bool x45]) rfl rfl rfl ⟨x45, rfl, rfl, H⟩
theorem c_84_1 {N : Nat} {C : Cx} {w : World} {ρ : View} {hs : List Hl} {b2 : Nat} {b3 : Nat} {c4 : List Value} {v7 : Value} {x1 : Int} {x5 : (List Int)} {x8 : Int} (H : Hp C w ρ (Box b2 [.pointer (some ⟨b3, 0, none⟩)] :: Box b3 [v7, .int .i64 x8] :: Arr v7 1 c4 :: hs)) (r6 : rdL (eI .u64) ρ x5 c4) {r : Bool} (hF : F_trim_live_1_1 N x1 x5 x8 = some r) :
  Calls Tryd.prog 84 [.int .i64 x1, .pointer (some ⟨b2, 0, none⟩)].toArray w (Rets (fun v w' => (∃ (x13 : Bool), x13 = r ∧ .bool x13 = v ∧ Hp C w' ρ (Box b2 [.pointer (some ⟨b3, 0, none⟩)] :: Box b3 [v7, .int .i64 x8] :: Arr v7 1 c4 :: hs)))) := by
 unfold F_trim_live_1_1 at hF
 have h0 : Tryd.f84.body = some _ := rfl
 refine fn_calls' Tryd.func84 h0 (n := 7) rfl (by simp) <| C_seq <| R_nd <| nq (Q_assign rfl) rfl rfl <| WL_nil <| x_then <| C_seq <| R_nd <| nq (v := .pointer (some ⟨b3, 0, none⟩)) (Q_ldB (k := 0) (cs := [.pointer (some ⟨b3, 0, none⟩)]) H.ok rfl ty61 rfl rfl rfl (fun _ => rfl) rfl) rfl rfl <| nq (Q_move rfl) rfl rfl ?_
 replace H := H.f2
 replace H := H.f2
 obtain ⟨q14, hq14, hF⟩ := bnd hF
 refine ne (E_call fn81 rfl (c_81_1 H  r6 hq14)) rfl rfl ?_
 rintro _ wd17 ⟨x16, rfl, rfl, H⟩
 try dsimp only at hF
 refine nq (Q_assign rfl) rfl rfl <| WL_nil <| x_then <| C_ret ?_
 replace H := H.f1
 replace H := H.f1
 replace H := H.f2
 obtain rfl := Option.some.inj hF
 exact fn_ret (l := [.tmp 3]) (vs := [.bool x16]) rfl rfl rfl ⟨x16, rfl, rfl, H⟩
theorem c_80_3 {N : Nat} {C : Cx} {w : World} {ρ : View} {hs : List Hl} {v1 : Value} {b4 : Nat} {b5 : Nat} {c6 : List Value} {v9 : Value} {x2 : (List Int)} {x7 : (List Int)} {x10 : Int} (H : Hp C w ρ (Box b4 [.pointer (some ⟨b5, 0, none⟩)] :: Box b5 [v9, .int .i64 x10] :: Arr v9 1 c6 :: hs)) (r3 : RdSl ρ (eI .i64) v1 x2) (r8 : rdL (eI .u64) ρ x7 c6) {r : Int} (hF : F_slices_IndexFunc_int_int_3 N x2 x7 x10 = some r) :
  Calls Tryd.prog 80 [v1, .func (.func 84) #[] [.pointer (some ⟨b4, 0, none⟩)].toArray].toArray w (Rets (fun v w' => (∃ (x93 : Int), x93 = r ∧ .int .i64 x93 = v ∧ Hp C w' ρ (Box b4 [.pointer (some ⟨b5, 0, none⟩)] :: Box b5 [v9, .int .i64 x10] :: Arr v9 1 c6 :: hs)))) := by
 unfold F_slices_IndexFunc_int_int_3 at hF
 have h0 : Tryd.f80.body = some _ := rfl
 refine fn_calls' Tryd.func80 h0 (n := 19) rfl (by simp) <| C_seq <| R_nd <| nq (Q_assign rfl) rfl rfl <| WL_nil <| x_then <| C_seq <| C_seq <| R_nd <| nq (Q_move rfl) rfl rfl <| nq (Q_len Tryd.underlying23 rfl r3) rfl rfl <| nq (Q_move rfl) rfl rfl <| WL_nil <| x_then ?_
 obtain ⟨o134, ho134, hF⟩ := bnd hF
 refine C_cutQ (fun a w' => .inl () = o134 ∧ Fr 19 a [] ∧ Hp C w' ρ (Box b4 [.pointer (some ⟨b5, 0, none⟩)] :: Box b5 [v9, .int .i64 x10] :: Arr v9 1 c6 :: hs)) ?_ ?_
 ·refine C_block ?_
  replace H := H.f2
  replace H := H.f2
  replace H := H.f2
  refine C_iter (f := fun s => F_slices_IndexFunc_int_int_3_l0 N x2 x7 x10 s) ho134 (fun s a w' => ∃ (x147 : Int), x147 = s ∧ Fr 19 a [(0, v1), (1, .func (.func 84) #[] [.pointer (some ⟨b4, 0, none⟩)].toArray), (7, .int .i64 (x2.length : Int)), (8, .int .i64 x147)] ∧ Hp C w' ρ (Box b4 [.pointer (some ⟨b5, 0, none⟩)] :: Box b5 [v9, .int .i64 x10] :: Arr v9 1 c6 :: hs)) ?_ ?_
  ·exact fun a hf => ⟨0, rfl, hf.sub ⟨rfl, rfl, rfl, rfl, trivial⟩, H⟩
  ·rintro s o160 a wd163 ⟨x147, rfl, hf, H⟩ hB161 hO162
   replace hB161 : F_slices_IndexFunc_int_int_3_l0 N x2 x7 x10 x147 = some o160 := hB161
   unfold F_slices_IndexFunc_int_int_3_l0 at hB161
   refine CW.at hf <| C_seq <| R_nd <| nq (Q_lss rfl rfl) rfl rfl <| WL_nil <| x_then <| C_seq ?_
   refine C_cond rfl (fun hb => ?_) (fun hb => ?_)
   ·replace hB161 := itT hb hB161
    refine C_skip <| x_then <| C_seq <| C_block <| C_seq <| R_nd <| nq (Q_move rfl) rfl rfl <| nq (Q_assign rfl) rfl rfl <| WL_nil <| x_then <| C_seq <| R_nd <| nq (Q_move rfl) rfl rfl <| nq (Q_move rfl) rfl rfl ?_
    refine nq (Q_move rfl) rfl rfl ?_
    obtain ⟨x164, hx164, hB161⟩ := bnd hB161
    obtain ⟨b165, o166, c167, hc168, ha169, hi170⟩ := idxR r3 hx164
    refine nq (Q_idx hi170 Tryd.underlying23 ty3 rfl rfl) rfl rfl <| nq (v := .int .i64 x164) (Q_ld (show cellsAt _ _ _ [.int .i64 x164] from (show _ = [_] from hc168) ▸ (ha169.up H.ok.view)) ty3 rfl (fun _ => rfl) rfl rfl) rfl rfl ?_
    replace H := H.f2
    replace H := H.f2
    replace H := H.f2
    obtain ⟨q171, hq171, hB161⟩ := bnd hB161
    refine ne (E_callV fn84 rfl rfl (c_84_1 H  r8 hq171)) rfl rfl ?_
    rintro _ wd174 ⟨x173, rfl, rfl, H⟩
    try dsimp only at hB161
    refine WL_nil <| x_then ?_
    refine C_cond rfl (fun hb => ?_) (fun hb => ?_)
    ·replace hB161 := itT hb hB161
     refine C_seq <| R_nd <| nq (Q_move rfl) rfl rfl <| nq (Q_assign rfl) rfl rfl <| WL_nil <| x_then <| C_ret <| x_block_ret <| x_then_ret <| x_then_ret <| x_block_ret <| x_then_ret <| x_then_ret ?_
     replace H := H.f2
     replace H := H.f2
     replace H := H.f2
     obtain rfl := Option.some.inj hB161
     obtain rfl := hO162 _ rfl
     obtain rfl := Option.some.inj (show some _ = some _ from hF)
     exact fn_ret (l := [.tmp 4]) (vs := [.int .i64 x147]) rfl rfl rfl ⟨x147, rfl, rfl, H⟩
    ·replace hB161 := itF hb hB161
     refine C_skip <| x_block <| x_then <| R_nd <| nq (Q_add rfl rfl) rfl rfl <| nq (Q_move rfl) rfl rfl <| WL_nil ?_
     replace H := H.f2
     replace H := H.f2
     replace H := H.f2
     obtain rfl := Option.some.inj hB161
     refine x_A fun a hf => ⟨_, rfl, w64 (x147 + 1), rfl, hf.sub ⟨rfl, rfl, rfl, rfl, trivial⟩, H⟩
   ·replace hB161 := itF hb hB161
    refine C_exit <| x_then_exit <| x_then_exit <| x_block_exit ?_
    replace H := H.f2
    replace H := H.f2
    replace H := H.f2
    obtain rfl := Option.some.inj hB161
    obtain rfl := hO162 _ rfl
    refine x_A fun a hf => ⟨rfl, hf.sub trivial, H⟩
 ·rintro a wd175 ⟨rfl, hf, H⟩
  try dsimp only at hF
  refine XX.at hf <| x_then <| C_seq <| R_nd <| nq (Q_assign rfl) rfl rfl <| WL_nil <| x_then <| C_ret ?_
  replace H := H.f2
  replace H := H.f2
  replace H := H.f2
  obtain rfl := Option.some.inj hF
  exact fn_ret (l := [.tmp 4]) (vs := [.int .i64 (-1)]) rfl rfl rfl ⟨(-1), rfl, rfl, H⟩
theorem c_58_3 {N : Nat} {C : Cx} {w : World} {ρ : View} {hs : List Hl} {v1 : Value} {b4 : Nat} {b5 : Nat} {c6 : List Value} {v9 : Value} {x2 : (List Int)} {x7 : (List Int)} {x10 : Int} (H : Hp C w ρ (Box b4 [.pointer (some ⟨b5, 0, none⟩)] :: Box b5 [v9, .int .i64 x10] :: Arr v9 1 c6 :: hs)) (r3 : RdSl ρ (eI .i64) v1 x2) (r8 : rdL (eI .u64) ρ x7 c6) {r : Bool} (hF : F_slices_ContainsFunc_int_int_3 N x2 x7 x10 = some r) :
  Calls Tryd.prog 58 [v1, .func (.func 84) #[] [.pointer (some ⟨b4, 0, none⟩)].toArray].toArray w (Rets (fun v w' => (∃ (x15 : Bool), x15 = r ∧ .bool x15 = v ∧ Hp C w' ρ (Box b4 [.pointer (some ⟨b5, 0, none⟩)] :: Box b5 [v9, .int .i64 x10] :: Arr v9 1 c6 :: hs)))) := by
 unfold F_slices_ContainsFunc_int_int_3 at hF
 have h0 : Tryd.f58.body = some _ := rfl
 refine fn_calls' Tryd.func58 h0 (n := 9) rfl (by simp) <| C_seq <| R_nd <| nq (Q_assign rfl) rfl rfl <| WL_nil <| x_then <| C_seq <| R_nd <| nq (Q_move rfl) rfl rfl <| nq (Q_move rfl) rfl rfl ?_
 replace H := H.f2
 replace H := H.f2
 replace H := H.f2
 obtain ⟨q16, hq16, hF⟩ := bnd hF
 refine ne (E_call fn80 rfl (c_80_3 H  r3 r8 hq16)) rfl rfl ?_
 rintro _ wd19 ⟨x18, rfl, rfl, H⟩
 try dsimp only at hF
 refine nq (Q_geq rfl rfl) rfl rfl <| nq (Q_assign rfl) rfl rfl <| WL_nil <| x_then <| C_ret ?_
 replace H := H.f2
 replace H := H.f2
 replace H := H.f2
 obtain rfl := Option.some.inj hF
 exact fn_ret (l := [.tmp 4]) (vs := [.bool (decide (x18 ≥ 0))]) rfl rfl rfl ⟨decide (x18 ≥ 0), rfl, rfl, H⟩
theorem c_65 {N : Nat} {C : Cx} {w : World} {ρ : View} {hs : List Hl} {v1 : Value} {v4 : Value} {v7 : Value} {x2 : (List (List Int))} {x5 : (List Int)} {x8 : (List Int)} (H : Hp C w ρ (hs)) {ge0 : Value} (gl0 : GErr ρ 0 ge0) (r3 : RdSl ρ (eA 256 (eI .i64)) v1 x2) (r6 : RdSl ρ (eI .i64) v4 x5) (r9 : RdSl ρ (eI .i64) v7 x8) {r : (Unit ⊕ (List Int))} (hF : F_trim_live N x2 x5 x8 = some r) :
  Calls Tryd.prog 65 [.agg #[v1, v4, v7]].toArray w (Rets (fun v w' => (.inl () = r ∧ .pointer none = v ∧ Hp C w' ρ (hs)) ∨ (∃ (b7326 : Nat) (v7327 : Value) (c7328 : (List Value)) (x7329 : (List Int)), .inr x7329 = r ∧ .pointer (some ⟨b7326, 0, none⟩) = v ∧ rdL (eI .u64) ρ x7329 c7328 ∧ Hp C w' ρ (Box b7326 [v7327, .int .i64 (x2.length : Int)] :: Arr v7327 1 c7328 :: hs)))) := by
 unfold F_trim_live at hF
 have h0 : Tryd.f65.body = some _ := rfl
 refine fn_calls' Tryd.func65 h0 (n := 50) rfl (by simp) <| C_seq <| R_nd <| ne (E_box H (vs := [v1, v4, v7]) rfl rfl) rfl rfl ?_
 rintro _ wd7332 ⟨b7331, rfl, H⟩
 refine nq (Q_assign rfl) rfl rfl <| WL_nil <| x_then <| C_seq <| R_nd <| nq (v := .agg #[v1, v4, v7]) (Q_ldB (k := 0) (cs := [v1, v4, v7]) H.ok rfl ty25 rfl rfl rfl (fun h => nomatch h) rfl) rfl rfl ?_
 obtain ⟨q7333, hq7333, hF⟩ := bnd hF
 refine ne (E_call fn66 rfl (c_66 H gl0 r3 r6 r9 RdSl.nil hq7333)) rfl rfl ?_
 rintro _ wd7340 (⟨rfl, rfl, H⟩ | ⟨b7335, v7336, c7337, x7338, rfl, rfl, r7339, H⟩)
 ·try dsimp only at hF
  refine ne (E_alloc H ty61 (zs := [.pointer none]) rfl) rfl rfl ?_
  rintro _ wd7342 ⟨b7341, rfl, H⟩
  refine ne (E_stB (k := 0) (cs := [.pointer none]) (vs' := [.pointer none]) H rfl ty61 rfl rfl rfl rfl (one_cons rfl one_nil) (by simp) rfl) rfl rfl ?_
  rintro _ wd7343 H
  dsimp only [List.set] at H
  refine WL_nil <| x_then <| C_seq <| C_seq <| R_nd <| nq (v := .pointer (some ⟨b7331, 1, none⟩)) (Q_fld Tryd.underlying25 rfl ty23 (by decide) rfl rfl) rfl rfl <| nq (v := v4) (Q_ldB (k := 1) (cs := [v4]) H.ok rfl ty23 rfl rfl rfl (fun _ => rfl) rfl) rfl rfl <| nq (Q_len Tryd.underlying23 rfl r6) rfl rfl <| nq (Q_move rfl) rfl rfl <| WL_nil <| x_then ?_
  obtain ⟨o7447, ho7447, hF⟩ := bnd hF
  refine C_cutQ (fun a w' => Fr 50 a [(1, .pointer (some ⟨b7331, 0, none⟩)), (3, .pointer (some ⟨b7341, 0, none⟩))] ∧ Hp C w' ρ (Box b7331 [v1, v4, v7] :: Box b7341 [.pointer none] :: hs)) ?_ ?_
  ·refine C_block ?_
   replace H := H.f1
   refine C_iter (f := fun s => F_trim_live_l0 N x5 s) ho7447 (fun s a w' => ∃ (x7481 : Int), x7481 = s ∧ Fr 50 a [(1, .pointer (some ⟨b7331, 0, none⟩)), (3, .pointer (some ⟨b7341, 0, none⟩)), (13, v4), (14, .int .i64 (x5.length : Int)), (15, .int .i64 x7481)] ∧ Hp C w' ρ (Box b7331 [v1, v4, v7] :: Box b7341 [.pointer none] :: hs)) ?_ ?_
   ·exact fun a hf => ⟨0, rfl, hf.sub ⟨rfl, rfl, rfl, rfl, rfl, trivial⟩, H⟩
   ·rintro s o7515 a wd7518 ⟨x7481, rfl, hf, H⟩ hB7516 hO7517
    replace hB7516 : F_trim_live_l0 N x5 x7481 = some o7515 := hB7516
    unfold F_trim_live_l0 at hB7516
    refine CW.at hf <| C_seq <| R_nd <| nq (Q_lss rfl rfl) rfl rfl <| WL_nil <| x_then <| C_seq ?_
    refine C_cond rfl (fun hb => ?_) (fun hb => ?_)
    ·replace hB7516 := itT hb hB7516
     refine C_skip <| x_then ?_
     obtain ⟨o7534, ho7534, hB7516⟩ := bnd hB7516
     refine C_cut (fun a w' => Fr 50 a [(1, .pointer (some ⟨b7331, 0, none⟩)), (3, .pointer (some ⟨b7341, 0, none⟩)), (13, v4), (14, .int .i64 (x5.length : Int)), (15, .int .i64 x7481)] ∧ Hp C w' ρ (Box b7331 [v1, v4, v7] :: Box b7341 [.pointer none] :: hs)) ?_ ?_
     ·refine C_block <| C_seq <| R_nd <| nq (Q_move rfl) rfl rfl ?_
      obtain ⟨x7535, hx7535, ho7534⟩ := bnd ho7534
      obtain ⟨b7536, o7537, c7538, hc7539, ha7540, hi7541⟩ := idxR r6 hx7535
      refine nq (Q_idx hi7541 Tryd.underlying23 ty3 rfl rfl) rfl rfl <| nq (v := .int .i64 x7535) (Q_ld (show cellsAt _ _ _ [.int .i64 x7535] from (show _ = [_] from hc7539) ▸ (ha7540.up H.ok.view)) ty3 rfl (fun _ => rfl) rfl rfl) rfl rfl <| nq (Q_assign rfl) rfl rfl <| nq (Q_assign rfl) rfl rfl <| WL_nil <| x_then <| C_seq <| R_nd <| nq (Q_move rfl) rfl rfl <| nq (Q_neq rfl rfl) rfl rfl <| WL_nil <| x_then ?_
      obtain ⟨o7545, ho7545, ho7534⟩ := bnd ho7534
      refine C_cutQ (fun a w' => Fr 50 a [(1, .pointer (some ⟨b7331, 0, none⟩)), (3, .pointer (some ⟨b7341, 0, none⟩)), (13, v4), (14, .int .i64 (x5.length : Int)), (15, .int .i64 x7481)] ∧ Hp C w' ρ (Box b7331 [v1, v4, v7] :: Box b7341 [.pointer none] :: hs)) ?_ ?_
      ·refine C_cond rfl (fun hb => ?_) (fun hb => ?_)
       ·replace ho7545 := itT hb ho7545
        refine R_nd <| nq (v := .pointer none) (Q_ldB (k := 1) (cs := [.pointer none]) H.ok rfl ty61 rfl rfl rfl (fun _ => rfl) rfl) rfl rfl <| nq (Q_move rfl) rfl rfl ?_
        obtain ⟨q7546, hq7546, ho7545⟩ := bnd ho7545
        refine ne (E_call fn52 rfl (c_52_1 H   hq7546)) rfl rfl ?_
        rintro _ wd7548 ⟨rfl, rfl, H⟩
        try dsimp only at ho7545
        refine WL_nil ?_
        replace H := H.f1
        replace H := H.f1
        obtain rfl := Option.some.inj ho7545
        refine x_A fun a hf => ⟨hf.sub ⟨rfl, rfl, rfl, rfl, rfl, trivial⟩, H⟩
       ·replace ho7545 := itF hb ho7545
        refine C_skip ?_
        replace H := H.f1
        replace H := H.f1
        obtain rfl := Option.some.inj ho7545
        refine x_A fun a hf => ⟨hf.sub ⟨rfl, rfl, rfl, rfl, rfl, trivial⟩, H⟩
      ·rintro a wd7549 ⟨hf, H⟩
       try dsimp only at ho7534
       refine XX.at hf <| x_block ?_
       replace H := H.f1
       replace H := H.f1
       obtain rfl := Option.some.inj ho7534
       refine x_A fun a hf => ⟨hf.sub ⟨rfl, rfl, rfl, rfl, rfl, trivial⟩, H⟩
     ·rintro a wd7550 ⟨hf, H⟩
      try dsimp only at hB7516
      refine CW.at hf <| R_nd <| nq (Q_add rfl rfl) rfl rfl <| nq (Q_move rfl) rfl rfl <| WL_nil ?_
      replace H := H.f1
      replace H := H.f1
      obtain rfl := Option.some.inj hB7516
      refine x_A fun a hf => ⟨_, rfl, w64 (x7481 + 1), rfl, hf.sub ⟨rfl, rfl, rfl, rfl, rfl, trivial⟩, H⟩
    ·replace hB7516 := itF hb hB7516
     refine C_exit <| x_then_exit <| x_then_exit <| x_block_exit ?_
     replace H := H.f1
     replace H := H.f1
     obtain rfl := Option.some.inj hB7516
     obtain rfl := hO7517 _ rfl
     refine x_A fun a hf => ⟨hf.sub ⟨rfl, rfl, trivial⟩, H⟩
  ·rintro a wd7551 ⟨hf, H⟩
   try dsimp only at hF
   refine XX.at hf <| x_then <| C_seq <| C_seq <| R_nd <| nq (Q_assign rfl) rfl rfl <| WL_nil <| x_then ?_
   obtain ⟨o8885, ho8885, hF⟩ := bnd hF
   refine C_cutQ (fun a w' => Fr 50 a [(3, .pointer (some ⟨b7341, 0, none⟩))] ∧ Hp C w' ρ (Box b7341 [.pointer none] :: hs)) ?_ ?_
   ·refine C_block ?_
    replace H := H.f1
    replace H := H.f1
    refine C_iter (f := fun s => F_trim_live_l1 N x2 s) ho8885 (fun s a w' => ∃ (x9329 : Bool), x9329 = s ∧ Fr 50 a [(1, .pointer (some ⟨b7331, 0, none⟩)), (3, .pointer (some ⟨b7341, 0, none⟩)), (6, .bool x9329)] ∧ Hp C w' ρ (Box b7331 [v1, v4, v7] :: Box b7341 [.pointer none] :: hs)) ?_ ?_
    ·exact fun a hf => ⟨true, rfl, hf.sub ⟨rfl, rfl, rfl, trivial⟩, H⟩
    ·rintro s o9773 a wd9776 ⟨x9329, rfl, hf, H⟩ hB9774 hO9775
     replace hB9774 : F_trim_live_l1 N x2 x9329 = some o9773 := hB9774
     unfold F_trim_live_l1 at hB9774
     refine CW.at hf <| C_seq <| C_seq <| R_nd <| nq (Q_move rfl) rfl rfl <| WL_nil <| x_then ?_
     refine C_cond rfl (fun hb => ?_) (fun hb => ?_)
     ·replace hB9774 := itT hb hB9774
      refine C_skip <| x_then <| C_block <| C_seq <| R_nd <| nq (Q_assign rfl) rfl rfl <| WL_nil <| x_then <| C_seq <| R_nd <| nq (v := .pointer (some ⟨b7331, 0, none⟩)) (Q_fld Tryd.underlying25 rfl ty22 (by decide) rfl rfl) rfl rfl <| nq (v := v1) (Q_ldB (k := 0) (cs := [v1]) H.ok rfl ty22 rfl rfl rfl (fun _ => rfl) rfl) rfl rfl <| nq (Q_len Tryd.underlying22 rfl r3) rfl rfl <| nq (Q_move rfl) rfl rfl ?_
      refine WL_nil <| x_then ?_
      obtain ⟨o9997, ho9997, hB9774⟩ := bnd hB9774
      refine C_cutQ (fun a w' => Fr 50 a [(1, .pointer (some ⟨b7331, 0, none⟩)), (3, .pointer (some ⟨b7341, 0, none⟩)), (6, .bool false)] ∧ Hp C w' ρ (Box b7331 [v1, v4, v7] :: Box b7341 [.pointer none] :: hs)) ?_ ?_
      ·refine C_block ?_
       replace H := H.f1
       replace H := H.f1
       refine C_iter (f := fun s => F_trim_live_l2 N x2 s) ho9997 (fun s a w' => ∃ (x10070 : Int), x10070 = s ∧ Fr 50 a [(1, .pointer (some ⟨b7331, 0, none⟩)), (3, .pointer (some ⟨b7341, 0, none⟩)), (6, .bool false), (28, v1), (29, .int .i64 (x2.length : Int)), (30, .int .i64 x10070)] ∧ Hp C w' ρ (Box b7331 [v1, v4, v7] :: Box b7341 [.pointer none] :: hs)) ?_ ?_
       ·exact fun a hf => ⟨0, rfl, hf.sub ⟨rfl, rfl, rfl, rfl, rfl, rfl, trivial⟩, H⟩
       ·rintro s o10143 a wd10146 ⟨x10070, rfl, hf, H⟩ hB10144 hO10145
        replace hB10144 : F_trim_live_l2 N x2 x10070 = some o10143 := hB10144
        unfold F_trim_live_l2 at hB10144
        refine CW.at hf <| C_seq <| R_nd <| nq (Q_lss rfl rfl) rfl rfl <| WL_nil <| x_then <| C_seq ?_
        refine C_cond rfl (fun hb => ?_) (fun hb => ?_)
        ·replace hB10144 := itT hb hB10144
         refine C_skip <| x_then ?_
         obtain ⟨o10184, ho10184, hB10144⟩ := bnd hB10144
         refine C_cut (fun a w' => ∃ (b10179 : Nat) (c10180 : (List Value)) (x10181 : (List Int)), x10181 = o10184 ∧ rdL (eI .i64) ρ x10181 c10180 ∧ x10181.length = 256 ∧ Fr 50 a [(1, .pointer (some ⟨b7331, 0, none⟩)), (3, .pointer (some ⟨b7341, 0, none⟩)), (6, .bool false), (28, v1), (29, .int .i64 (x2.length : Int)), (30, .int .i64 x10070), (41, (.slice (some ⟨b10179, 0, none⟩) 256 256)), (42, .func (.func 84) #[] [.pointer (some ⟨b7341, 0, none⟩)].toArray), (43, .bool (decide ((-1) ≥ 0)))] ∧ Hp C w' ρ (Box b7331 [v1, v4, v7] :: Box b7341 [.pointer none] :: Arr (.slice (some ⟨b10179, 0, none⟩) 256 256) 1 c10180 :: hs)) ?_ ?_
         ·refine C_block <| C_seq <| R_nd <| nq (Q_move rfl) rfl rfl ?_
          obtain ⟨x10185, hx10185, ho10184⟩ := bnd ho10184
          obtain ⟨b10186, o10187, c10188, hc10189, ha10190, hi10191⟩ := idxR r3 hx10185
          refine nq (Q_idx hi10191 Tryd.underlying22 ty58 rfl rfl) rfl rfl <| nq (v := .agg c10188.toArray) (Q_ld (ha10190.up H.ok.view) ty58 ((eA 256 (eI .i64)).len hc10189) (fun h => nomatch h) rfl rfl) rfl rfl <| ne (E_allocA (N := 256) (n := 1) (zs := (repC 256 [.int .i64 0])) H ty58 rfl (by simp [repC_length])) rfl rfl ?_
          rintro _ wd10193 ⟨b10192, rfl, H⟩
          refine nq (Q_assign rfl) rfl rfl <| ne (E_stW (k := 0) H rfl ty58 rfl rfl (rdL.one hc10189.2) (arr_clen (rdL_rep (e:=(eI .i64)) (ρ:=ρ) (rfl) 256) List.length_replicate) (arr_clen hc10189.2 hc10189.1)) rfl rfl ?_
          rintro _ wd10194 H
          dsimp only [List.set] at H
          refine WL_nil <| x_then <| C_seq <| R_nd <| nq (v := .func (.func 84) #[] [.pointer (some ⟨b7341, 0, none⟩)].toArray) (Q_func rfl) rfl rfl <| nq (Q_assign rfl) rfl rfl <| WL_nil <| x_then ?_
          obtain ⟨o10201, ho10201, ho10184⟩ := bnd ho10184
          refine C_cut (fun a w' => Fr 50 a [(1, .pointer (some ⟨b7331, 0, none⟩)), (3, .pointer (some ⟨b7341, 0, none⟩)), (6, .bool false), (7, .int .i64 x10070), (28, v1), (29, .int .i64 (x2.length : Int)), (30, .int .i64 x10070), (41, (.slice (some ⟨b10192, 0, none⟩) 256 256)), (42, .func (.func 84) #[] [.pointer (some ⟨b7341, 0, none⟩)].toArray), (43, .bool (decide ((-1) ≥ 0))), (44, .bool (decide ((-1) ≥ 0)))] ∧ Hp C w' ρ (Box b7331 [v1, v4, v7] :: Box b7341 [.pointer none] :: Arr (.slice (some ⟨b10192, 0, none⟩) 256 256) 1 c10188 :: hs)) ?_ ?_
          ·refine R_nd <| nq (v := .pointer none) (Q_ldB (k := 2) (cs := [.pointer none]) H.ok rfl ty61 rfl rfl rfl (fun _ => rfl) rfl) rfl rfl <| nq (Q_move rfl) rfl rfl ?_
           obtain ⟨q10202, hq10202, ho10201⟩ := bnd ho10201
           refine ne (E_call fn81 rfl (c_81 H   hq10202)) rfl rfl ?_
           rintro _ wd10204 ⟨rfl, rfl, H⟩
           try dsimp only at ho10201
           refine nq (Q_not rfl) rfl rfl <| nq (Q_move rfl) rfl rfl <| gq (v := (.slice (some ⟨b10192, 0, none⟩) 256 256)) (Q_slA Tryd.underlying58 ty3 rfl) rfl rfl rfl <| gq (Q_move rfl) rfl rfl rfl ?_
           replace H := H.f2
           obtain ⟨q10205, hq10205, ho10201⟩ := bnd ho10201
           obtain ⟨C', ρ', hl10206, HA, hL, hback⟩ := Hp.lend (A := [Box b7341 [.pointer none]]) (L := [Arr (.slice (some ⟨b10192, 0, none⟩) 256 256) 1 c10188]) (F := Box b7331 [v1, v4, v7] :: hs) H
           refine ge (E_call fn58 rfl (c_58_2 HA  (arr_rd (by decide) hl10206 (hL (Arr (.slice (some ⟨b10192, 0, none⟩) 256 256) 1 c10188) (by simp)) hc10189.2) hq10205)) rfl rfl rfl ?_
           rintro _ wd10207 ⟨rfl, rfl, H⟩
           try dsimp only at ho10201
           replace H := hback H
           dsimp only [List.cons_append, List.nil_append] at H
           refine nq (Q_pickT rfl rfl) rfl rfl <| WL_nil ?_
           replace H := H.f1
           replace H := H.f1
           replace H := H.f2
           obtain rfl := Option.some.inj ho10201
           refine x_A fun a hf => ⟨hf.sub ⟨rfl, rfl, rfl, rfl, rfl, rfl, rfl, rfl, rfl, rfl, rfl, trivial⟩, H⟩
          ·rintro a wd10208 ⟨hf, H⟩
           try dsimp only at ho10184
           refine CW.at hf ?_
           obtain ⟨o10212, ho10212, ho10184⟩ := bnd ho10184
           refine C_cutQ (fun a w' => Fr 50 a [(1, .pointer (some ⟨b7331, 0, none⟩)), (3, .pointer (some ⟨b7341, 0, none⟩)), (6, .bool false), (28, v1), (29, .int .i64 (x2.length : Int)), (30, .int .i64 x10070), (41, (.slice (some ⟨b10192, 0, none⟩) 256 256)), (42, .func (.func 84) #[] [.pointer (some ⟨b7341, 0, none⟩)].toArray), (43, .bool (decide ((-1) ≥ 0)))] ∧ Hp C w' ρ (Box b7331 [v1, v4, v7] :: Box b7341 [.pointer none] :: Arr (.slice (some ⟨b10192, 0, none⟩) 256 256) 1 c10188 :: hs)) ?_ ?_
           ·refine C_cond rfl (fun hb => ?_) (fun hb => ?_)
            ·replace ho10212 := itT hb ho10212
             refine R_nd <| nq (v := .pointer none) (Q_ldB (k := 1) (cs := [.pointer none]) H.ok rfl ty61 rfl rfl rfl (fun _ => rfl) rfl) rfl rfl <| nq (Q_move rfl) rfl rfl ?_
             obtain ⟨q10213, hq10213, ho10212⟩ := bnd ho10212
             refine ne (E_call fn52 rfl (c_52_1 H   hq10213)) rfl rfl ?_
             rintro _ wd10215 ⟨rfl, rfl, H⟩
             try dsimp only at ho10212
             refine nq (Q_assign rfl) rfl rfl <| WL_nil ?_
             replace H := H.f2
             replace H := H.f2
             replace H := H.f2
             obtain rfl := Option.some.inj ho10212
             refine x_A fun a hf => ⟨hf.sub ⟨rfl, rfl, rfl, rfl, rfl, rfl, rfl, rfl, rfl, trivial⟩, H⟩
            ·replace ho10212 := itF hb ho10212
             refine C_skip ?_
             replace H := H.f2
             replace H := H.f2
             replace H := H.f2
             obtain rfl := Option.some.inj ho10212
             refine x_A fun a hf => ⟨hf.sub ⟨rfl, rfl, rfl, rfl, rfl, rfl, rfl, rfl, rfl, trivial⟩, H⟩
           ·rintro a wd10216 ⟨hf, H⟩
            try dsimp only at ho10184
            refine XX.at hf <| x_block ?_
            replace H := H.f2
            replace H := H.f2
            replace H := H.f2
            obtain rfl := Option.some.inj ho10184
            refine x_A fun a hf => ⟨b10192, c10188, x10185, rfl, hc10189.2, hc10189.1, hf.sub ⟨rfl, rfl, rfl, rfl, rfl, rfl, rfl, rfl, rfl, trivial⟩, H⟩
         ·rintro a wd10217 ⟨b10179, c10180, x10181, rfl, r10182, lp10183, hf, H⟩
          try dsimp only at hB10144
          refine CW.at hf <| R_nd <| nq (Q_add rfl rfl) rfl rfl <| nq (Q_move rfl) rfl rfl <| WL_nil ?_
          replace H := H.f1
          replace H := H.f1
          replace H := H.drop 2 rfl
          dsimp only [List.eraseIdx] at H
          obtain rfl := Option.some.inj hB10144
          refine x_A fun a hf => ⟨_, rfl, w64 (x10070 + 1), rfl, hf.sub ⟨rfl, rfl, rfl, rfl, rfl, rfl, trivial⟩, H⟩
        ·replace hB10144 := itF hb hB10144
         refine C_exit <| x_then_exit <| x_then_exit <| x_block_exit ?_
         replace H := H.f1
         replace H := H.f1
         obtain rfl := Option.some.inj hB10144
         obtain rfl := hO10145 _ rfl
         refine x_A fun a hf => ⟨hf.sub ⟨rfl, rfl, rfl, trivial⟩, H⟩
      ·rintro a wd10218 ⟨hf, H⟩
       try dsimp only at hB9774
       refine XX.at hf <| x_block ?_
       replace H := H.f1
       replace H := H.f1
       obtain rfl := Option.some.inj hB9774
       refine x_A fun a hf => ⟨_, rfl, false, rfl, hf.sub ⟨rfl, rfl, rfl, trivial⟩, H⟩
     ·replace hB9774 := itF hb hB9774
      refine C_exit <| x_then_exit <| x_then_exit <| x_block_exit ?_
      replace H := H.f1
      replace H := H.drop 1 rfl
      dsimp only [List.eraseIdx] at H
      obtain rfl := Option.some.inj hB9774
      obtain rfl := hO9775 _ rfl
      refine x_A fun a hf => ⟨hf.sub ⟨rfl, trivial⟩, H⟩
   ·rintro a wd10219 ⟨hf, H⟩
    try dsimp only at hF
    refine XX.at hf <| x_then <| C_seq <| R_nd <| nq (v := .pointer none) (Q_ldB (k := 0) (cs := [.pointer none]) H.ok rfl ty61 rfl rfl rfl (fun _ => rfl) rfl) rfl rfl <| nq (Q_assign rfl) rfl rfl <| WL_nil <| x_then <| C_ret ?_
    replace H := H.drop 0 rfl
    dsimp only [List.eraseIdx] at H
    obtain rfl := Option.some.inj hF
    exact fn_ret (l := [.tmp 2]) (vs := [.pointer none]) rfl rfl rfl (.inl ⟨rfl, rfl, H⟩)
 ·try dsimp only at hF
  refine ne (E_alloc H ty61 (zs := [.pointer none]) rfl) rfl rfl ?_
  rintro _ wd10221 ⟨b10220, rfl, H⟩
  refine ne (E_stB (k := 0) (cs := [.pointer (some ⟨b7335, 0, none⟩)]) (vs' := [.pointer (some ⟨b7335, 0, none⟩)]) H rfl ty61 rfl rfl rfl rfl (one_cons rfl one_nil) (by simp) rfl) rfl rfl ?_
  rintro _ wd10222 H
  dsimp only [List.set] at H
  refine WL_nil <| x_then <| C_seq <| C_seq <| R_nd <| nq (v := .pointer (some ⟨b7331, 1, none⟩)) (Q_fld Tryd.underlying25 rfl ty23 (by decide) rfl rfl) rfl rfl <| nq (v := v4) (Q_ldB (k := 3) (cs := [v4]) H.ok rfl ty23 rfl rfl rfl (fun _ => rfl) rfl) rfl rfl <| nq (Q_len Tryd.underlying23 rfl r6) rfl rfl <| nq (Q_move rfl) rfl rfl <| WL_nil <| x_then ?_
  obtain ⟨o10413, ho10413, hF⟩ := bnd hF
  refine C_cutQ (fun a w' => ∃ (c10410 : (List Value)) (x10411 : (List Int)), x10411 = o10413 ∧ rdL (eI .u64) ρ x10411 c10410 ∧ Fr 50 a [(1, .pointer (some ⟨b7331, 0, none⟩)), (3, .pointer (some ⟨b10220, 0, none⟩))] ∧ Hp C w' ρ (Box b7331 [v1, v4, v7] :: Box b10220 [.pointer (some ⟨b7335, 0, none⟩)] :: Box b7335 [v7336, .int .i64 (x2.length : Int)] :: Arr v7336 1 c10410 :: hs)) ?_ ?_
  ·refine C_block ?_
   replace H := H.f2
   replace H := H.f2
   replace H := H.f2
   replace H := H.f3
   refine C_iter (f := fun s => F_trim_live_l3 N x2 x5 s.1 s.2) ho10413 (fun s a w' => ∃ (c10476 : (List Value)) (x10475 : Int) (x10477 : (List Int)), (x10475, x10477) = s ∧ rdL (eI .u64) ρ x10477 c10476 ∧ Fr 50 a [(1, .pointer (some ⟨b7331, 0, none⟩)), (3, .pointer (some ⟨b10220, 0, none⟩)), (13, v4), (14, .int .i64 (x5.length : Int)), (15, .int .i64 x10475)] ∧ Hp C w' ρ (Box b7331 [v1, v4, v7] :: Box b10220 [.pointer (some ⟨b7335, 0, none⟩)] :: Box b7335 [v7336, .int .i64 (x2.length : Int)] :: Arr v7336 1 c10476 :: hs)) ?_ ?_
   ·exact fun a hf => ⟨c7337, 0, x7338, rfl, r7339, hf.sub ⟨rfl, rfl, rfl, rfl, rfl, trivial⟩, H⟩
   ·rintro s o10540 a wd10543 ⟨c10476, x10475, x10477, rfl, r10478, hf, H⟩ hB10541 hO10542
    replace hB10541 : F_trim_live_l3 N x2 x5 x10475 x10477 = some o10540 := hB10541
    unfold F_trim_live_l3 at hB10541
    refine CW.at hf <| C_seq <| R_nd <| nq (Q_lss rfl rfl) rfl rfl <| WL_nil <| x_then <| C_seq ?_
    refine C_cond rfl (fun hb => ?_) (fun hb => ?_)
    ·replace hB10541 := itT hb hB10541
     refine C_skip <| x_then ?_
     obtain ⟨o10573, ho10573, hB10541⟩ := bnd hB10541
     refine C_cut (fun a w' => ∃ (c10570 : (List Value)) (x10571 : (List Int)), x10571 = o10573 ∧ rdL (eI .u64) ρ x10571 c10570 ∧ Fr 50 a [(1, .pointer (some ⟨b7331, 0, none⟩)), (3, .pointer (some ⟨b10220, 0, none⟩)), (13, v4), (14, .int .i64 (x5.length : Int)), (15, .int .i64 x10475)] ∧ Hp C w' ρ (Box b7331 [v1, v4, v7] :: Box b10220 [.pointer (some ⟨b7335, 0, none⟩)] :: Box b7335 [v7336, .int .i64 (x2.length : Int)] :: Arr v7336 1 c10570 :: hs)) ?_ ?_
     ·refine C_block <| C_seq <| R_nd <| nq (Q_move rfl) rfl rfl ?_
      obtain ⟨x10574, hx10574, ho10573⟩ := bnd ho10573
      obtain ⟨b10575, o10576, c10577, hc10578, ha10579, hi10580⟩ := idxR r6 hx10574
      refine nq (Q_idx hi10580 Tryd.underlying23 ty3 rfl rfl) rfl rfl <| nq (v := .int .i64 x10574) (Q_ld (show cellsAt _ _ _ [.int .i64 x10574] from (show _ = [_] from hc10578) ▸ (ha10579.up H.ok.view)) ty3 rfl (fun _ => rfl) rfl rfl) rfl rfl <| nq (Q_assign rfl) rfl rfl <| nq (Q_assign rfl) rfl rfl <| WL_nil <| x_then <| C_seq <| R_nd <| nq (Q_move rfl) rfl rfl <| nq (Q_neq rfl rfl) rfl rfl <| WL_nil <| x_then ?_
      obtain ⟨o10591, ho10591, ho10573⟩ := bnd ho10573
      refine C_cutQ (fun a w' => ∃ (c10588 : (List Value)) (x10589 : (List Int)), x10589 = o10591 ∧ rdL (eI .u64) ρ x10589 c10588 ∧ Fr 50 a [(1, .pointer (some ⟨b7331, 0, none⟩)), (3, .pointer (some ⟨b10220, 0, none⟩)), (13, v4), (14, .int .i64 (x5.length : Int)), (15, .int .i64 x10475)] ∧ Hp C w' ρ (Box b7331 [v1, v4, v7] :: Box b10220 [.pointer (some ⟨b7335, 0, none⟩)] :: Box b7335 [v7336, .int .i64 (x2.length : Int)] :: Arr v7336 1 c10588 :: hs)) ?_ ?_
      ·refine C_cond rfl (fun hb => ?_) (fun hb => ?_)
       ·replace ho10591 := itT hb ho10591
        refine R_nd <| nq (v := .pointer (some ⟨b7335, 0, none⟩)) (Q_ldB (k := 1) (cs := [.pointer (some ⟨b7335, 0, none⟩)]) H.ok rfl ty61 rfl rfl rfl (fun _ => rfl) rfl) rfl rfl <| nq (Q_move rfl) rfl rfl ?_
        replace H := H.f3
        replace H := H.f3
        obtain ⟨q10592, hq10592, ho10591⟩ := bnd ho10591
        refine ne (E_call fn52 rfl (c_52 H  r10478 hq10592)) rfl rfl ?_
        rintro _ wd10598 ⟨c10594, x10595, x10596, rfl, rfl, r10597, H⟩
        try dsimp only at ho10591
        refine WL_nil ?_
        replace H := H.f1
        replace H := H.f1
        replace H := H.f3
        replace H := H.f3
        obtain rfl := Option.some.inj ho10591
        refine x_A fun a hf => ⟨c10594, x10595, rfl, r10597, hf.sub ⟨rfl, rfl, rfl, rfl, rfl, trivial⟩, H⟩
       ·replace ho10591 := itF hb ho10591
        refine C_skip ?_
        replace H := H.f3
        replace H := H.f3
        replace H := H.f3
        replace H := H.f3
        obtain rfl := Option.some.inj ho10591
        refine x_A fun a hf => ⟨c10476, x10477, rfl, r10478, hf.sub ⟨rfl, rfl, rfl, rfl, rfl, trivial⟩, H⟩
      ·rintro a wd10599 ⟨c10588, x10589, rfl, r10590, hf, H⟩
       try dsimp only at ho10573
       refine XX.at hf <| x_block ?_
       replace H := H.f3
       replace H := H.f3
       replace H := H.f3
       replace H := H.f3
       obtain rfl := Option.some.inj ho10573
       refine x_A fun a hf => ⟨c10588, x10589, rfl, r10590, hf.sub ⟨rfl, rfl, rfl, rfl, rfl, trivial⟩, H⟩
     ·rintro a wd10600 ⟨c10570, x10571, rfl, r10572, hf, H⟩
      try dsimp only at hB10541
      refine CW.at hf <| R_nd <| nq (Q_add rfl rfl) rfl rfl <| nq (Q_move rfl) rfl rfl <| WL_nil ?_
      replace H := H.f3
      replace H := H.f3
      replace H := H.f3
      replace H := H.f3
      obtain rfl := Option.some.inj hB10541
      refine x_A fun a hf => ⟨_, rfl, c10570, w64 (x10475 + 1), x10571, rfl, r10572, hf.sub ⟨rfl, rfl, rfl, rfl, rfl, trivial⟩, H⟩
    ·replace hB10541 := itF hb hB10541
     refine C_exit <| x_then_exit <| x_then_exit <| x_block_exit ?_
     replace H := H.f3
     replace H := H.f3
     replace H := H.f3
     replace H := H.f3
     obtain rfl := Option.some.inj hB10541
     obtain rfl := hO10542 _ rfl
     refine x_A fun a hf => ⟨c10476, x10477, rfl, r10478, hf.sub ⟨rfl, rfl, trivial⟩, H⟩
  ·rintro a wd10601 ⟨c10410, x10411, rfl, r10412, hf, H⟩
   try dsimp only at hF
   refine XX.at hf <| x_then <| C_seq <| C_seq <| R_nd <| nq (Q_assign rfl) rfl rfl <| WL_nil <| x_then ?_
   obtain ⟨o12625, ho12625, hF⟩ := bnd hF
   refine C_cutQ (fun a w' => ∃ (c12622 : (List Value)) (x12623 : (List Int)), x12623 = o12625 ∧ rdL (eI .u64) ρ x12623 c12622 ∧ Fr 50 a [(3, .pointer (some ⟨b10220, 0, none⟩))] ∧ Hp C w' ρ (Box b10220 [.pointer (some ⟨b7335, 0, none⟩)] :: Box b7335 [v7336, .int .i64 (x2.length : Int)] :: Arr v7336 1 c12622 :: hs)) ?_ ?_
   ·refine C_block ?_
    replace H := H.f3
    replace H := H.f3
    replace H := H.f3
    replace H := H.f3
    refine C_iter (f := fun s => F_trim_live_l4 N x2 s.1 s.2) ho12625 (fun s a w' => ∃ (c13298 : (List Value)) (x13299 : (List Int)) (x13301 : Bool), (x13299, x13301) = s ∧ rdL (eI .u64) ρ x13299 c13298 ∧ Fr 50 a [(1, .pointer (some ⟨b7331, 0, none⟩)), (3, .pointer (some ⟨b10220, 0, none⟩)), (6, .bool x13301)] ∧ Hp C w' ρ (Box b7331 [v1, v4, v7] :: Box b10220 [.pointer (some ⟨b7335, 0, none⟩)] :: Box b7335 [v7336, .int .i64 (x2.length : Int)] :: Arr v7336 1 c13298 :: hs)) ?_ ?_
    ·exact fun a hf => ⟨c10410, x10411, true, rfl, r10412, hf.sub ⟨rfl, rfl, rfl, trivial⟩, H⟩
    ·rintro s o13974 a wd13977 ⟨c13298, x13299, x13301, rfl, r13300, hf, H⟩ hB13975 hO13976
     replace hB13975 : F_trim_live_l4 N x2 x13299 x13301 = some o13974 := hB13975
     unfold F_trim_live_l4 at hB13975
     refine CW.at hf <| C_seq <| C_seq <| R_nd <| nq (Q_move rfl) rfl rfl <| WL_nil <| x_then ?_
     refine C_cond rfl (fun hb => ?_) (fun hb => ?_)
     ·replace hB13975 := itT hb hB13975
      refine C_skip <| x_then <| C_block <| C_seq <| R_nd <| nq (Q_assign rfl) rfl rfl <| WL_nil <| x_then <| C_seq <| R_nd <| nq (v := .pointer (some ⟨b7331, 0, none⟩)) (Q_fld Tryd.underlying25 rfl ty22 (by decide) rfl rfl) rfl rfl <| nq (v := v1) (Q_ldB (k := 0) (cs := [v1]) H.ok rfl ty22 rfl rfl rfl (fun _ => rfl) rfl) rfl rfl <| nq (Q_len Tryd.underlying22 rfl r3) rfl rfl <| nq (Q_move rfl) rfl rfl ?_
      refine WL_nil <| x_then ?_
      obtain ⟨o14313, ho14313, hB13975⟩ := bnd hB13975
      refine C_cutQ (fun a w' => ∃ (c14309 : (List Value)) (x14310 : (List Int)) (x14312 : Bool), (x14310, x14312) = o14313 ∧ rdL (eI .u64) ρ x14310 c14309 ∧ Fr 50 a [(1, .pointer (some ⟨b7331, 0, none⟩)), (3, .pointer (some ⟨b10220, 0, none⟩)), (6, .bool x14312)] ∧ Hp C w' ρ (Box b7331 [v1, v4, v7] :: Box b10220 [.pointer (some ⟨b7335, 0, none⟩)] :: Box b7335 [v7336, .int .i64 (x2.length : Int)] :: Arr v7336 1 c14309 :: hs)) ?_ ?_
      ·refine C_block ?_
       replace H := H.f3
       replace H := H.f3
       replace H := H.f3
       replace H := H.f3
       refine C_iter (f := fun s => F_trim_live_l5 N x2 s.1 s.2.1 s.2.2) ho14313 (fun s a w' => ∃ (c14423 : (List Value)) (x14424 : (List Int)) (x14426 : Int) (x14427 : Bool), (x14424, x14426, x14427) = s ∧ rdL (eI .u64) ρ x14424 c14423 ∧ Fr 50 a [(1, .pointer (some ⟨b7331, 0, none⟩)), (3, .pointer (some ⟨b10220, 0, none⟩)), (6, .bool x14427), (28, v1), (29, .int .i64 (x2.length : Int)), (30, .int .i64 x14426)] ∧ Hp C w' ρ (Box b7331 [v1, v4, v7] :: Box b10220 [.pointer (some ⟨b7335, 0, none⟩)] :: Box b7335 [v7336, .int .i64 (x2.length : Int)] :: Arr v7336 1 c14423 :: hs)) ?_ ?_
       ·exact fun a hf => ⟨c13298, x13299, 0, false, rfl, r13300, hf.sub ⟨rfl, rfl, rfl, rfl, rfl, rfl, trivial⟩, H⟩
       ·rintro s o14537 a wd14540 ⟨c14423, x14424, x14426, x14427, rfl, r14425, hf, H⟩ hB14538 hO14539
        replace hB14538 : F_trim_live_l5 N x2 x14424 x14426 x14427 = some o14537 := hB14538
        unfold F_trim_live_l5 at hB14538
        refine CW.at hf <| C_seq <| R_nd <| nq (Q_lss rfl rfl) rfl rfl <| WL_nil <| x_then <| C_seq ?_
        refine C_cond rfl (fun hb => ?_) (fun hb => ?_)
        ·replace hB14538 := itT hb hB14538
         refine C_skip <| x_then ?_
         obtain ⟨o14594, ho14594, hB14538⟩ := bnd hB14538
         refine C_cut (fun a w' => ∃ (c14590 : (List Value)) (x14591 : (List Int)) (x14593 : Bool), (x14591, x14593) = o14594 ∧ rdL (eI .u64) ρ x14591 c14590 ∧ Fr 50 a [(1, .pointer (some ⟨b7331, 0, none⟩)), (3, .pointer (some ⟨b10220, 0, none⟩)), (6, .bool x14593), (28, v1), (29, .int .i64 (x2.length : Int)), (30, .int .i64 x14426)] ∧ Hp C w' ρ (Box b7331 [v1, v4, v7] :: Box b10220 [.pointer (some ⟨b7335, 0, none⟩)] :: Box b7335 [v7336, .int .i64 (x2.length : Int)] :: Arr v7336 1 c14590 :: hs)) ?_ ?_
         ·refine C_block <| C_seq <| R_nd <| nq (Q_move rfl) rfl rfl ?_
          obtain ⟨x14595, hx14595, ho14594⟩ := bnd ho14594
          obtain ⟨b14596, o14597, c14598, hc14599, ha14600, hi14601⟩ := idxR r3 hx14595
          refine nq (Q_idx hi14601 Tryd.underlying22 ty58 rfl rfl) rfl rfl <| nq (v := .agg c14598.toArray) (Q_ld (ha14600.up H.ok.view) ty58 ((eA 256 (eI .i64)).len hc14599) (fun h => nomatch h) rfl rfl) rfl rfl <| ne (E_allocA (N := 256) (n := 1) (zs := (repC 256 [.int .i64 0])) H ty58 rfl (by simp [repC_length])) rfl rfl ?_
          rintro _ wd14603 ⟨b14602, rfl, H⟩
          refine nq (Q_assign rfl) rfl rfl <| ne (E_stW (k := 0) H rfl ty58 rfl rfl (rdL.one hc14599.2) (arr_clen (rdL_rep (e:=(eI .i64)) (ρ:=ρ) (rfl) 256) List.length_replicate) (arr_clen hc14599.2 hc14599.1)) rfl rfl ?_
          rintro _ wd14604 H
          dsimp only [List.set] at H
          refine WL_nil <| x_then <| C_seq <| R_nd <| nq (v := .func (.func 84) #[] [.pointer (some ⟨b10220, 0, none⟩)].toArray) (Q_func rfl) rfl rfl <| nq (Q_assign rfl) rfl rfl <| WL_nil <| x_then ?_
          obtain ⟨o14614, ho14614, ho14594⟩ := bnd ho14594
          refine C_cut (fun a w' => ∃ (x14613 : Bool), x14613 = o14614 ∧ Fr 50 a [(1, .pointer (some ⟨b7331, 0, none⟩)), (3, .pointer (some ⟨b10220, 0, none⟩)), (6, .bool x14427), (7, .int .i64 x14426), (28, v1), (29, .int .i64 (x2.length : Int)), (30, .int .i64 x14426), (44, .bool x14613)] ∧ Hp C w' ρ (Box b7331 [v1, v4, v7] :: Box b10220 [.pointer (some ⟨b7335, 0, none⟩)] :: Box b7335 [v7336, .int .i64 (x2.length : Int)] :: Arr v7336 1 c14423 :: hs)) ?_ ?_
          ·refine R_nd <| nq (v := .pointer (some ⟨b7335, 0, none⟩)) (Q_ldB (k := 2) (cs := [.pointer (some ⟨b7335, 0, none⟩)]) H.ok rfl ty61 rfl rfl rfl (fun _ => rfl) rfl) rfl rfl <| nq (Q_move rfl) rfl rfl ?_
           replace H := H.f4
           replace H := H.f4
           obtain ⟨q14615, hq14615, ho14614⟩ := bnd ho14614
           refine ne (E_call fn81 rfl (c_81_1 H  r14425 hq14615)) rfl rfl ?_
           rintro _ wd14618 ⟨x14617, rfl, rfl, H⟩
           try dsimp only at ho14614
           refine nq (Q_not rfl) rfl rfl <| nq (Q_move rfl) rfl rfl ?_
           rcases Bool.eq_false_or_eq_true (!x14617) with hb | hb
           ·rw [hb]
            replace ho14614 := itT hb ho14614
            refine gq (v := (.slice (some ⟨b14602, 0, none⟩) 256 256)) (Q_slA Tryd.underlying58 ty3 rfl) rfl rfl rfl <| gq (Q_move rfl) rfl rfl rfl ?_
            replace H := H.f2
            replace H := H.f2
            replace H := H.f2
            replace H := H.f4
            obtain ⟨q14619, hq14619, ho14614⟩ := bnd ho14614
            obtain ⟨C', ρ', hl14620, HA, hL, hback⟩ := Hp.lend (A := [Box b10220 [.pointer (some ⟨b7335, 0, none⟩)], Box b7335 [v7336, .int .i64 (x2.length : Int)], Arr v7336 1 c14423]) (L := [Arr (.slice (some ⟨b14602, 0, none⟩) 256 256) 1 c14598]) (F := Box b7331 [v1, v4, v7] :: hs) H
            refine ge (E_call fn58 rfl (c_58_3 HA  (arr_rd (by decide) hl14620 (hL (Arr (.slice (some ⟨b14602, 0, none⟩) 256 256) 1 c14598) (by simp)) hc14599.2) (r14425.up hl14620) hq14619)) rfl rfl rfl ?_
            rintro _ wd14622 ⟨x14621, rfl, rfl, H⟩
            try dsimp only at ho14614
            replace H := hback H
            dsimp only [List.cons_append, List.nil_append] at H
            refine nq (Q_pickT rfl rfl) rfl rfl <| WL_nil ?_
            replace H := H.f2
            replace H := H.f2
            replace H := H.f2
            replace H := H.f4
            replace H := H.drop 4 rfl
            dsimp only [List.eraseIdx] at H
            obtain rfl := Option.some.inj ho14614
            refine x_A fun a hf => ⟨x14621, rfl, hf.sub ⟨rfl, rfl, rfl, rfl, rfl, rfl, rfl, rfl, trivial⟩, H⟩
           ·rw [hb]
            replace ho14614 := itF hb ho14614
            refine gs rfl rfl rfl rfl <| gs rfl rfl rfl rfl <| gs rfl rfl rfl rfl <| nq (Q_pickF rfl rfl) rfl rfl <| WL_nil ?_
            replace H := H.f1
            replace H := H.f1
            replace H := H.f4
            replace H := H.f4
            replace H := H.drop 4 rfl
            dsimp only [List.eraseIdx] at H
            obtain rfl := Option.some.inj ho14614
            refine x_A fun a hf => ⟨false, rfl, hf.sub ⟨rfl, rfl, rfl, rfl, rfl, rfl, rfl, rfl, trivial⟩, H⟩
          ·rintro a wd14623 ⟨x14613, rfl, hf, H⟩
           try dsimp only at ho14594
           refine CW.at hf ?_
           obtain ⟨o14635, ho14635, ho14594⟩ := bnd ho14594
           refine C_cutQ (fun a w' => ∃ (c14631 : (List Value)) (x14632 : (List Int)) (x14634 : Bool), (x14632, x14634) = o14635 ∧ rdL (eI .u64) ρ x14632 c14631 ∧ Fr 50 a [(1, .pointer (some ⟨b7331, 0, none⟩)), (3, .pointer (some ⟨b10220, 0, none⟩)), (6, .bool x14634), (28, v1), (29, .int .i64 (x2.length : Int)), (30, .int .i64 x14426)] ∧ Hp C w' ρ (Box b7331 [v1, v4, v7] :: Box b10220 [.pointer (some ⟨b7335, 0, none⟩)] :: Box b7335 [v7336, .int .i64 (x2.length : Int)] :: Arr v7336 1 c14631 :: hs)) ?_ ?_
           ·refine C_cond rfl (fun hb => ?_) (fun hb => ?_)
            ·replace ho14635 := itT hb ho14635
             refine R_nd <| nq (v := .pointer (some ⟨b7335, 0, none⟩)) (Q_ldB (k := 1) (cs := [.pointer (some ⟨b7335, 0, none⟩)]) H.ok rfl ty61 rfl rfl rfl (fun _ => rfl) rfl) rfl rfl <| nq (Q_move rfl) rfl rfl ?_
             replace H := H.f3
             replace H := H.f3
             obtain ⟨q14636, hq14636, ho14635⟩ := bnd ho14635
             refine ne (E_call fn52 rfl (c_52 H  r14425 hq14636)) rfl rfl ?_
             rintro _ wd14642 ⟨c14638, x14639, x14640, rfl, rfl, r14641, H⟩
             try dsimp only at ho14635
             refine nq (Q_assign rfl) rfl rfl <| WL_nil ?_
             replace H := H.f1
             replace H := H.f1
             replace H := H.f3
             replace H := H.f3
             obtain rfl := Option.some.inj ho14635
             refine x_A fun a hf => ⟨c14638, x14639, x14640, rfl, r14641, hf.sub ⟨rfl, rfl, rfl, rfl, rfl, rfl, trivial⟩, H⟩
            ·replace ho14635 := itF hb ho14635
             refine C_skip ?_
             replace H := H.f3
             replace H := H.f3
             replace H := H.f3
             replace H := H.f3
             obtain rfl := Option.some.inj ho14635
             refine x_A fun a hf => ⟨c14423, x14424, x14427, rfl, r14425, hf.sub ⟨rfl, rfl, rfl, rfl, rfl, rfl, trivial⟩, H⟩
           ·rintro a wd14643 ⟨c14631, x14632, x14634, rfl, r14633, hf, H⟩
            try dsimp only at ho14594
            refine XX.at hf <| x_block ?_
            replace H := H.f3
            replace H := H.f3
            replace H := H.f3
            replace H := H.f3
            obtain rfl := Option.some.inj ho14594
            refine x_A fun a hf => ⟨c14631, x14632, x14634, rfl, r14633, hf.sub ⟨rfl, rfl, rfl, rfl, rfl, rfl, trivial⟩, H⟩
         ·rintro a wd14644 ⟨c14590, x14591, x14593, rfl, r14592, hf, H⟩
          try dsimp only at hB14538
          refine CW.at hf <| R_nd <| nq (Q_add rfl rfl) rfl rfl <| nq (Q_move rfl) rfl rfl <| WL_nil ?_
          replace H := H.f3
          replace H := H.f3
          replace H := H.f3
          replace H := H.f3
          obtain rfl := Option.some.inj hB14538
          refine x_A fun a hf => ⟨_, rfl, c14590, x14591, w64 (x14426 + 1), x14593, rfl, r14592, hf.sub ⟨rfl, rfl, rfl, rfl, rfl, rfl, trivial⟩, H⟩
        ·replace hB14538 := itF hb hB14538
         refine C_exit <| x_then_exit <| x_then_exit <| x_block_exit ?_
         replace H := H.f3
         replace H := H.f3
         replace H := H.f3
         replace H := H.f3
         obtain rfl := Option.some.inj hB14538
         obtain rfl := hO14539 _ rfl
         refine x_A fun a hf => ⟨c14423, x14424, x14427, rfl, r14425, hf.sub ⟨rfl, rfl, rfl, trivial⟩, H⟩
      ·rintro a wd14645 ⟨c14309, x14310, x14312, rfl, r14311, hf, H⟩
       try dsimp only at hB13975
       refine XX.at hf <| x_block ?_
       replace H := H.f3
       replace H := H.f3
       replace H := H.f3
       replace H := H.f3
       obtain rfl := Option.some.inj hB13975
       refine x_A fun a hf => ⟨_, rfl, c14309, x14310, x14312, rfl, r14311, hf.sub ⟨rfl, rfl, rfl, trivial⟩, H⟩
     ·replace hB13975 := itF hb hB13975
      refine C_exit <| x_then_exit <| x_then_exit <| x_block_exit ?_
      replace H := H.f3
      replace H := H.f3
      replace H := H.f3
      replace H := H.drop 3 rfl
      dsimp only [List.eraseIdx] at H
      obtain rfl := Option.some.inj hB13975
      obtain rfl := hO13976 _ rfl
      refine x_A fun a hf => ⟨c13298, x13299, rfl, r13300, hf.sub ⟨rfl, trivial⟩, H⟩
   ·rintro a wd14646 ⟨c12622, x12623, rfl, r12624, hf, H⟩
    try dsimp only at hF
    refine XX.at hf <| x_then <| C_seq <| R_nd <| nq (v := .pointer (some ⟨b7335, 0, none⟩)) (Q_ldB (k := 0) (cs := [.pointer (some ⟨b7335, 0, none⟩)]) H.ok rfl ty61 rfl rfl rfl (fun _ => rfl) rfl) rfl rfl <| nq (Q_assign rfl) rfl rfl <| WL_nil <| x_then <| C_ret ?_
    replace H := H.f2
    replace H := H.f2
    replace H := H.drop 2 rfl
    dsimp only [List.eraseIdx] at H
    obtain rfl := Option.some.inj hF
    exact fn_ret (l := [.tmp 2]) (vs := [.pointer (some ⟨b7335, 0, none⟩)]) rfl rfl rfl (.inr ⟨b7335, v7336, c12622, x12623, rfl, rfl, r12624, H⟩)
theorem c_62 {N : Nat} {C : Cx} {w : World} {ρ : View} {hs : List Hl} {v1 : Value} {v4 : Value} {v7 : Value} {x2 : (List (List Int))} {x5 : (List Int)} {x8 : (List Int)} (H : Hp C w ρ (hs)) {ge0 : Value} (gl0 : GErr ρ 0 ge0) (gl1 : GTab ρ 1 .u8 tab_math_bits_deBruijn64tab) (r3 : RdSl ρ (eA 256 (eI .i64)) v1 x2) (r6 : RdSl ρ (eI .i64) v4 x5) (r9 : RdSl ρ (eI .i64) v7 x8) {r : (List Int)} (hF : F_trim_kept N x2 x5 x8 = some r) :
  Calls Tryd.prog 62 [.agg #[v1, v4, v7]].toArray w (Rets (fun v w' => (∃ (v1660 : Value) (c1661 : (List Value)) (x1662 : (List Int)), x1662 = r ∧ v1660 = v ∧ rdL (eI .i64) ρ x1662 c1661 ∧ Hp C w' ρ (Arr v1660 1 c1661 :: hs)))) := by
 unfold F_trim_kept at hF
 have h0 : Tryd.f62.body = some _ := rfl
 refine fn_calls' Tryd.func62 h0 (n := 31) rfl (by simp) <| C_seq <| R_nd <| ne (E_box H (vs := [v1, v4, v7]) rfl rfl) rfl rfl ?_
 rintro _ wd1665 ⟨b1664, rfl, H⟩
 refine nq (Q_assign rfl) rfl rfl <| WL_nil <| x_then <| C_seq <| R_nd <| ne (E_bslice (xs := [.const (.int .i64 0)]) (vs := [.int .i64 0]) H Tryd.underlying23 ty3 (by decide) (cs := [.int .i64 0]) rfl (sz_cons rfl sz_nil) rfl (by simp) (by simp) rfl rfl) rfl rfl ?_
 rintro _ wd1667 ⟨b1666, rfl, H⟩
 refine nq (Q_assign rfl) rfl rfl <| WL_nil <| x_then <| C_seq <| R_nd <| nq (v := .agg #[v1, v4, v7]) (Q_ldB (k := 1) (cs := [v1, v4, v7]) H.ok rfl ty25 rfl rfl rfl (fun h => nomatch h) rfl) rfl rfl ?_
 obtain ⟨q1668, hq1668, hF⟩ := bnd hF
 refine ne (E_call fn63 rfl (c_63 H gl0 r3 r6 r9 hq1668)) rfl rfl ?_
 rintro _ wd1675 (⟨rfl, rfl, H⟩ | ⟨b1670, v1671, c1672, x1673, rfl, rfl, r1674, H⟩)
 ·try dsimp only at hF
  refine nq (Q_assign rfl) rfl rfl <| WL_nil <| x_then <| C_seq <| C_seq <| R_nd <| nq (v := .agg #[v1, v4, v7]) (Q_ldB (k := 1) (cs := [v1, v4, v7]) H.ok rfl ty25 rfl rfl rfl (fun h => nomatch h) rfl) rfl rfl ?_
  obtain ⟨q1676, hq1676, hF⟩ := bnd hF
  refine ne (E_call fn65 rfl (c_65 H gl0 r3 r6 r9 hq1676)) rfl rfl ?_
  rintro _ wd1683 (⟨rfl, rfl, H⟩ | ⟨b1678, v1679, c1680, x1681, rfl, rfl, r1682, H⟩)
  ·try dsimp only at hF
   obtain ⟨q1684, hq1684, hF⟩ := bnd hF
   refine ne (E_call fn64 rfl (c_64 H   hq1684)) rfl rfl ?_
   rintro _ wd1690 ⟨v1686, c1687, x1688, rfl, rfl, r1689, H⟩
   try dsimp only at hF
   refine nq (Q_lenA (k := 0) H.ok rfl r1689 (by decide) Tryd.underlying23 rfl) rfl rfl <| nq (Q_move rfl) rfl rfl <| WL_nil <| x_then ?_
   obtain ⟨o1806, ho1806, hF⟩ := bnd hF
   refine C_cutQ (fun a w' => Fr 31 a [(3, (.slice (some ⟨b1666, 0, none⟩) 1 1))] ∧ Hp C w' ρ (Arr (.slice (some ⟨b1666, 0, none⟩) 1 1) 1 ([.int .i64 0]) :: hs)) ?_ ?_
   ·refine C_block ?_
    replace H := H.f1
    replace H := H.f1
    replace H := H.drop 2 rfl
    dsimp only [List.eraseIdx] at H
    refine C_iter (f := fun s => F_trim_kept_l0 N x1688 s) ho1806 (fun s a w' => ∃ (x1844 : Int), x1844 = s ∧ Fr 31 a [(3, (.slice (some ⟨b1666, 0, none⟩) 1 1)), (4, .pointer none), (12, v1686), (13, .int .i64 (x1688.length : Int)), (14, .int .i64 x1844)] ∧ Hp C w' ρ (Arr v1686 1 c1687 :: Arr (.slice (some ⟨b1666, 0, none⟩) 1 1) 1 ([.int .i64 0]) :: hs)) ?_ ?_
    ·exact fun a hf => ⟨0, rfl, hf.sub ⟨rfl, rfl, rfl, rfl, rfl, trivial⟩, H⟩
    ·rintro s o1882 a wd1885 ⟨x1844, rfl, hf, H⟩ hB1883 hO1884
     replace hB1883 : F_trim_kept_l0 N x1688 x1844 = some o1882 := hB1883
     unfold F_trim_kept_l0 at hB1883
     refine CW.at hf <| C_seq <| R_nd <| nq (Q_lss rfl rfl) rfl rfl <| WL_nil <| x_then <| C_seq ?_
     refine C_cond rfl (fun hb => ?_) (fun hb => ?_)
     ·replace hB1883 := itT hb hB1883
      refine C_skip <| x_then ?_
      obtain ⟨o1903, ho1903, hB1883⟩ := bnd hB1883
      refine C_cut (fun a w' => Fr 31 a [(3, (.slice (some ⟨b1666, 0, none⟩) 1 1)), (4, .pointer none), (12, v1686), (13, .int .i64 (x1688.length : Int)), (14, .int .i64 x1844), (22, undef), (23, undef)] ∧ Hp C w' ρ (Arr v1686 1 c1687 :: Arr (.slice (some ⟨b1666, 0, none⟩) 1 1) 1 ([.int .i64 0]) :: hs)) ?_ ?_
      ·refine C_block <| C_seq <| R_nd ?_
       obtain ⟨x1904, hx1904, ho1903⟩ := bnd ho1903
       obtain ⟨b1905, o1906, hi1910, hc1908, ha1909⟩ := arr_at (hs := [Arr v1686 1 c1687]) (k := 0) (by decide) (H.okS (by simp)) rfl r1689 hx1904
       refine nq (Q_idx hi1910 Tryd.underlying23 ty3 rfl rfl) rfl rfl <| nq (v := .int .i64 x1904) (Q_ld (show cellsAt _ _ _ [.int .i64 x1904] from (show _ = [_] from hc1908) ▸ (ha1909 _ (Ok.subS (by simp) H.ok))) ty3 rfl (fun _ => rfl) rfl rfl) rfl rfl <| nq (Q_assign rfl) rfl rfl <| WL_nil <| x_then ?_
       obtain ⟨o1914, ho1914, ho1903⟩ := bnd ho1903
       refine C_cut (fun a w' => Fr 31 a [(3, (.slice (some ⟨b1666, 0, none⟩) 1 1)), (4, .pointer none), (6, .int .i64 x1904), (12, v1686), (13, .int .i64 (x1688.length : Int)), (14, .int .i64 x1844), (22, undef), (23, undef), (24, .bool false)] ∧ Hp C w' ρ (Arr v1686 1 c1687 :: Arr (.slice (some ⟨b1666, 0, none⟩) 1 1) 1 ([.int .i64 0]) :: hs)) ?_ ?_
       ·refine R_nd <| nq (Q_move rfl) rfl rfl <| nq (Q_move rfl) rfl rfl ?_
        obtain ⟨q1915, hq1915, ho1914⟩ := bnd ho1914
        refine ne (E_call fn81 rfl (c_81 H   hq1915)) rfl rfl ?_
        rintro _ wd1917 ⟨rfl, rfl, H⟩
        try dsimp only at ho1914
        refine nq (Q_move rfl) rfl rfl <| gs rfl rfl rfl rfl <| gs rfl rfl rfl rfl <| nq (Q_pickF rfl rfl) rfl rfl <| WL_nil ?_
        replace H := H.f1
        replace H := H.f1
        obtain rfl := Option.some.inj ho1914
        refine x_A fun a hf => ⟨hf.sub ⟨rfl, rfl, rfl, rfl, rfl, rfl, rfl, rfl, rfl, trivial⟩, H⟩
       ·rintro a wd1918 ⟨hf, H⟩
        try dsimp only at ho1903
        refine CW.at hf ?_
        obtain ⟨o1919, ho1919, ho1903⟩ := bnd ho1903
        refine C_cutQ (fun a w' => Fr 31 a [(3, (.slice (some ⟨b1666, 0, none⟩) 1 1)), (4, .pointer none), (12, v1686), (13, .int .i64 (x1688.length : Int)), (14, .int .i64 x1844), (22, undef), (23, undef)] ∧ Hp C w' ρ (Arr v1686 1 c1687 :: Arr (.slice (some ⟨b1666, 0, none⟩) 1 1) 1 ([.int .i64 0]) :: hs)) ?_ ?_
        ·refine C_cond rfl (fun h => nomatch h) (fun _ => ?_)
         refine C_skip ?_
         replace H := H.f1
         replace H := H.f1
         obtain rfl := Option.some.inj ho1919
         refine x_A fun a hf => ⟨hf.sub ⟨rfl, rfl, rfl, rfl, rfl, rfl, rfl, trivial⟩, H⟩
        ·rintro a wd1920 ⟨hf, H⟩
         try dsimp only at ho1903
         refine XX.at hf <| x_block ?_
         replace H := H.f1
         replace H := H.f1
         obtain rfl := Option.some.inj ho1903
         refine x_A fun a hf => ⟨hf.sub ⟨rfl, rfl, rfl, rfl, rfl, rfl, rfl, trivial⟩, H⟩
      ·rintro a wd1921 ⟨hf, H⟩
       try dsimp only at hB1883
       refine CW.at hf <| R_nd <| nq (Q_add rfl rfl) rfl rfl <| nq (Q_move rfl) rfl rfl <| WL_nil ?_
       replace H := H.f1
       replace H := H.f1
       obtain rfl := Option.some.inj hB1883
       refine x_A fun a hf => ⟨_, rfl, w64 (x1844 + 1), rfl, hf.sub ⟨rfl, rfl, rfl, rfl, rfl, trivial⟩, H⟩
     ·replace hB1883 := itF hb hB1883
      refine C_exit <| x_then_exit <| x_then_exit <| x_block_exit ?_
      replace H := H.f1
      replace H := H.drop 1 rfl
      dsimp only [List.eraseIdx] at H
      obtain rfl := Option.some.inj hB1883
      obtain rfl := hO1884 _ rfl
      refine x_A fun a hf => ⟨hf.sub ⟨rfl, trivial⟩, H⟩
   ·rintro a wd1922 ⟨hf, H⟩
    try dsimp only at hF
    refine XX.at hf <| x_then <| C_seq <| R_nd <| nq (Q_move rfl) rfl rfl <| nq (Q_assign rfl) rfl rfl <| WL_nil <| x_then <| C_ret ?_
    obtain rfl := Option.some.inj hF
    exact fn_ret (l := [.tmp 2]) (vs := [(.slice (some ⟨b1666, 0, none⟩) 1 1)]) rfl rfl rfl ⟨(.slice (some ⟨b1666, 0, none⟩) 1 1), [.int .i64 0], [0], rfl, rfl, (show rdL (eI .i64) ρ ([0]) ([.int .i64 0]) from ⟨([.int .i64 0]), _, rfl, rfl, rdL.nil⟩), H⟩
  ·try dsimp only at hF
   replace H := H.f1
   replace H := H.f1
   obtain ⟨q1923, hq1923, hF⟩ := bnd hF
   refine ne (E_call fn64 rfl (c_64_1 H gl1 r1682 hq1923)) rfl rfl ?_
   rintro _ wd1929 ⟨v1925, c1926, x1927, rfl, rfl, r1928, H⟩
   try dsimp only at hF
   refine nq (Q_lenA (k := 2) H.ok rfl r1928 (by decide) Tryd.underlying23 rfl) rfl rfl <| nq (Q_move rfl) rfl rfl <| WL_nil <| x_then ?_
   obtain ⟨o2045, ho2045, hF⟩ := bnd hF
   refine C_cutQ (fun a w' => Fr 31 a [(3, (.slice (some ⟨b1666, 0, none⟩) 1 1))] ∧ Hp C w' ρ (Arr (.slice (some ⟨b1666, 0, none⟩) 1 1) 1 ([.int .i64 0]) :: hs)) ?_ ?_
   ·refine C_block ?_
    replace H := H.f3
    replace H := H.f3
    replace H := H.drop 2 rfl
    dsimp only [List.eraseIdx] at H
    replace H := H.drop 2 rfl
    dsimp only [List.eraseIdx] at H
    replace H := H.drop 2 rfl
    dsimp only [List.eraseIdx] at H
    refine C_iter (f := fun s => F_trim_kept_l1 N x1927 s) ho2045 (fun s a w' => ∃ (x2083 : Int), x2083 = s ∧ Fr 31 a [(3, (.slice (some ⟨b1666, 0, none⟩) 1 1)), (4, .pointer none), (12, v1925), (13, .int .i64 (x1927.length : Int)), (14, .int .i64 x2083)] ∧ Hp C w' ρ (Arr v1925 1 c1926 :: Arr (.slice (some ⟨b1666, 0, none⟩) 1 1) 1 ([.int .i64 0]) :: hs)) ?_ ?_
    ·exact fun a hf => ⟨0, rfl, hf.sub ⟨rfl, rfl, rfl, rfl, rfl, trivial⟩, H⟩
    ·rintro s o2121 a wd2124 ⟨x2083, rfl, hf, H⟩ hB2122 hO2123
     replace hB2122 : F_trim_kept_l1 N x1927 x2083 = some o2121 := hB2122
     unfold F_trim_kept_l1 at hB2122
     refine CW.at hf <| C_seq <| R_nd <| nq (Q_lss rfl rfl) rfl rfl <| WL_nil <| x_then <| C_seq ?_
     refine C_cond rfl (fun hb => ?_) (fun hb => ?_)
     ·replace hB2122 := itT hb hB2122
      refine C_skip <| x_then ?_
      obtain ⟨o2142, ho2142, hB2122⟩ := bnd hB2122
      refine C_cut (fun a w' => Fr 31 a [(3, (.slice (some ⟨b1666, 0, none⟩) 1 1)), (4, .pointer none), (12, v1925), (13, .int .i64 (x1927.length : Int)), (14, .int .i64 x2083), (22, undef), (23, undef)] ∧ Hp C w' ρ (Arr v1925 1 c1926 :: Arr (.slice (some ⟨b1666, 0, none⟩) 1 1) 1 ([.int .i64 0]) :: hs)) ?_ ?_
      ·refine C_block <| C_seq <| R_nd ?_
       obtain ⟨x2143, hx2143, ho2142⟩ := bnd ho2142
       obtain ⟨b2144, o2145, hi2149, hc2147, ha2148⟩ := arr_at (hs := [Arr v1925 1 c1926]) (k := 0) (by decide) (H.okS (by simp)) rfl r1928 hx2143
       refine nq (Q_idx hi2149 Tryd.underlying23 ty3 rfl rfl) rfl rfl <| nq (v := .int .i64 x2143) (Q_ld (show cellsAt _ _ _ [.int .i64 x2143] from (show _ = [_] from hc2147) ▸ (ha2148 _ (Ok.subS (by simp) H.ok))) ty3 rfl (fun _ => rfl) rfl rfl) rfl rfl <| nq (Q_assign rfl) rfl rfl <| WL_nil <| x_then ?_
       obtain ⟨o2153, ho2153, ho2142⟩ := bnd ho2142
       refine C_cut (fun a w' => Fr 31 a [(3, (.slice (some ⟨b1666, 0, none⟩) 1 1)), (4, .pointer none), (6, .int .i64 x2143), (12, v1925), (13, .int .i64 (x1927.length : Int)), (14, .int .i64 x2083), (22, undef), (23, undef), (24, .bool false)] ∧ Hp C w' ρ (Arr v1925 1 c1926 :: Arr (.slice (some ⟨b1666, 0, none⟩) 1 1) 1 ([.int .i64 0]) :: hs)) ?_ ?_
       ·refine R_nd <| nq (Q_move rfl) rfl rfl <| nq (Q_move rfl) rfl rfl ?_
        obtain ⟨q2154, hq2154, ho2153⟩ := bnd ho2153
        refine ne (E_call fn81 rfl (c_81 H   hq2154)) rfl rfl ?_
        rintro _ wd2156 ⟨rfl, rfl, H⟩
        try dsimp only at ho2153
        refine nq (Q_move rfl) rfl rfl <| gs rfl rfl rfl rfl <| gs rfl rfl rfl rfl <| nq (Q_pickF rfl rfl) rfl rfl <| WL_nil ?_
        replace H := H.f1
        replace H := H.f1
        obtain rfl := Option.some.inj ho2153
        refine x_A fun a hf => ⟨hf.sub ⟨rfl, rfl, rfl, rfl, rfl, rfl, rfl, rfl, rfl, trivial⟩, H⟩
       ·rintro a wd2157 ⟨hf, H⟩
        try dsimp only at ho2142
        refine CW.at hf ?_
        obtain ⟨o2158, ho2158, ho2142⟩ := bnd ho2142
        refine C_cutQ (fun a w' => Fr 31 a [(3, (.slice (some ⟨b1666, 0, none⟩) 1 1)), (4, .pointer none), (12, v1925), (13, .int .i64 (x1927.length : Int)), (14, .int .i64 x2083), (22, undef), (23, undef)] ∧ Hp C w' ρ (Arr v1925 1 c1926 :: Arr (.slice (some ⟨b1666, 0, none⟩) 1 1) 1 ([.int .i64 0]) :: hs)) ?_ ?_
        ·refine C_cond rfl (fun h => nomatch h) (fun _ => ?_)
         refine C_skip ?_
         replace H := H.f1
         replace H := H.f1
         obtain rfl := Option.some.inj ho2158
         refine x_A fun a hf => ⟨hf.sub ⟨rfl, rfl, rfl, rfl, rfl, rfl, rfl, trivial⟩, H⟩
        ·rintro a wd2159 ⟨hf, H⟩
         try dsimp only at ho2142
         refine XX.at hf <| x_block ?_
         replace H := H.f1
         replace H := H.f1
         obtain rfl := Option.some.inj ho2142
         refine x_A fun a hf => ⟨hf.sub ⟨rfl, rfl, rfl, rfl, rfl, rfl, rfl, trivial⟩, H⟩
      ·rintro a wd2160 ⟨hf, H⟩
       try dsimp only at hB2122
       refine CW.at hf <| R_nd <| nq (Q_add rfl rfl) rfl rfl <| nq (Q_move rfl) rfl rfl <| WL_nil ?_
       replace H := H.f1
       replace H := H.f1
       obtain rfl := Option.some.inj hB2122
       refine x_A fun a hf => ⟨_, rfl, w64 (x2083 + 1), rfl, hf.sub ⟨rfl, rfl, rfl, rfl, rfl, trivial⟩, H⟩
     ·replace hB2122 := itF hb hB2122
      refine C_exit <| x_then_exit <| x_then_exit <| x_block_exit ?_
      replace H := H.f1
      replace H := H.drop 1 rfl
      dsimp only [List.eraseIdx] at H
      obtain rfl := Option.some.inj hB2122
      obtain rfl := hO2123 _ rfl
      refine x_A fun a hf => ⟨hf.sub ⟨rfl, trivial⟩, H⟩
   ·rintro a wd2161 ⟨hf, H⟩
    try dsimp only at hF
    refine XX.at hf <| x_then <| C_seq <| R_nd <| nq (Q_move rfl) rfl rfl <| nq (Q_assign rfl) rfl rfl <| WL_nil <| x_then <| C_ret ?_
    obtain rfl := Option.some.inj hF
    exact fn_ret (l := [.tmp 2]) (vs := [(.slice (some ⟨b1666, 0, none⟩) 1 1)]) rfl rfl rfl ⟨(.slice (some ⟨b1666, 0, none⟩) 1 1), [.int .i64 0], [0], rfl, rfl, (show rdL (eI .i64) ρ ([0]) ([.int .i64 0]) from ⟨([.int .i64 0]), _, rfl, rfl, rdL.nil⟩), H⟩
 ·try dsimp only at hF
  refine nq (Q_assign rfl) rfl rfl <| WL_nil <| x_then <| C_seq <| C_seq <| R_nd <| nq (v := .agg #[v1, v4, v7]) (Q_ldB (k := 3) (cs := [v1, v4, v7]) H.ok rfl ty25 rfl rfl rfl (fun h => nomatch h) rfl) rfl rfl ?_
  obtain ⟨q2162, hq2162, hF⟩ := bnd hF
  refine ne (E_call fn65 rfl (c_65 H gl0 r3 r6 r9 hq2162)) rfl rfl ?_
  rintro _ wd2169 (⟨rfl, rfl, H⟩ | ⟨b2164, v2165, c2166, x2167, rfl, rfl, r2168, H⟩)
  ·try dsimp only at hF
   obtain ⟨q2170, hq2170, hF⟩ := bnd hF
   refine ne (E_call fn64 rfl (c_64 H   hq2170)) rfl rfl ?_
   rintro _ wd2176 ⟨v2172, c2173, x2174, rfl, rfl, r2175, H⟩
   try dsimp only at hF
   refine nq (Q_lenA (k := 0) H.ok rfl r2175 (by decide) Tryd.underlying23 rfl) rfl rfl <| nq (Q_move rfl) rfl rfl <| WL_nil <| x_then ?_
   obtain ⟨o2458, ho2458, hF⟩ := bnd hF
   refine C_cutQ (fun a w' => ∃ (v2454 : Value) (c2455 : (List Value)) (x2456 : (List Int)), x2456 = o2458 ∧ rdL (eI .i64) ρ x2456 c2455 ∧ Fr 31 a [(3, v2454)] ∧ Hp C w' ρ (Arr v2454 1 c2455 :: hs)) ?_ ?_
   ·refine C_block ?_
    replace H := H.f2
    replace H := H.f2
    replace H := H.f3
    replace H := H.f3
    replace H := H.drop 4 rfl
    dsimp only [List.eraseIdx] at H
    refine C_iter (f := fun s => F_trim_kept_l2 N x2 x1673 x2174 s.1 s.2) ho2458 (fun s a w' => ∃ (v2551 : Value) (c2552 : (List Value)) (x2550 : Int) (x2553 : (List Int)), (x2550, x2553) = s ∧ rdL (eI .i64) ρ x2553 c2552 ∧ Fr 31 a [(3, v2551), (4, .pointer (some ⟨b1670, 0, none⟩)), (12, v2172), (13, .int .i64 (x2174.length : Int)), (14, .int .i64 x2550)] ∧ Hp C w' ρ (Arr v2172 1 c2173 :: Arr v2551 1 c2552 :: Box b1670 [v1671, .int .i64 (x2.length : Int)] :: Arr v1671 1 c1672 :: hs)) ?_ ?_
    ·exact fun a hf => ⟨(.slice (some ⟨b1666, 0, none⟩) 1 1), [.int .i64 0], 0, [0], rfl, (show rdL (eI .i64) ρ ([0]) ([.int .i64 0]) from ⟨([.int .i64 0]), _, rfl, rfl, rdL.nil⟩), hf.sub ⟨rfl, rfl, rfl, rfl, rfl, trivial⟩, H⟩
    ·rintro s o2646 a wd2649 ⟨v2551, c2552, x2550, x2553, rfl, r2554, hf, H⟩ hB2647 hO2648
     replace hB2647 : F_trim_kept_l2 N x2 x1673 x2174 x2550 x2553 = some o2646 := hB2647
     unfold F_trim_kept_l2 at hB2647
     refine CW.at hf <| C_seq <| R_nd <| nq (Q_lss rfl rfl) rfl rfl <| WL_nil <| x_then <| C_seq ?_
     refine C_cond rfl (fun hb => ?_) (fun hb => ?_)
     ·replace hB2647 := itT hb hB2647
      refine C_skip <| x_then ?_
      obtain ⟨o2694, ho2694, hB2647⟩ := bnd hB2647
      refine C_cut (fun a w' => ∃ (v2690 : Value) (c2691 : (List Value)) (x2692 : (List Int)), x2692 = o2694 ∧ rdL (eI .i64) ρ x2692 c2691 ∧ Fr 31 a [(3, v2690), (4, .pointer (some ⟨b1670, 0, none⟩)), (12, v2172), (13, .int .i64 (x2174.length : Int)), (14, .int .i64 x2550)] ∧ Hp C w' ρ (Arr v2172 1 c2173 :: Arr v2690 1 c2691 :: Box b1670 [v1671, .int .i64 (x2.length : Int)] :: Arr v1671 1 c1672 :: hs)) ?_ ?_
      ·refine C_block <| C_seq <| R_nd ?_
       obtain ⟨x2695, hx2695, ho2694⟩ := bnd ho2694
       obtain ⟨b2696, o2697, hi2701, hc2699, ha2700⟩ := arr_at (hs := [Arr v2172 1 c2173]) (k := 0) (by decide) (H.okS (by simp)) rfl r2175 hx2695
       refine nq (Q_idx hi2701 Tryd.underlying23 ty3 rfl rfl) rfl rfl <| nq (v := .int .i64 x2695) (Q_ld (show cellsAt _ _ _ [.int .i64 x2695] from (show _ = [_] from hc2699) ▸ (ha2700 _ (Ok.subS (by simp) H.ok))) ty3 rfl (fun _ => rfl) rfl rfl) rfl rfl <| nq (Q_assign rfl) rfl rfl <| WL_nil <| x_then ?_
       obtain ⟨o2707, ho2707, ho2694⟩ := bnd ho2694
       refine C_cut (fun a w' => ∃ (x2706 : Bool), x2706 = o2707 ∧ Fr 31 a [(3, v2551), (4, .pointer (some ⟨b1670, 0, none⟩)), (6, .int .i64 x2695), (12, v2172), (13, .int .i64 (x2174.length : Int)), (14, .int .i64 x2550), (24, .bool x2706)] ∧ Hp C w' ρ (Arr v2172 1 c2173 :: Arr v2551 1 c2552 :: Box b1670 [v1671, .int .i64 (x2.length : Int)] :: Arr v1671 1 c1672 :: hs)) ?_ ?_
       ·refine R_nd <| nq (Q_move rfl) rfl rfl <| nq (Q_move rfl) rfl rfl ?_
        replace H := H.f3
        replace H := H.f3
        obtain ⟨q2708, hq2708, ho2707⟩ := bnd ho2707
        refine ne (E_call fn81 rfl (c_81_1 H  r1674 hq2708)) rfl rfl ?_
        rintro _ wd2711 ⟨x2710, rfl, rfl, H⟩
        try dsimp only at ho2707
        refine nq (Q_move rfl) rfl rfl ?_
        rcases Bool.eq_false_or_eq_true x2710 with hb | hb
        ·rw [hb]
         replace ho2707 := itT hb ho2707
         refine gq (Q_move rfl) rfl rfl rfl <| gq (Q_gtr rfl rfl) rfl rfl rfl <| nq (Q_pickT rfl rfl) rfl rfl <| WL_nil ?_
         replace H := H.f1
         replace H := H.f1
         replace H := H.f3
         replace H := H.f3
         obtain rfl := Option.some.inj ho2707
         refine x_A fun a hf => ⟨decide (x2695 > 0), rfl, hf.sub ⟨rfl, rfl, rfl, rfl, rfl, rfl, rfl, trivial⟩, H⟩
        ·rw [hb]
         replace ho2707 := itF hb ho2707
         refine gs rfl rfl rfl rfl <| gs rfl rfl rfl rfl <| nq (Q_pickF rfl rfl) rfl rfl <| WL_nil ?_
         replace H := H.f1
         replace H := H.f1
         replace H := H.f3
         replace H := H.f3
         obtain rfl := Option.some.inj ho2707
         refine x_A fun a hf => ⟨false, rfl, hf.sub ⟨rfl, rfl, rfl, rfl, rfl, rfl, rfl, trivial⟩, H⟩
       ·rintro a wd2712 ⟨x2706, rfl, hf, H⟩
        try dsimp only at ho2694
        refine CW.at hf ?_
        obtain ⟨o2725, ho2725, ho2694⟩ := bnd ho2694
        refine C_cutQ (fun a w' => ∃ (v2721 : Value) (c2722 : (List Value)) (x2723 : (List Int)), x2723 = o2725 ∧ rdL (eI .i64) ρ x2723 c2722 ∧ Fr 31 a [(3, v2721), (4, .pointer (some ⟨b1670, 0, none⟩)), (12, v2172), (13, .int .i64 (x2174.length : Int)), (14, .int .i64 x2550)] ∧ Hp C w' ρ (Arr v2172 1 c2173 :: Arr v2721 1 c2722 :: Box b1670 [v1671, .int .i64 (x2.length : Int)] :: Arr v1671 1 c1672 :: hs)) ?_ ?_
        ·refine C_cond rfl (fun hb => ?_) (fun hb => ?_)
         ·replace ho2725 := itT hb ho2725
          refine R_nd <| nq (Q_move rfl) rfl rfl <| nq (Q_move rfl) rfl rfl <| ne (E_bslice (xs := [.tmp 26]) (vs := [.int .i64 x2695]) H Tryd.underlying23 ty3 (by decide) (cs := [.int .i64 x2695]) rfl (sz_cons rfl sz_nil) rfl (by simp) (by simp) rfl rfl) rfl rfl ?_
          rintro _ wd2727 ⟨b2726, rfl, H⟩
          obtain ⟨x2728, hx2728, ho2725⟩ := bnd ho2725
          obtain ⟨ha2729a, ha2729b⟩ := app_some hx2728
          have r2731 : rdL (eI .i64) ρ x2728 (c2552 ++ ([.int .i64 x2695])) := ha2729b ▸ rdL.app r2554 (show rdL (eI .i64) ρ ([x2695]) ([.int .i64 x2695]) from ⟨([.int .i64 x2695]), _, rfl, rfl, rdL.nil⟩)
          refine ne (E_append (k := 2) H rfl Tryd.underlying23 ty3 rfl (by decide) (by decide) rfl rfl (Src.ofArr (k := 0) H.ok rfl) (rdL.one (show rdL (eI .i64) ρ ([x2695]) ([.int .i64 x2695]) from ⟨([.int .i64 x2695]), _, rfl, rfl, rdL.nil⟩)) (app_fit r2554 (show rdL (eI .i64) ρ ([x2695]) ([.int .i64 x2695]) from ⟨([.int .i64 x2695]), _, rfl, rfl, rdL.nil⟩) ha2729a)) rfl rfl ?_
          rintro v2730 wd2733 ⟨H, hc2732⟩
          dsimp only [List.set] at H
          refine nq (Q_assign rfl) rfl rfl <| WL_nil ?_
          replace H := H.f4
          replace H := H.f4
          replace H := H.f4
          replace H := H.f4
          replace H := H.drop 4 rfl
          dsimp only [List.eraseIdx] at H
          obtain rfl := Option.some.inj ho2725
          refine x_A fun a hf => ⟨v2730, (c2552 ++ ([.int .i64 x2695])), x2728, rfl, r2731, hf.sub ⟨rfl, rfl, rfl, rfl, rfl, trivial⟩, H⟩
         ·replace ho2725 := itF hb ho2725
          refine C_skip ?_
          replace H := H.f3
          replace H := H.f3
          replace H := H.f3
          replace H := H.f3
          obtain rfl := Option.some.inj ho2725
          refine x_A fun a hf => ⟨v2551, c2552, x2553, rfl, r2554, hf.sub ⟨rfl, rfl, rfl, rfl, rfl, trivial⟩, H⟩
        ·rintro a wd2734 ⟨v2721, c2722, x2723, rfl, r2724, hf, H⟩
         try dsimp only at ho2694
         refine XX.at hf <| x_block ?_
         replace H := H.f3
         replace H := H.f3
         replace H := H.f3
         replace H := H.f3
         obtain rfl := Option.some.inj ho2694
         refine x_A fun a hf => ⟨v2721, c2722, x2723, rfl, r2724, hf.sub ⟨rfl, rfl, rfl, rfl, rfl, trivial⟩, H⟩
      ·rintro a wd2735 ⟨v2690, c2691, x2692, rfl, r2693, hf, H⟩
       try dsimp only at hB2647
       refine CW.at hf <| R_nd <| nq (Q_add rfl rfl) rfl rfl <| nq (Q_move rfl) rfl rfl <| WL_nil ?_
       replace H := H.f3
       replace H := H.f3
       replace H := H.f3
       replace H := H.f3
       obtain rfl := Option.some.inj hB2647
       refine x_A fun a hf => ⟨_, rfl, v2690, c2691, w64 (x2550 + 1), x2692, rfl, r2693, hf.sub ⟨rfl, rfl, rfl, rfl, rfl, trivial⟩, H⟩
     ·replace hB2647 := itF hb hB2647
      refine C_exit <| x_then_exit <| x_then_exit <| x_block_exit ?_
      replace H := H.f1
      replace H := H.drop 1 rfl
      dsimp only [List.eraseIdx] at H
      replace H := H.drop 1 rfl
      dsimp only [List.eraseIdx] at H
      replace H := H.drop 1 rfl
      dsimp only [List.eraseIdx] at H
      obtain rfl := Option.some.inj hB2647
      obtain rfl := hO2648 _ rfl
      refine x_A fun a hf => ⟨v2551, c2552, x2553, rfl, r2554, hf.sub ⟨rfl, trivial⟩, H⟩
   ·rintro a wd2736 ⟨v2454, c2455, x2456, rfl, r2457, hf, H⟩
    try dsimp only at hF
    refine XX.at hf <| x_then <| C_seq <| R_nd <| nq (Q_move rfl) rfl rfl <| nq (Q_assign rfl) rfl rfl <| WL_nil <| x_then <| C_ret ?_
    obtain rfl := Option.some.inj hF
    exact fn_ret (l := [.tmp 2]) (vs := [v2454]) rfl rfl rfl ⟨v2454, c2455, x2456, rfl, rfl, r2457, H⟩
  ·try dsimp only at hF
   replace H := H.f1
   replace H := H.f1
   obtain ⟨q2737, hq2737, hF⟩ := bnd hF
   refine ne (E_call fn64 rfl (c_64_1 H gl1 r2168 hq2737)) rfl rfl ?_
   rintro _ wd2743 ⟨v2739, c2740, x2741, rfl, rfl, r2742, H⟩
   try dsimp only at hF
   refine nq (Q_lenA (k := 2) H.ok rfl r2742 (by decide) Tryd.underlying23 rfl) rfl rfl <| nq (Q_move rfl) rfl rfl <| WL_nil <| x_then ?_
   obtain ⟨o3025, ho3025, hF⟩ := bnd hF
   refine C_cutQ (fun a w' => ∃ (v3021 : Value) (c3022 : (List Value)) (x3023 : (List Int)), x3023 = o3025 ∧ rdL (eI .i64) ρ x3023 c3022 ∧ Fr 31 a [(3, v3021)] ∧ Hp C w' ρ (Arr v3021 1 c3022 :: hs)) ?_ ?_
   ·refine C_block ?_
    replace H := H.f4
    replace H := H.f4
    replace H := H.f5
    replace H := H.f5
    replace H := H.drop 4 rfl
    dsimp only [List.eraseIdx] at H
    replace H := H.drop 4 rfl
    dsimp only [List.eraseIdx] at H
    replace H := H.drop 4 rfl
    dsimp only [List.eraseIdx] at H
    refine C_iter (f := fun s => F_trim_kept_l3 N x2 x1673 x2741 s.1 s.2) ho3025 (fun s a w' => ∃ (v3118 : Value) (c3119 : (List Value)) (x3117 : Int) (x3120 : (List Int)), (x3117, x3120) = s ∧ rdL (eI .i64) ρ x3120 c3119 ∧ Fr 31 a [(3, v3118), (4, .pointer (some ⟨b1670, 0, none⟩)), (12, v2739), (13, .int .i64 (x2741.length : Int)), (14, .int .i64 x3117)] ∧ Hp C w' ρ (Arr v2739 1 c2740 :: Arr v3118 1 c3119 :: Box b1670 [v1671, .int .i64 (x2.length : Int)] :: Arr v1671 1 c1672 :: hs)) ?_ ?_
    ·exact fun a hf => ⟨(.slice (some ⟨b1666, 0, none⟩) 1 1), [.int .i64 0], 0, [0], rfl, (show rdL (eI .i64) ρ ([0]) ([.int .i64 0]) from ⟨([.int .i64 0]), _, rfl, rfl, rdL.nil⟩), hf.sub ⟨rfl, rfl, rfl, rfl, rfl, trivial⟩, H⟩
    ·rintro s o3213 a wd3216 ⟨v3118, c3119, x3117, x3120, rfl, r3121, hf, H⟩ hB3214 hO3215
     replace hB3214 : F_trim_kept_l3 N x2 x1673 x2741 x3117 x3120 = some o3213 := hB3214
     unfold F_trim_kept_l3 at hB3214
     refine CW.at hf <| C_seq <| R_nd <| nq (Q_lss rfl rfl) rfl rfl <| WL_nil <| x_then <| C_seq ?_
     refine C_cond rfl (fun hb => ?_) (fun hb => ?_)
     ·replace hB3214 := itT hb hB3214
      refine C_skip <| x_then ?_
      obtain ⟨o3261, ho3261, hB3214⟩ := bnd hB3214
      refine C_cut (fun a w' => ∃ (v3257 : Value) (c3258 : (List Value)) (x3259 : (List Int)), x3259 = o3261 ∧ rdL (eI .i64) ρ x3259 c3258 ∧ Fr 31 a [(3, v3257), (4, .pointer (some ⟨b1670, 0, none⟩)), (12, v2739), (13, .int .i64 (x2741.length : Int)), (14, .int .i64 x3117)] ∧ Hp C w' ρ (Arr v2739 1 c2740 :: Arr v3257 1 c3258 :: Box b1670 [v1671, .int .i64 (x2.length : Int)] :: Arr v1671 1 c1672 :: hs)) ?_ ?_
      ·refine C_block <| C_seq <| R_nd ?_
       obtain ⟨x3262, hx3262, ho3261⟩ := bnd ho3261
       obtain ⟨b3263, o3264, hi3268, hc3266, ha3267⟩ := arr_at (hs := [Arr v2739 1 c2740]) (k := 0) (by decide) (H.okS (by simp)) rfl r2742 hx3262
       refine nq (Q_idx hi3268 Tryd.underlying23 ty3 rfl rfl) rfl rfl <| nq (v := .int .i64 x3262) (Q_ld (show cellsAt _ _ _ [.int .i64 x3262] from (show _ = [_] from hc3266) ▸ (ha3267 _ (Ok.subS (by simp) H.ok))) ty3 rfl (fun _ => rfl) rfl rfl) rfl rfl <| nq (Q_assign rfl) rfl rfl <| WL_nil <| x_then ?_
       obtain ⟨o3274, ho3274, ho3261⟩ := bnd ho3261
       refine C_cut (fun a w' => ∃ (x3273 : Bool), x3273 = o3274 ∧ Fr 31 a [(3, v3118), (4, .pointer (some ⟨b1670, 0, none⟩)), (6, .int .i64 x3262), (12, v2739), (13, .int .i64 (x2741.length : Int)), (14, .int .i64 x3117), (24, .bool x3273)] ∧ Hp C w' ρ (Arr v2739 1 c2740 :: Arr v3118 1 c3119 :: Box b1670 [v1671, .int .i64 (x2.length : Int)] :: Arr v1671 1 c1672 :: hs)) ?_ ?_
       ·refine R_nd <| nq (Q_move rfl) rfl rfl <| nq (Q_move rfl) rfl rfl ?_
        replace H := H.f3
        replace H := H.f3
        obtain ⟨q3275, hq3275, ho3274⟩ := bnd ho3274
        refine ne (E_call fn81 rfl (c_81_1 H  r1674 hq3275)) rfl rfl ?_
        rintro _ wd3278 ⟨x3277, rfl, rfl, H⟩
        try dsimp only at ho3274
        refine nq (Q_move rfl) rfl rfl ?_
        rcases Bool.eq_false_or_eq_true x3277 with hb | hb
        ·rw [hb]
         replace ho3274 := itT hb ho3274
         refine gq (Q_move rfl) rfl rfl rfl <| gq (Q_gtr rfl rfl) rfl rfl rfl <| nq (Q_pickT rfl rfl) rfl rfl <| WL_nil ?_
         replace H := H.f1
         replace H := H.f1
         replace H := H.f3
         replace H := H.f3
         obtain rfl := Option.some.inj ho3274
         refine x_A fun a hf => ⟨decide (x3262 > 0), rfl, hf.sub ⟨rfl, rfl, rfl, rfl, rfl, rfl, rfl, trivial⟩, H⟩
        ·rw [hb]
         replace ho3274 := itF hb ho3274
         refine gs rfl rfl rfl rfl <| gs rfl rfl rfl rfl <| nq (Q_pickF rfl rfl) rfl rfl <| WL_nil ?_
         replace H := H.f1
         replace H := H.f1
         replace H := H.f3
         replace H := H.f3
         obtain rfl := Option.some.inj ho3274
         refine x_A fun a hf => ⟨false, rfl, hf.sub ⟨rfl, rfl, rfl, rfl, rfl, rfl, rfl, trivial⟩, H⟩
       ·rintro a wd3279 ⟨x3273, rfl, hf, H⟩
        try dsimp only at ho3261
        refine CW.at hf ?_
        obtain ⟨o3292, ho3292, ho3261⟩ := bnd ho3261
        refine C_cutQ (fun a w' => ∃ (v3288 : Value) (c3289 : (List Value)) (x3290 : (List Int)), x3290 = o3292 ∧ rdL (eI .i64) ρ x3290 c3289 ∧ Fr 31 a [(3, v3288), (4, .pointer (some ⟨b1670, 0, none⟩)), (12, v2739), (13, .int .i64 (x2741.length : Int)), (14, .int .i64 x3117)] ∧ Hp C w' ρ (Arr v2739 1 c2740 :: Arr v3288 1 c3289 :: Box b1670 [v1671, .int .i64 (x2.length : Int)] :: Arr v1671 1 c1672 :: hs)) ?_ ?_
        ·refine C_cond rfl (fun hb => ?_) (fun hb => ?_)
         ·replace ho3292 := itT hb ho3292
          refine R_nd <| nq (Q_move rfl) rfl rfl <| nq (Q_move rfl) rfl rfl <| ne (E_bslice (xs := [.tmp 26]) (vs := [.int .i64 x3262]) H Tryd.underlying23 ty3 (by decide) (cs := [.int .i64 x3262]) rfl (sz_cons rfl sz_nil) rfl (by simp) (by simp) rfl rfl) rfl rfl ?_
          rintro _ wd3294 ⟨b3293, rfl, H⟩
          obtain ⟨x3295, hx3295, ho3292⟩ := bnd ho3292
          obtain ⟨ha3296a, ha3296b⟩ := app_some hx3295
          have r3298 : rdL (eI .i64) ρ x3295 (c3119 ++ ([.int .i64 x3262])) := ha3296b ▸ rdL.app r3121 (show rdL (eI .i64) ρ ([x3262]) ([.int .i64 x3262]) from ⟨([.int .i64 x3262]), _, rfl, rfl, rdL.nil⟩)
          refine ne (E_append (k := 2) H rfl Tryd.underlying23 ty3 rfl (by decide) (by decide) rfl rfl (Src.ofArr (k := 0) H.ok rfl) (rdL.one (show rdL (eI .i64) ρ ([x3262]) ([.int .i64 x3262]) from ⟨([.int .i64 x3262]), _, rfl, rfl, rdL.nil⟩)) (app_fit r3121 (show rdL (eI .i64) ρ ([x3262]) ([.int .i64 x3262]) from ⟨([.int .i64 x3262]), _, rfl, rfl, rdL.nil⟩) ha3296a)) rfl rfl ?_
          rintro v3297 wd3300 ⟨H, hc3299⟩
          dsimp only [List.set] at H
          refine nq (Q_assign rfl) rfl rfl <| WL_nil ?_
          replace H := H.f4
          replace H := H.f4
          replace H := H.f4
          replace H := H.f4
          replace H := H.drop 4 rfl
          dsimp only [List.eraseIdx] at H
          obtain rfl := Option.some.inj ho3292
          refine x_A fun a hf => ⟨v3297, (c3119 ++ ([.int .i64 x3262])), x3295, rfl, r3298, hf.sub ⟨rfl, rfl, rfl, rfl, rfl, trivial⟩, H⟩
         ·replace ho3292 := itF hb ho3292
          refine C_skip ?_
          replace H := H.f3
          replace H := H.f3
          replace H := H.f3
          replace H := H.f3
          obtain rfl := Option.some.inj ho3292
          refine x_A fun a hf => ⟨v3118, c3119, x3120, rfl, r3121, hf.sub ⟨rfl, rfl, rfl, rfl, rfl, trivial⟩, H⟩
        ·rintro a wd3301 ⟨v3288, c3289, x3290, rfl, r3291, hf, H⟩
         try dsimp only at ho3261
         refine XX.at hf <| x_block ?_
         replace H := H.f3
         replace H := H.f3
         replace H := H.f3
         replace H := H.f3
         obtain rfl := Option.some.inj ho3261
         refine x_A fun a hf => ⟨v3288, c3289, x3290, rfl, r3291, hf.sub ⟨rfl, rfl, rfl, rfl, rfl, trivial⟩, H⟩
      ·rintro a wd3302 ⟨v3257, c3258, x3259, rfl, r3260, hf, H⟩
       try dsimp only at hB3214
       refine CW.at hf <| R_nd <| nq (Q_add rfl rfl) rfl rfl <| nq (Q_move rfl) rfl rfl <| WL_nil ?_
       replace H := H.f3
       replace H := H.f3
       replace H := H.f3
       replace H := H.f3
       obtain rfl := Option.some.inj hB3214
       refine x_A fun a hf => ⟨_, rfl, v3257, c3258, w64 (x3117 + 1), x3259, rfl, r3260, hf.sub ⟨rfl, rfl, rfl, rfl, rfl, trivial⟩, H⟩
     ·replace hB3214 := itF hb hB3214
      refine C_exit <| x_then_exit <| x_then_exit <| x_block_exit ?_
      replace H := H.f1
      replace H := H.drop 1 rfl
      dsimp only [List.eraseIdx] at H
      replace H := H.drop 1 rfl
      dsimp only [List.eraseIdx] at H
      replace H := H.drop 1 rfl
      dsimp only [List.eraseIdx] at H
      obtain rfl := Option.some.inj hB3214
      obtain rfl := hO3215 _ rfl
      refine x_A fun a hf => ⟨v3118, c3119, x3120, rfl, r3121, hf.sub ⟨rfl, trivial⟩, H⟩
   ·rintro a wd3303 ⟨v3021, c3022, x3023, rfl, r3024, hf, H⟩
    try dsimp only at hF
    refine XX.at hf <| x_then <| C_seq <| R_nd <| nq (Q_move rfl) rfl rfl <| nq (Q_assign rfl) rfl rfl <| WL_nil <| x_then <| C_ret ?_
    obtain rfl := Option.some.inj hF
    exact fn_ret (l := [.tmp 2]) (vs := [v3021]) rfl rfl rfl ⟨v3021, c3022, x3023, rfl, rfl, r3024, H⟩
end Go.Proofs.YteiaphkejkgfkaaDoor
