import Derived.Test.YtealkahefalaeaaGreatDoorSubsetFindsD1
import Derived.Test.YtealkahefalaeaaGreatDoorProg
namespace Go.Proofs.YtealkahefalaeaaGreatDoor
open Go Go.Eng
set_option maxRecDepth 100000
theorem ty3 : Ty Tryz.prog 3 1 8 (iV 0) false := ⟨by kernel_rfl, by kernel_rfl⟩
theorem ty4 : Ty Tryz.prog 4 1 1 (.bool false) false := ⟨by kernel_rfl, by kernel_rfl⟩
theorem ty5 : Ty Tryz.prog 5 1 1 (.int .u8 0) false := ⟨by kernel_rfl, by kernel_rfl⟩
theorem ty22 : Ty Tryz.prog 22 1 24 (.slice none 0 0) false := ⟨by kernel_rfl, by kernel_rfl⟩
theorem ty23 : Ty Tryz.prog 23 1 24 (.slice none 0 0) false := ⟨by kernel_rfl, by kernel_rfl⟩
theorem ty25 : Ty Tryz.prog 25 2 48 (.agg ([.slice none 0 0, .slice none 0 0]).toArray) true := ⟨by kernel_rfl, by kernel_rfl⟩
theorem ty27 : Ty Tryz.prog 27 1 24 (.slice none 0 0) false := ⟨by kernel_rfl, by kernel_rfl⟩
theorem ty29 : Ty Tryz.prog 29 2 48 (.agg ([.slice none 0 0, .slice none 0 0]).toArray) true := ⟨by kernel_rfl, by kernel_rfl⟩
theorem ty37 : Ty Tryz.prog 37 1 8 (uV 0) false := ⟨by kernel_rfl, by kernel_rfl⟩
theorem ty38 : Ty Tryz.prog 38 4 32 (.agg ([uV 0, uV 0, uV 0, uV 0]).toArray) true := ⟨by kernel_rfl, by kernel_rfl⟩
theorem ty39 : Ty Tryz.prog 39 4 32 (.agg ([uV 0, uV 0, uV 0, uV 0]).toArray) true := ⟨by kernel_rfl, by kernel_rfl⟩
theorem ty41 : Ty Tryz.prog 41 7 72 (.agg ([.slice none 0 0, uV 0, uV 0, uV 0, uV 0, iV 0, iV 0]).toArray) true := ⟨by kernel_rfl, by kernel_rfl⟩
theorem ty42 : Ty Tryz.prog 42 1 24 (.slice none 0 0) false := ⟨by kernel_rfl, by kernel_rfl⟩
theorem ty51 : Ty Tryz.prog 51 1 8 (.pointer none) false := ⟨by kernel_rfl, by kernel_rfl⟩
theorem ty53 : Ty Tryz.prog 53 1 16 .nilIface false := ⟨by kernel_rfl, by kernel_rfl⟩
theorem ty76 : Ty Tryz.prog 76 1 24 (.slice none 0 0) false := ⟨by kernel_rfl, by kernel_rfl⟩
theorem ty78 : Ty Tryz.prog 78 3 72 (.agg ([.slice none 0 0, .slice none 0 0, .slice none 0 0]).toArray) true := ⟨by kernel_rfl, by kernel_rfl⟩
theorem ty88 : Ty Tryz.prog 88 256 2048 (.agg (repC 256 [iV 0]).toArray) true := ⟨by kernel_rfl, by kernel_rfl⟩
theorem ty126 : Ty Tryz.prog 126 7 72 (.agg ([.slice none 0 0, uV 0, uV 0, uV 0, uV 0, iV 0, iV 0]).toArray) true := ⟨by kernel_rfl, by kernel_rfl⟩
theorem ty135 : Ty Tryz.prog 135 2 48 (.agg ([.slice none 0 0, .slice none 0 0]).toArray) true := ⟨by kernel_rfl, by kernel_rfl⟩
theorem ty137 : Ty Tryz.prog 137 1 24 (.slice none 0 0) false := ⟨by kernel_rfl, by kernel_rfl⟩
theorem ty139 : Ty Tryz.prog 139 2 32 (.agg ([.slice none 0 0, iV 0]).toArray) true := ⟨by kernel_rfl, by kernel_rfl⟩
theorem ty151 : Ty Tryz.prog 151 8 64 (.agg ([uV 0, uV 0, uV 0, uV 0, uV 0, uV 0, uV 0, uV 0]).toArray) true := ⟨by kernel_rfl, by kernel_rfl⟩
theorem ty175 : Ty Tryz.prog 175 1 8 (.map none) false := ⟨by kernel_rfl, by kernel_rfl⟩
theorem ty176 : Ty Tryz.prog 176 1 24 (.slice none 0 0) false := ⟨by kernel_rfl, by kernel_rfl⟩
theorem ty178 : Ty Tryz.prog 178 8 168 (.agg ([.slice none 0 0, .slice none 0 0, .slice none 0 0, .slice none 0 0, .slice none 0 0, .map none, .slice none 0 0, .nilIface]).toArray) true := ⟨by kernel_rfl, by kernel_rfl⟩
theorem st29 : ∃ fs, St Tryz.prog 29 fs [(0, 1), (1, 1)] [.slice none 0 0, .slice none 0 0] := ⟨_, Tryz.underlying29, by kernel_rfl, _, _, _, _, ty29, rfl⟩
theorem st78 : ∃ fs, St Tryz.prog 78 fs [(0, 1), (1, 1), (2, 1)] [.slice none 0 0, .slice none 0 0, .slice none 0 0] := ⟨_, Tryz.underlying78, by kernel_rfl, _, _, _, _, ty78, rfl⟩
theorem st126 : ∃ fs, St Tryz.prog 126 fs [(0, 1), (1, 4), (5, 1), (6, 1)] [.slice none 0 0, uV 0, uV 0, uV 0, uV 0, iV 0, iV 0] := ⟨_, Tryz.underlying126, by kernel_rfl, _, _, _, _, ty126, rfl⟩
theorem st135 : ∃ fs, St Tryz.prog 135 fs [(0, 2)] [.slice none 0 0, .slice none 0 0] := ⟨_, Tryz.underlying135, by kernel_rfl, _, _, _, _, ty135, rfl⟩
theorem st139 : ∃ fs, St Tryz.prog 139 fs [(0, 1), (1, 1)] [.slice none 0 0, iV 0] := ⟨_, Tryz.underlying139, by kernel_rfl, _, _, _, _, ty139, rfl⟩
theorem st178 : ∃ fs, St Tryz.prog 178 fs [(0, 3), (3, 2), (5, 1), (6, 1), (7, 1)] [.slice none 0 0, .slice none 0 0, .slice none 0 0, .slice none 0 0, .slice none 0 0, .map none, .slice none 0 0, .nilIface] := ⟨_, Tryz.underlying178, by kernel_rfl, _, _, _, _, ty178, rfl⟩
theorem hm0 : Tryz.prog.follows .mixedOrders = true := by kernel_rfl
theorem fn16 : HasFn Tryz.prog 16 := ⟨_, _, Tryz.func16, by kernel_rfl, rfl⟩
theorem fn18 : HasFn Tryz.prog 18 := ⟨_, _, Tryz.func18, by kernel_rfl, rfl⟩
theorem fn19 : HasFn Tryz.prog 19 := ⟨_, _, Tryz.func19, by kernel_rfl, rfl⟩
theorem fn24 : HasFn Tryz.prog 24 := ⟨_, _, Tryz.func24, by kernel_rfl, rfl⟩
theorem fn28 : HasFn Tryz.prog 28 := ⟨_, _, Tryz.func28, by kernel_rfl, rfl⟩
theorem fn29 : HasFn Tryz.prog 29 := ⟨_, _, Tryz.func29, by kernel_rfl, rfl⟩
theorem fn32 : HasFn Tryz.prog 32 := ⟨_, _, Tryz.func32, by kernel_rfl, rfl⟩
theorem fn34 : HasFn Tryz.prog 34 := ⟨_, _, Tryz.func34, by kernel_rfl, rfl⟩
theorem fn35 : HasFn Tryz.prog 35 := ⟨_, _, Tryz.func35, by kernel_rfl, rfl⟩
theorem fn36 : HasFn Tryz.prog 36 := ⟨_, _, Tryz.func36, by kernel_rfl, rfl⟩
theorem fn37 : HasFn Tryz.prog 37 := ⟨_, _, Tryz.func37, by kernel_rfl, rfl⟩
theorem fn39 : HasFn Tryz.prog 39 := ⟨_, _, Tryz.func39, by kernel_rfl, rfl⟩
theorem fn40 : HasFn Tryz.prog 40 := ⟨_, _, Tryz.func40, by kernel_rfl, rfl⟩
theorem fn41 : HasFn Tryz.prog 41 := ⟨_, _, Tryz.func41, by kernel_rfl, rfl⟩
theorem fn42 : HasFn Tryz.prog 42 := ⟨_, _, Tryz.func42, by kernel_rfl, rfl⟩
theorem fn43 : HasFn Tryz.prog 43 := ⟨_, _, Tryz.func43, by kernel_rfl, rfl⟩
theorem fn45 : HasFn Tryz.prog 45 := ⟨_, _, Tryz.func45, by kernel_rfl, rfl⟩
theorem fn57 : HasFn Tryz.prog 57 := ⟨_, _, Tryz.func57, by kernel_rfl, rfl⟩
theorem fn58 : HasFn Tryz.prog 58 := ⟨_, _, Tryz.func58, by kernel_rfl, rfl⟩
theorem fn63 : HasFn Tryz.prog 63 := ⟨_, _, Tryz.func63, by kernel_rfl, rfl⟩
theorem fn65 : HasFn Tryz.prog 65 := ⟨_, _, Tryz.func65, by kernel_rfl, rfl⟩
theorem fn74 : HasFn Tryz.prog 74 := ⟨_, _, Tryz.func74, by kernel_rfl, rfl⟩
theorem fn75 : HasFn Tryz.prog 75 := ⟨_, _, Tryz.func75, by kernel_rfl, rfl⟩
theorem fn76 : HasFn Tryz.prog 76 := ⟨_, _, Tryz.func76, by kernel_rfl, rfl⟩
theorem fn81 : HasFn Tryz.prog 81 := ⟨_, _, Tryz.func81, by kernel_rfl, rfl⟩
theorem fn82 : HasFn Tryz.prog 82 := ⟨_, _, Tryz.func82, by kernel_rfl, rfl⟩
theorem fn83 : HasFn Tryz.prog 83 := ⟨_, _, Tryz.func83, by kernel_rfl, rfl⟩
theorem fn84 : HasFn Tryz.prog 84 := ⟨_, _, Tryz.func84, by kernel_rfl, rfl⟩
theorem fn85 : HasFn Tryz.prog 85 := ⟨_, _, Tryz.func85, by kernel_rfl, rfl⟩
theorem fn86 : HasFn Tryz.prog 86 := ⟨_, _, Tryz.func86, by kernel_rfl, rfl⟩
theorem fn87 : HasFn Tryz.prog 87 := ⟨_, _, Tryz.func87, by kernel_rfl, rfl⟩
theorem fn88 : HasFn Tryz.prog 88 := ⟨_, _, Tryz.func88, by kernel_rfl, rfl⟩
theorem fn89 : HasFn Tryz.prog 89 := ⟨_, _, Tryz.func89, by kernel_rfl, rfl⟩
theorem fn90 : HasFn Tryz.prog 90 := ⟨_, _, Tryz.func90, by kernel_rfl, rfl⟩
theorem fn91 : HasFn Tryz.prog 91 := ⟨_, _, Tryz.func91, by kernel_rfl, rfl⟩
theorem fn93 : HasFn Tryz.prog 93 := ⟨_, _, Tryz.func93, by kernel_rfl, rfl⟩
theorem fn94 : HasFn Tryz.prog 94 := ⟨_, _, Tryz.func94, by kernel_rfl, rfl⟩
theorem fn106 : HasFn Tryz.prog 106 := ⟨_, _, Tryz.func106, by kernel_rfl, rfl⟩
theorem fn107 : HasFn Tryz.prog 107 := ⟨_, _, Tryz.func107, by kernel_rfl, rfl⟩
theorem fn108 : HasFn Tryz.prog 108 := ⟨_, _, Tryz.func108, by kernel_rfl, rfl⟩
theorem fn109 : HasFn Tryz.prog 109 := ⟨_, _, Tryz.func109, by kernel_rfl, rfl⟩
theorem fn110 : HasFn Tryz.prog 110 := ⟨_, _, Tryz.func110, by kernel_rfl, rfl⟩
theorem fn111 : HasFn Tryz.prog 111 := ⟨_, _, Tryz.func111, by kernel_rfl, rfl⟩
theorem fn113 : HasFn Tryz.prog 113 := ⟨_, _, Tryz.func113, by kernel_rfl, rfl⟩
theorem fn128 : HasFn Tryz.prog 128 := ⟨_, _, Tryz.func128, by kernel_rfl, rfl⟩
theorem fn130 : HasFn Tryz.prog 130 := ⟨_, _, Tryz.func130, by kernel_rfl, rfl⟩
theorem fn131 : HasFn Tryz.prog 131 := ⟨_, _, Tryz.func131, by kernel_rfl, rfl⟩
theorem fn132 : HasFn Tryz.prog 132 := ⟨_, _, Tryz.func132, by kernel_rfl, rfl⟩
theorem fn133 : HasFn Tryz.prog 133 := ⟨_, _, Tryz.func133, by kernel_rfl, rfl⟩
theorem fn134 : HasFn Tryz.prog 134 := ⟨_, _, Tryz.func134, by kernel_rfl, rfl⟩
theorem fn137 : HasFn Tryz.prog 137 := ⟨_, _, Tryz.func137, by kernel_rfl, rfl⟩
theorem fn138 : HasFn Tryz.prog 138 := ⟨_, _, Tryz.func138, by kernel_rfl, rfl⟩
theorem fn140 : HasFn Tryz.prog 140 := ⟨_, _, Tryz.func140, by kernel_rfl, rfl⟩
theorem fn169 : HasFn Tryz.prog 169 := ⟨_, _, Tryz.func169, by kernel_rfl, rfl⟩
theorem fn197 : HasFn Tryz.prog 197 := ⟨_, _, Tryz.func197, by kernel_rfl, rfl⟩
theorem c_108 {N : Nat} {C : Cx} {w : World} {ρ : View} {hs : List Hl} {gV : Nat → Value} {b1 : Nat} {x2 : Int} {x3 : Int} (H : Hp C w ρ (Box b1 [iV x3] :: hs)) (_gle : GErrs ρ 394 errIds gV) {r : Bool} (hF : F_44 N x2 x3 = some r) :
  Calls Tryz.prog 108 [iV x2, pV b1 0].toArray w (Rets (fun v w' => (∃ (x4 : Bool), x4 = r ∧ .bool x4 = v ∧ Hp C w' ρ (Box b1 [iV x3] :: hs)))) := by
 unfold F_44 at hF
 have h0 : Tryz.f108.body = some _ := rfl
 refine fn_calls' Tryz.func108 h0 (n := 11) rfl (by simp) <| sr <| qa J J ?_
 obtain ⟨o5, ho5, hF⟩ := bnd hF
 refine C_cut (fun a w' => ∃ (x6 : Bool), x6 = o5 ∧ Fr 11 a [(3, .bool x6)] ∧ Hp C w' ρ (Box b1 [iV x3] :: hs)) ?_ ?_
 ·refine R_nd <| qm J J <| nq (Q_lss J J) J J <| qm J J ?_
  rcases Bool.eq_false_or_eq_true (decide (x2 < 0)) with hb | hb
  ·rw [hb]
   replace ho5 := itT hb ho5
   refine gs J J J J <| gs J J J J <| gs J J J J <| nq (Q_pickT J J) J J <| nq (Q_assign J) J J <| WL_nil ?_
   obtain rfl := oi ho5
   refine x_A fun a hf => ⟨true, J, hf.sub ⟨J, trivial⟩, H⟩
  ·rw [hb]
   replace ho5 := itF hb ho5
   refine gq (Q_move J) J J J <| gq (v := iV x3) (Q_ldB (k := 0) (cs := [iV x3]) H.ok J ty3 J J J (fun _ => J) J) J J J <| gq (Q_geq J J) J J J <| nq (Q_pickF J J) J J <| nq (Q_assign J) J J <| WL_nil ?_
   obtain rfl := oi ho5
   refine x_A fun a hf => ⟨decide (x2 ≥ x3), J, hf.sub ⟨J, trivial⟩, H⟩
 ·rintro a wd7 ⟨x6, rfl, hf, H⟩
  try dsimp only at hF
  refine CW.at hf <| C_ret ?_
  obtain rfl := oi hF
  exact fn_ret (l := [.tmp 3]) (vs := [.bool x6]) J J J ⟨x6, J, J, H⟩
theorem c_128 {N : Nat} {C : Cx} {w : World} {ρ : View} {hs : List Hl} {gV : Nat → Value} {v1 : Value} {b2 : Nat} {x3 : (List Int)} {x4 : Int} (H : Hp C w ρ (Box b2 [iV x4] :: hs)) (gle : GErrs ρ 394 errIds gV) (r5 : RdSl ρ (eI .i64) v1 x3) {r : Int} (hF : F_2 N x3 x4 = some r) :
  Calls Tryz.prog 128 [v1, .func (.func 108) #[] [pV b2 0].toArray].toArray w (Rets (fun v w' => (∃ (x6 : Int), x6 = r ∧ iV x6 = v ∧ Hp C w' ρ (Box b2 [iV x4] :: hs)))) := by
 unfold F_2 at hF
 have h0 : Tryz.f128.body = some _ := rfl
 refine fn_calls' Tryz.func128 h0 (n := 19) rfl (by simp) <| sr <| qa J J <| C_seq <| sr <| qm J J <| nq (Q_len Tryz.underlying23 rfl r5) J J <| qm J J <| WL_nil <| x_then ?_
 obtain ⟨o7, ho7, hF⟩ := bnd hF
 refine C_cutQ (fun a w' => .inl () = o7 ∧ Fr 19 a [] ∧ Hp C w' ρ (Box b2 [iV x4] :: hs)) ?_ ?_
 ·refine C_block ?_
  refine C_iter (f := fun s => F_32 N x3 x4 s) ho7 (fun s a w' => ∃ (x8 : Int), x8 = s ∧ Fr 19 a [(0, v1), (1, .func (.func 108) #[] [pV b2 0].toArray), (7, iV (x3.length : Int)), (8, iV x8)] ∧ Hp C w' ρ (Box b2 [iV x4] :: hs)) ?_ ?_
  ·exact fun a hf => ⟨0, J, hf.sub ⟨J, J, J, J, trivial⟩, H⟩
  ·rintro s o9 a wd10 ⟨x8, rfl, hf, H⟩ hB11 hO12
   replace hB11 : F_32 N x3 x4 x8 = some o9 := hB11
   unfold F_32 at hB11
   refine CW.at hf <| sr <| nq (Q_lss J J) J J <| WL_nil <| x_then <| C_seq ?_
   refine C_cond J (fun hb => ?_) (fun hb => ?_)
   ·replace hB11 := itT hb hB11
    refine C_skip <| x_then <| C_seq <| C_block <| sr <| qm J J <| qa J J <| sr <| qm J J <| qm J J ?_
    refine qm J J ?_
    obtain ⟨x13, hx13, hB11⟩ := bnd hB11
    obtain ⟨b14, o15, c16, hc17, ha18, hi19⟩ := idxR r5 hx13
    refine nq (Q_idx hi19 Tryz.underlying23 ty3 J J) J J <| nq (v := iV x13) (Q_ld (show cellsAt _ _ _ [iV x13] from (show _ = [_] from hc17) ▸ (ha18.up H.ok.view)) ty3 J (fun _ => J) J J) J J ?_
    obtain ⟨q20, hq20, hB11⟩ := bnd hB11
    refine ne (E_callV fn108 J J (c_108 H gle   hq20)) J J ?_
    rintro _ wd21 ⟨x22, rfl, rfl, H⟩
    try dsimp only at hB11
    refine WL_nil <| x_then ?_
    refine C_cond J (fun hb => ?_) (fun hb => ?_)
    ·replace hB11 := itT hb hB11
     refine sr <| qm J J <| qa J J <| C_ret <| x_block_ret <| x_then_ret <| x_then_ret <| x_block_ret <| x_then_ret <| x_then_ret ?_
     obtain rfl := oi hB11
     obtain rfl := hO12 _ rfl
     obtain rfl := oi (show some _ = some _ from hF)
     exact fn_ret (l := [.tmp 4]) (vs := [iV x8]) J J J ⟨x8, J, J, H⟩
    ·replace hB11 := itF hb hB11
     refine C_skip <| x_block <| x_then <| R_nd <| nq (Q_add J J) J J <| qm J J <| WL_nil ?_
     obtain rfl := oi hB11
     refine x_A fun a hf => ⟨_, J, w64 (x8 + 1), J, hf.sub ⟨J, J, J, J, trivial⟩, H⟩
   ·replace hB11 := itF hb hB11
    refine C_exit <| x_then_exit <| x_then_exit <| x_block_exit ?_
    obtain rfl := oi hB11
    obtain rfl := hO12 _ rfl
    refine x_A fun a hf => ⟨J, hf.sub trivial, H⟩
 ·rintro a wd23 ⟨rfl, hf, H⟩
  try dsimp only at hF
  refine XX.at hf <| xs <| qa J J <| C_ret ?_
  obtain rfl := oi hF
  exact fn_ret (l := [.tmp 4]) (vs := [iV (-1)]) J J J ⟨(-1), J, J, H⟩
theorem c_76 {N : Nat} {C : Cx} {w : World} {ρ : View} {hs : List Hl} {gV : Nat → Value} {v1 : Value} {b2 : Nat} {x3 : (List Int)} {x4 : Int} (H : Hp C w ρ (Box b2 [iV x4] :: hs)) (gle : GErrs ρ 394 errIds gV) (r5 : RdSl ρ (eI .i64) v1 x3) {r : Bool} (hF : F_12 N x3 x4 = some r) :
  Calls Tryz.prog 76 [v1, .func (.func 108) #[] [pV b2 0].toArray].toArray w (Rets (fun v w' => (∃ (x6 : Bool), x6 = r ∧ .bool x6 = v ∧ Hp C w' ρ (Box b2 [iV x4] :: hs)))) := by
 unfold F_12 at hF
 have h0 : Tryz.f76.body = some _ := rfl
 refine fn_calls' Tryz.func76 h0 (n := 9) rfl (by simp) <| sr <| qa J J <| sr <| qm J J <| qm J J ?_
 obtain ⟨q7, hq7, hF⟩ := bnd hF
 refine ne (E_call fn128 J (c_128 H gle  r5 hq7)) J J ?_
 rintro _ wd8 ⟨x9, rfl, rfl, H⟩
 try dsimp only at hF
 refine nq (Q_geq J J) J J <| qa J J <| C_ret ?_
 obtain rfl := oi hF
 exact fn_ret (l := [.tmp 4]) (vs := [.bool (decide (x9 ≥ 0))]) J J J ⟨decide (x9 ≥ 0), J, J, H⟩
theorem c_109 {N : Nat} {C : Cx} {w : World} {ρ : View} {hs : List Hl} {gV : Nat → Value} {x1 : Int} (H : Hp C w ρ (hs)) (_gle : GErrs ρ 394 errIds gV) {r : Bool} (hF : F_94 N x1 = some r) :
  Calls Tryz.prog 109 [iV x1].toArray w (Rets (fun v w' => (∃ (x2 : Bool), x2 = r ∧ .bool x2 = v ∧ Hp C w' ρ (hs)))) := by
 unfold F_94 at hF
 have h0 : Tryz.f109.body = some _ := rfl
 refine fn_calls' Tryz.func109 h0 (n := 9) rfl (by simp) <| sr <| qa J J ?_
 obtain ⟨o3, ho3, hF⟩ := bnd hF
 refine C_cut (fun a w' => ∃ (x4 : Bool), x4 = o3 ∧ Fr 9 a [(2, .bool x4)] ∧ Hp C w' ρ (hs)) ?_ ?_
 ·refine R_nd <| qm J J <| nq (Q_lss J J) J J <| qm J J ?_
  rcases Bool.eq_false_or_eq_true (decide (x1 < (-1))) with hb | hb
  ·rw [hb]
   replace ho3 := itT hb ho3
   refine gs J J J J <| gs J J J J <| nq (Q_pickT J J) J J <| nq (Q_assign J) J J <| WL_nil ?_
   obtain rfl := oi ho3
   refine x_A fun a hf => ⟨true, J, hf.sub ⟨J, trivial⟩, H⟩
  ·rw [hb]
   replace ho3 := itF hb ho3
   refine gq (Q_move J) J J J <| gq (Q_geq J J) J J J <| nq (Q_pickF J J) J J <| nq (Q_assign J) J J <| WL_nil ?_
   obtain rfl := oi ho3
   refine x_A fun a hf => ⟨decide (x1 ≥ 48), J, hf.sub ⟨J, trivial⟩, H⟩
 ·rintro a wd5 ⟨x4, rfl, hf, H⟩
  try dsimp only at hF
  refine CW.at hf <| C_ret ?_
  obtain rfl := oi hF
  exact fn_ret (l := [.tmp 2]) (vs := [.bool x4]) J J J ⟨x4, J, J, H⟩
theorem c_128_1 {N : Nat} {C : Cx} {w : World} {ρ : View} {hs : List Hl} {gV : Nat → Value} {v1 : Value} {x2 : (List Int)} (H : Hp C w ρ (hs)) (gle : GErrs ρ 394 errIds gV) (r3 : RdSl ρ (eI .i64) v1 x2) {r : Int} (hF : F_30 N x2 = some r) :
  Calls Tryz.prog 128 [v1, .func (.func 109) #[] [].toArray].toArray w (Rets (fun v w' => (∃ (x4 : Int), x4 = r ∧ iV x4 = v ∧ Hp C w' ρ (hs)))) := by
 unfold F_30 at hF
 have h0 : Tryz.f128.body = some _ := rfl
 refine fn_calls' Tryz.func128 h0 (n := 19) rfl (by simp) <| sr <| qa J J <| C_seq <| sr <| qm J J <| nq (Q_len Tryz.underlying23 rfl r3) J J <| qm J J <| WL_nil <| x_then ?_
 obtain ⟨o5, ho5, hF⟩ := bnd hF
 refine C_cutQ (fun a w' => .inl () = o5 ∧ Fr 19 a [] ∧ Hp C w' ρ (hs)) ?_ ?_
 ·refine C_block ?_
  refine C_iter (f := fun s => F_77 N x2 s) ho5 (fun s a w' => ∃ (x6 : Int), x6 = s ∧ Fr 19 a [(0, v1), (1, .func (.func 109) #[] [].toArray), (7, iV (x2.length : Int)), (8, iV x6)] ∧ Hp C w' ρ (hs)) ?_ ?_
  ·exact fun a hf => ⟨0, J, hf.sub ⟨J, J, J, J, trivial⟩, H⟩
  ·rintro s o7 a wd8 ⟨x6, rfl, hf, H⟩ hB9 hO10
   replace hB9 : F_77 N x2 x6 = some o7 := hB9
   unfold F_77 at hB9
   refine CW.at hf <| sr <| nq (Q_lss J J) J J <| WL_nil <| x_then <| C_seq ?_
   refine C_cond J (fun hb => ?_) (fun hb => ?_)
   ·replace hB9 := itT hb hB9
    refine C_skip <| x_then <| C_seq <| C_block <| sr <| qm J J <| qa J J <| sr <| qm J J <| qm J J ?_
    refine qm J J ?_
    obtain ⟨x11, hx11, hB9⟩ := bnd hB9
    obtain ⟨b12, o13, c14, hc15, ha16, hi17⟩ := idxR r3 hx11
    refine nq (Q_idx hi17 Tryz.underlying23 ty3 J J) J J <| nq (v := iV x11) (Q_ld (show cellsAt _ _ _ [iV x11] from (show _ = [_] from hc15) ▸ (ha16.up H.ok.view)) ty3 J (fun _ => J) J J) J J ?_
    obtain ⟨q18, hq18, hB9⟩ := bnd hB9
    refine ne (E_callV fn109 J J (c_109 H gle   hq18)) J J ?_
    rintro _ wd19 ⟨x20, rfl, rfl, H⟩
    try dsimp only at hB9
    refine WL_nil <| x_then ?_
    refine C_cond J (fun hb => ?_) (fun hb => ?_)
    ·replace hB9 := itT hb hB9
     refine sr <| qm J J <| qa J J <| C_ret <| x_block_ret <| x_then_ret <| x_then_ret <| x_block_ret <| x_then_ret <| x_then_ret ?_
     obtain rfl := oi hB9
     obtain rfl := hO10 _ rfl
     obtain rfl := oi (show some _ = some _ from hF)
     exact fn_ret (l := [.tmp 4]) (vs := [iV x6]) J J J ⟨x6, J, J, H⟩
    ·replace hB9 := itF hb hB9
     refine C_skip <| x_block <| x_then <| R_nd <| nq (Q_add J J) J J <| qm J J <| WL_nil ?_
     obtain rfl := oi hB9
     refine x_A fun a hf => ⟨_, J, w64 (x6 + 1), J, hf.sub ⟨J, J, J, J, trivial⟩, H⟩
   ·replace hB9 := itF hb hB9
    refine C_exit <| x_then_exit <| x_then_exit <| x_block_exit ?_
    obtain rfl := oi hB9
    obtain rfl := hO10 _ rfl
    refine x_A fun a hf => ⟨J, hf.sub trivial, H⟩
 ·rintro a wd21 ⟨rfl, hf, H⟩
  try dsimp only at hF
  refine XX.at hf <| xs <| qa J J <| C_ret ?_
  obtain rfl := oi hF
  exact fn_ret (l := [.tmp 4]) (vs := [iV (-1)]) J J J ⟨(-1), J, J, H⟩
theorem c_76_1 {N : Nat} {C : Cx} {w : World} {ρ : View} {hs : List Hl} {gV : Nat → Value} {v1 : Value} {x2 : (List Int)} (H : Hp C w ρ (hs)) (gle : GErrs ρ 394 errIds gV) (r3 : RdSl ρ (eI .i64) v1 x2) {r : Bool} (hF : F_91 N x2 = some r) :
  Calls Tryz.prog 76 [v1, .func (.func 109) #[] [].toArray].toArray w (Rets (fun v w' => (∃ (x4 : Bool), x4 = r ∧ .bool x4 = v ∧ Hp C w' ρ (hs)))) := by
 unfold F_91 at hF
 have h0 : Tryz.f76.body = some _ := rfl
 refine fn_calls' Tryz.func76 h0 (n := 9) rfl (by simp) <| sr <| qa J J <| sr <| qm J J <| qm J J ?_
 obtain ⟨q5, hq5, hF⟩ := bnd hF
 refine ne (E_call fn128 J (c_128_1 H gle  r3 hq5)) J J ?_
 rintro _ wd6 ⟨x7, rfl, rfl, H⟩
 try dsimp only at hF
 refine nq (Q_geq J J) J J <| qa J J <| C_ret ?_
 obtain rfl := oi hF
 exact fn_ret (l := [.tmp 4]) (vs := [.bool (decide (x7 ≥ 0))]) J J J ⟨decide (x7 ≥ 0), J, J, H⟩
theorem c_57 {N : Nat} {C : Cx} {w : World} {ρ : View} {hs : List Hl} {gV : Nat → Value} {v1 : Value} {v2 : Value} {v3 : Value} {x4 : (List (List Int))} {x5 : (List Int)} {x6 : (List Int)} (H : Hp C w ρ (hs)) (gle : GErrs ρ 394 errIds gV) (r7 : RdSl ρ (eA 256 (eI .i64)) v1 x4) (r8 : RdSl ρ (eI .i64) v2 x5) (r9 : RdSl ρ (eI .i64) v3 x6) {r : Bool} (hF : F_7 N x4 x5 x6 = some r) :
  Calls Tryz.prog 57 [.agg #[v1, v2, v3]].toArray w (Rets (fun v w' => (∃ (x10 : Bool), x10 = r ∧ .bool x10 = v ∧ Hp C w' ρ (hs)))) := by
 unfold F_7 at hF
 have h0 : Tryz.f57.body = some _ := rfl
 refine fn_calls' Tryz.func57 h0 (n := 71) rfl (by simp) <| sr <| ne (E_box H (vs := [v1, v2, v3]) J J) J J ?_
 rintro _ wd11 ⟨b12, rfl, H⟩
 refine qa J J <| sr <| nq (v := pV b12 0) (Q_fld Tryz.underlying78 rfl ty76 (by decide) J J) J J <| nq (v := v1) (Q_ldB (k := 0) (cs := [v1]) H.ok rfl ty76 J J rfl (fun _ => J) J) J J <| nq (Q_len Tryz.underlying76 rfl r7) J J <| ne (E_alloc H ty3 (zs := [iV 0]) J) J J ?_
 rintro _ wd13 ⟨b14, rfl, H⟩
 refine ne (E_stB (k := 0) (cs := [iV (x4.length : Int)]) (vs' := [iV (x4.length : Int)]) H rfl ty3 J J J rfl (one_cons rfl one_nil) (by simp) J) J J ?_
 rintro _ wd15 H
 dsimp only [List.set] at H
 refine WL_nil <| x_then <| C_seq ?_
 obtain ⟨o16, ho16, hF⟩ := bnd hF
 refine C_cut (fun a w' => ∃ (x17 : Bool), x17 = o16 ∧ Fr 71 a [(1, pV b12 0), (3, pV b14 0), (35, .bool x17)] ∧ Hp C w' ρ (Box b12 [v1, v2, v3] :: Box b14 [iV (x4.length : Int)] :: hs)) ?_ ?_
 ·refine R_nd <| nq (v := iV (x4.length : Int)) (Q_ldB (k := 0) (cs := [iV (x4.length : Int)]) H.ok J ty3 J J J (fun _ => J) J) J J <| nq (Q_lss J J) J J <| qm J J ?_
  rcases Bool.eq_false_or_eq_true (decide ((x4.length : Int) < 1)) with hb | hb
  ·rw [hb]
   replace ho16 := itT hb ho16
   refine gs J J J J <| gs J J J J <| nq (Q_pickT J J) J J <| qm J J <| gs J J J J <| gs J J J J <| gs J J J J <| gs J J J J <| gs J J J J <| nq (Q_pickT J J) J J <| qm J J <| gs J J J J <| gs J J J J <| gs J J J J ?_
   refine gs J J J J <| nq (Q_pickT J J) J J <| qm J J <| gs J J J J <| gs J J J J <| gs J J J J <| gs J J J J <| nq (Q_pickT J J) J J <| WL_nil ?_
   replace H := H.f1
   obtain rfl := oi ho16
   refine x_A fun a hf => ⟨true, J, hf.sub ⟨J, J, J, trivial⟩, H⟩
  ·rw [hb]
   replace ho16 := itF hb ho16
   refine gq (v := iV (x4.length : Int)) (Q_ldB (k := 0) (cs := [iV (x4.length : Int)]) H.ok J ty3 J J J (fun _ => J) J) J J J <| gq (Q_gtr J J) J J J <| nq (Q_pickF J J) J J <| qm J J ?_
   rcases Bool.eq_false_or_eq_true (decide ((x4.length : Int) > 200)) with hb | hb
   ·rw [hb]
    replace ho16 := itT hb ho16
    refine gs J J J J <| gs J J J J <| gs J J J J <| gs J J J J <| gs J J J J <| nq (Q_pickT J J) J J <| qm J J <| gs J J J J <| gs J J J J <| gs J J J J <| gs J J J J <| nq (Q_pickT J J) J J <| qm J J <| gs J J J J ?_
    refine gs J J J J <| gs J J J J <| gs J J J J <| nq (Q_pickT J J) J J <| WL_nil ?_
    replace H := H.f1
    obtain rfl := oi ho16
    refine x_A fun a hf => ⟨true, J, hf.sub ⟨J, J, J, trivial⟩, H⟩
   ·rw [hb]
    replace ho16 := itF hb ho16
    refine gq (v := pV b12 1) (Q_fld Tryz.underlying78 rfl ty23 (by decide) J J) J J J <| gq (v := v2) (Q_ldB (k := 1) (cs := [v2]) H.ok rfl ty23 J J rfl (fun _ => J) J) J J J <| gq (Q_len Tryz.underlying23 rfl r8) J J J <| gq (v := iV (x4.length : Int)) (Q_ldB (k := 0) (cs := [iV (x4.length : Int)]) H.ok rfl ty3 J J rfl (fun _ => J) J) J J J <| gq (Q_neq J J) J J J <| nq (Q_pickF J J) J J <| qm J J ?_
    rcases Bool.eq_false_or_eq_true ((x5.length : Int) != (x4.length : Int)) with hb | hb
    ·rw [hb]
     replace ho16 := itT hb ho16
     refine gs J J J J <| gs J J J J <| gs J J J J <| gs J J J J <| nq (Q_pickT J J) J J <| qm J J <| gs J J J J <| gs J J J J <| gs J J J J <| gs J J J J <| nq (Q_pickT J J) J J <| WL_nil ?_
     replace H := H.f1
     obtain rfl := oi ho16
     refine x_A fun a hf => ⟨true, J, hf.sub ⟨J, J, J, trivial⟩, H⟩
    ·rw [hb]
     replace ho16 := itF hb ho16
     refine gq (v := pV b12 2) (Q_fld Tryz.underlying78 rfl ty23 (by decide) J J) J J J <| gq (v := v3) (Q_ldB (k := 1) (cs := [v3]) H.ok rfl ty23 J J rfl (fun _ => J) J) J J J <| gq (Q_len Tryz.underlying23 rfl r9) J J J <| gq (Q_lss J J) J J J <| nq (Q_pickF J J) J J <| qm J J ?_
     rcases Bool.eq_false_or_eq_true (decide ((x6.length : Int) < 1)) with hb | hb
     ·rw [hb]
      replace ho16 := itT hb ho16
      refine gs J J J J <| gs J J J J <| gs J J J J <| gs J J J J <| nq (Q_pickT J J) J J <| WL_nil ?_
      replace H := H.f1
      obtain rfl := oi ho16
      refine x_A fun a hf => ⟨true, J, hf.sub ⟨J, J, J, trivial⟩, H⟩
     ·rw [hb]
      replace ho16 := itF hb ho16
      refine gq (v := pV b12 2) (Q_fld Tryz.underlying78 rfl ty23 (by decide) J J) J J J <| gq (v := v3) (Q_ldB (k := 1) (cs := [v3]) H.ok rfl ty23 J J rfl (fun _ => J) J) J J J <| gq (Q_len Tryz.underlying23 rfl r9) J J J <| gq (Q_gtr J J) J J J <| nq (Q_pickF J J) J J <| WL_nil ?_
      replace H := H.f1
      obtain rfl := oi ho16
      refine x_A fun a hf => ⟨decide ((x6.length : Int) > 8), J, hf.sub ⟨J, J, J, trivial⟩, H⟩
 ·rintro a wd18 ⟨x17, rfl, hf, H⟩
  try dsimp only at hF
  refine CW.at hf ?_
  refine C_cond J (fun hb => ?_) (fun hb => ?_)
  ·replace hF := itT hb hF
   refine sr <| qa J J <| C_ret <| x_then_ret ?_
   replace H := H.e1.e0
   obtain rfl := oi hF
   exact fn_ret (l := [.tmp 2]) (vs := [.bool false]) J J J ⟨false, J, J, H⟩
  ·replace hF := itF hb hF
   refine C_skip <| xs <| nq (v := .func (.func 108) #[] [pV b14 0].toArray) (Q_func J) J J <| qa J J <| C_seq <| sr <| nq (v := pV b12 0) (Q_fld Tryz.underlying78 rfl ty76 (by decide) J J) J J <| nq (v := v1) (Q_ldB (k := 0) (cs := [v1]) H.ok rfl ty76 J J rfl (fun _ => J) J) J J <| nq (Q_len Tryz.underlying76 rfl r7) J J ?_
   refine qm J J <| WL_nil <| x_then ?_
   obtain ⟨o19, ho19, hF⟩ := bnd hF
   refine C_cutQ (fun a w' => .inl () = o19 ∧ Fr 71 a [(1, pV b12 0), (4, .func (.func 108) #[] [pV b14 0].toArray)] ∧ Hp C w' ρ (Box b12 [v1, v2, v3] :: Box b14 [iV (x4.length : Int)] :: hs)) ?_ ?_
   ·refine C_block ?_
    refine C_iter (f := fun s => F_79 N x4 s) ho19 (fun s a w' => ∃ (x20 : Int), x20 = s ∧ Fr 71 a [(1, pV b12 0), (4, .func (.func 108) #[] [pV b14 0].toArray), (38, v1), (39, iV (x4.length : Int)), (40, iV x20)] ∧ Hp C w' ρ (Box b12 [v1, v2, v3] :: Box b14 [iV (x4.length : Int)] :: hs)) ?_ ?_
    ·exact fun a hf => ⟨0, J, hf.sub ⟨J, J, J, J, J, trivial⟩, H⟩
    ·rintro s o21 a wd22 ⟨x20, rfl, hf, H⟩ hB23 hO24
     replace hB23 : F_79 N x4 x20 = some o21 := hB23
     unfold F_79 at hB23
     refine CW.at hf <| sr <| nq (Q_lss J J) J J <| WL_nil <| x_then <| C_seq ?_
     refine C_cond J (fun hb => ?_) (fun hb => ?_)
     ·replace hB23 := itT hb hB23
      refine C_skip <| x_then <| C_seq <| C_block <| C_seq <| R_nd ?_
      obtain ⟨x25, hx25, hB23⟩ := bnd hB23
      obtain ⟨b26, o27, c28, hc29, ha30, hi31⟩ := idxR r7 hx25
      refine nq (Q_idx hi31 Tryz.underlying76 ty88 J J) J J <| nq (v := .agg c28.toArray) (Q_ld (ha30.up H.ok.view) ty88 ((eA 256 (eI .i64)).len hc29) (fun h => nomatch h) J J) J J <| ne (E_allocA (N := 256) (n := 1) (zs := (repC 256 [iV 0])) H ty88 rfl (by simp [repC_length])) J J ?_
      rintro _ wd32 ⟨b33, rfl, H⟩
      refine ne (E_stW (k := 0) H J ty88 J J (rdL.one hc29.2) (arr_clen (rdL_rep (e:=(eI .i64)) (ρ:=ρ) (J) 256) List.length_replicate) (arr_clen hc29.2 hc29.1)) J J ?_
      rintro _ wd34 H
      dsimp only [List.set] at H
      refine WL_nil <| xs <| nq (v := (.slice (some ⟨b33, 0, none⟩) 256 256)) (Q_slA Tryz.underlying88 ty3 J) J J <| qm J J ?_
      replace H := H.f2
      obtain ⟨q35, hq35, hB23⟩ := bnd hB23
      obtain ⟨C', ρ', hl36, HA, hL, hback⟩ := Hp.lend (A := [Box b14 [iV (x4.length : Int)]]) (L := [Arr (.slice (some ⟨b33, 0, none⟩) 256 256) 1 c28]) (F := Box b12 [v1, v2, v3] :: hs) H
      refine ne (E_call fn76 rfl (c_76 HA (gle.up hl36)  (arr_rd (by decide) hl36 (hL (Arr (.slice (some ⟨b33, 0, none⟩) 256 256) 1 c28) (by simp)) hc29.2) hq35)) J J ?_
      rintro _ wd37 ⟨x38, rfl, rfl, H⟩
      try dsimp only at hB23
      replace H := hback H
      dsimp only [List.cons_append, List.nil_append] at H
      refine WL_nil <| x_then ?_
      refine C_cond J (fun hb => ?_) (fun hb => ?_)
      ·replace hB23 := itT hb hB23
       refine sr <| qa J J <| C_ret <| x_block_ret <| x_then_ret <| x_then_ret <| x_block_ret <| x_then_ret <| x_then_ret ?_
       replace H := H.e2.e1.e0
       obtain rfl := oi hB23
       obtain rfl := hO24 _ rfl
       obtain rfl := oi (show some _ = some _ from hF)
       exact fn_ret (l := [.tmp 2]) (vs := [.bool false]) J J J ⟨false, J, J, H⟩
      ·replace hB23 := itF hb hB23
       refine C_skip <| x_block <| x_then <| R_nd <| nq (Q_add J J) J J <| qm J J <| WL_nil ?_
       replace H := H.e1.f1
       obtain rfl := oi hB23
       refine x_A fun a hf => ⟨_, J, w64 (x20 + 1), J, hf.sub ⟨J, J, J, J, J, trivial⟩, H⟩
     ·replace hB23 := itF hb hB23
      refine C_exit <| x_then_exit <| x_then_exit <| x_block_exit ?_
      obtain rfl := oi hB23
      obtain rfl := hO24 _ rfl
      refine x_A fun a hf => ⟨J, hf.sub ⟨J, J, trivial⟩, H⟩
   ·rintro a wd39 ⟨rfl, hf, H⟩
    try dsimp only at hF
    refine XX.at hf <| xs <| qa J J <| C_seq ?_
    obtain ⟨o40, ho40, hF⟩ := bnd hF
    refine C_cut (fun a w' => ∃ (x41 : Bool), x41 = o40 ∧ Fr 71 a [(1, pV b12 0), (57, .bool x41)] ∧ Hp C w' ρ (Box b12 [v1, v2, v3] :: hs)) ?_ ?_
    ·refine R_nd <| nq (v := pV b12 1) (Q_fld Tryz.underlying78 rfl ty23 (by decide) J J) J J <| nq (v := v2) (Q_ldB (k := 0) (cs := [v2]) H.ok rfl ty23 J J rfl (fun _ => J) J) J J <| qm J J ?_
     obtain ⟨q42, hq42, ho40⟩ := bnd ho40
     refine ne (E_call fn76 J (c_76_1 H gle  r8 hq42)) J J ?_
     rintro _ wd43 ⟨x44, rfl, rfl, H⟩
     try dsimp only at ho40
     refine qm J J ?_
     rcases Bool.eq_false_or_eq_true x44 with hb | hb
     ·rw [hb]
      replace ho40 := itT hb ho40
      refine gs J J J J <| gs J J J J <| gs J J J J <| gs J J J J <| nq (Q_pickT J J) J J <| WL_nil ?_
      replace H := H.e1
      obtain rfl := oi ho40
      refine x_A fun a hf => ⟨true, J, hf.sub ⟨J, J, trivial⟩, H⟩
     ·rw [hb]
      replace ho40 := itF hb ho40
      refine gq (v := pV b12 2) (Q_fld Tryz.underlying78 rfl ty23 (by decide) J J) J J J <| gq (v := v3) (Q_ldB (k := 0) (cs := [v3]) H.ok rfl ty23 J J rfl (fun _ => J) J) J J J <| gq (Q_move J) J J J ?_
      replace H := H.f1
      obtain ⟨q45, hq45, ho40⟩ := bnd ho40
      refine ge (E_call fn76 J (c_76 H gle  r9 hq45)) J J J ?_
      rintro _ wd46 ⟨x47, rfl, rfl, H⟩
      try dsimp only at ho40
      refine nq (Q_pickF J J) J J <| WL_nil ?_
      replace H := H.e0
      obtain rfl := oi ho40
      refine x_A fun a hf => ⟨x47, J, hf.sub ⟨J, J, trivial⟩, H⟩
    ·rintro a wd48 ⟨x41, rfl, hf, H⟩
     try dsimp only at hF
     refine CW.at hf ?_
     refine C_cond J (fun hb => ?_) (fun hb => ?_)
     ·replace hF := itT hb hF
      refine sr <| qa J J <| C_ret <| x_then_ret ?_
      replace H := H.e0
      obtain rfl := oi hF
      exact fn_ret (l := [.tmp 2]) (vs := [.bool false]) J J J ⟨false, J, J, H⟩
     ·replace hF := itF hb hF
      refine C_skip <| x_then ?_
      obtain ⟨o49, ho49, hF⟩ := bnd hF
      refine C_cut (fun a w' => ∃ (x50 : Bool), x50 = o49 ∧ Fr 71 a [(2, .bool x50)] ∧ Hp C w' ρ (hs)) ?_ ?_
      ·refine R_nd <| nq (v := pV b12 0) (Q_fld Tryz.underlying78 rfl ty76 (by decide) J J) J J <| nq (v := v1) (Q_ldB (k := 0) (cs := [v1]) H.ok rfl ty76 J J rfl (fun _ => J) J) J J ?_
       obtain ⟨x51, hx51, ho49⟩ := bnd ho49
       obtain ⟨b52, o53, c54, hc55, ha56, hi57⟩ := idxR r7 hx51
       refine nq (Q_idx hi57 Tryz.underlying76 ty88 J J) J J <| nq (v := .agg c54.toArray) (Q_ld (ha56.up H.ok.view) ty88 ((eA 256 (eI .i64)).len hc55) (fun h => nomatch h) J J) J J <| nq (v := .agg (repC 256 [iV 0]).toArray) (Q_build0 (zs := (repC 256 [iV 0])) ty88 Tryz.underlying88 ty3 J) J J <| nq (v := .bool (x51 == (List.replicate 256 0))) (Q_eqlA Tryz.underlying88 ty3 (by kernel_rfl) Tryz.underlying3 hc55.2 hc55.1 (rdL_rep (e:=(eI .i64)) (ρ:=ρ) (rfl) 256) List.length_replicate J J) J J <| qm J J ?_
       rcases Bool.eq_false_or_eq_true (x51 == (List.replicate 256 0)) with hb | hb
       ·rw [hb]
        replace ho49 := itT hb ho49
        refine gq (v := pV b12 1) (Q_fld Tryz.underlying78 rfl ty23 (by decide) J J) J J J <| gq (v := v2) (Q_ldB (k := 0) (cs := [v2]) H.ok rfl ty23 J J rfl (fun _ => J) J) J J J ?_
        obtain ⟨x58, hx58, ho49⟩ := bnd ho49
        obtain ⟨b59, o60, c61, hc62, ha63, hi64⟩ := idxR r8 hx58
        refine gq (Q_idx hi64 Tryz.underlying23 ty3 J J) J J J <| gq (v := iV x58) (Q_ld (show cellsAt _ _ _ [iV x58] from (show _ = [_] from hc62) ▸ (ha63.up H.ok.view)) ty3 J (fun _ => J) J J) J J J <| gq (Q_eql J J) J J J <| nq (Q_pickT J J) J J <| nq (Q_assign J) J J <| WL_nil ?_
        replace H := H.e0
        obtain rfl := oi ho49
        refine x_A fun a hf => ⟨x58 == (-1), J, hf.sub ⟨J, trivial⟩, H⟩
       ·rw [hb]
        replace ho49 := itF hb ho49
        refine gs J J J J <| gs J J J J <| gs J J J J <| gs J J J J <| gs J J J J <| nq (Q_pickF J J) J J <| nq (Q_assign J) J J <| WL_nil ?_
        replace H := H.e0
        obtain rfl := oi ho49
        refine x_A fun a hf => ⟨false, J, hf.sub ⟨J, trivial⟩, H⟩
      ·rintro a wd65 ⟨x50, rfl, hf, H⟩
       try dsimp only at hF
       refine CW.at hf <| C_ret ?_
       obtain rfl := oi hF
       exact fn_ret (l := [.tmp 2]) (vs := [.bool x50]) J J J ⟨x50, J, J, H⟩
theorem c_106 {N : Nat} {C : Cx} {w : World} {ρ : View} {hs : List Hl} {gV : Nat → Value} {v1 : Value} {v2 : Value} {v3 : Value} {x4 : (List (List Int))} {x5 : (List Int)} {x6 : (List Int)} {x7 : Int} (H : Hp C w ρ (hs)) (_gle : GErrs ρ 394 errIds gV) (_r3 : RdSl ρ (eA 256 (eI .i64)) v1 x4) (_r6 : RdSl ρ (eI .i64) v2 x5) (r8 : RdSl ρ (eI .i64) v3 x6) {r : Int} (hF : F_92 N x4 x5 x6 x7 = some r) :
  Calls Tryz.prog 106 [.agg #[v1, v2, v3], iV x7].toArray w (Rets (fun v w' => (∃ (x9 : Int), x9 = r ∧ iV x9 = v ∧ Hp C w' ρ (hs)))) := by
 unfold F_92 at hF
 have h0 : Tryz.f106.body = some _ := rfl
 refine fn_calls' Tryz.func106 h0 (n := 19) rfl (by simp) <| sr <| ne (E_box H (vs := [v1, v2, v3]) J J) J J ?_
 rintro _ wd10 ⟨b11, rfl, H⟩
 refine qa J J <| C_seq ?_
 obtain ⟨o12, ho12, hF⟩ := bnd hF
 refine C_cut (fun a w' => ∃ (x13 : Bool), x13 = o12 ∧ Fr 19 a [(1, iV x7), (2, pV b11 0), (13, .bool x13)] ∧ Hp C w' ρ (Box b11 [v1, v2, v3] :: hs)) ?_ ?_
 ·refine R_nd <| qm J J <| nq (Q_lss J J) J J <| qm J J ?_
  rcases Bool.eq_false_or_eq_true (decide (x7 < 0)) with hb | hb
  ·rw [hb]
   replace ho12 := itT hb ho12
   refine gs J J J J <| gs J J J J <| gs J J J J <| gs J J J J <| gs J J J J <| nq (Q_pickT J J) J J <| WL_nil ?_
   obtain rfl := oi ho12
   refine x_A fun a hf => ⟨true, J, hf.sub ⟨J, J, J, trivial⟩, H⟩
  ·rw [hb]
   replace ho12 := itF hb ho12
   refine gq (Q_move J) J J J <| gq (v := pV b11 2) (Q_fld Tryz.underlying78 rfl ty23 (by decide) J J) J J J <| gq (v := v3) (Q_ldB (k := 0) (cs := [v3]) H.ok rfl ty23 J J rfl (fun _ => J) J) J J J <| gq (Q_len Tryz.underlying23 rfl r8) J J J <| gq (Q_geq J J) J J J <| nq (Q_pickF J J) J J <| WL_nil ?_
   obtain rfl := oi ho12
   refine x_A fun a hf => ⟨decide (x7 ≥ (x6.length : Int)), J, hf.sub ⟨J, J, J, trivial⟩, H⟩
 ·rintro a wd14 ⟨x13, rfl, hf, H⟩
  try dsimp only at hF
  refine CW.at hf ?_
  refine C_cond J (fun hb => ?_) (fun hb => ?_)
  ·replace hF := itT hb hF
   refine sr <| qa J J <| C_ret <| x_then_ret ?_
   replace H := H.e0
   obtain rfl := oi hF
   exact fn_ret (l := [.tmp 4]) (vs := [iV 0]) J J J ⟨0, J, J, H⟩
  ·replace hF := itF hb hF
   refine C_skip <| xs <| nq (v := pV b11 2) (Q_fld Tryz.underlying78 rfl ty23 (by decide) J J) J J <| nq (v := v3) (Q_ldB (k := 0) (cs := [v3]) H.ok rfl ty23 J J rfl (fun _ => J) J) J J <| qm J J ?_
   obtain ⟨x15, hx15, hF⟩ := bnd hF
   obtain ⟨b16, o17, c18, hc19, ha20, hi21⟩ := idxR r8 hx15
   refine nq (Q_idx hi21 Tryz.underlying23 ty3 J J) J J <| nq (v := iV x15) (Q_ld (show cellsAt _ _ _ [iV x15] from (show _ = [_] from hc19) ▸ (ha20.up H.ok.view)) ty3 J (fun _ => J) J J) J J <| qa J J <| C_ret ?_
   replace H := H.e0
   obtain rfl := oi hF
   exact fn_ret (l := [.tmp 4]) (vs := [iV x15]) J J J ⟨x15, J, J, H⟩
theorem c_107 {N : Nat} {C : Cx} {w : World} {ρ : View} {hs : List Hl} {gV : Nat → Value} {v1 : Value} {v2 : Value} {v3 : Value} {x4 : (List (List Int))} {x5 : (List Int)} {x6 : (List Int)} {x7 : Int} {x8 : Int} (H : Hp C w ρ (hs)) (_gle : GErrs ρ 394 errIds gV) (r9 : RdSl ρ (eA 256 (eI .i64)) v1 x4) (_r6 : RdSl ρ (eI .i64) v2 x5) (_r9 : RdSl ρ (eI .i64) v3 x6) {r : Int} (hF : F_93 N x4 x5 x6 x7 x8 = some r) :
  Calls Tryz.prog 107 [.agg #[v1, v2, v3], iV x7, .int .u8 x8].toArray w (Rets (fun v w' => (∃ (x10 : Int), x10 = r ∧ iV x10 = v ∧ Hp C w' ρ (hs)))) := by
 unfold F_93 at hF
 have h0 : Tryz.f107.body = some _ := rfl
 refine fn_calls' Tryz.func107 h0 (n := 23) rfl (by simp) <| sr <| ne (E_box H (vs := [v1, v2, v3]) J J) J J ?_
 rintro _ wd11 ⟨b12, rfl, H⟩
 refine qa J J <| C_seq ?_
 obtain ⟨o13, ho13, hF⟩ := bnd hF
 refine C_cut (fun a w' => ∃ (x14 : Bool), x14 = o13 ∧ Fr 23 a [(1, iV x7), (2, .int .u8 x8), (3, pV b12 0), (15, .bool x14)] ∧ Hp C w' ρ (Box b12 [v1, v2, v3] :: hs)) ?_ ?_
 ·refine R_nd <| qm J J <| nq (Q_lss J J) J J <| qm J J ?_
  rcases Bool.eq_false_or_eq_true (decide (x7 < 0)) with hb | hb
  ·rw [hb]
   replace ho13 := itT hb ho13
   refine gs J J J J <| gs J J J J <| gs J J J J <| gs J J J J <| gs J J J J <| nq (Q_pickT J J) J J <| WL_nil ?_
   obtain rfl := oi ho13
   refine x_A fun a hf => ⟨true, J, hf.sub ⟨J, J, J, J, trivial⟩, H⟩
  ·rw [hb]
   replace ho13 := itF hb ho13
   refine gq (Q_move J) J J J <| gq (v := pV b12 0) (Q_fld Tryz.underlying78 rfl ty76 (by decide) J J) J J J <| gq (v := v1) (Q_ldB (k := 0) (cs := [v1]) H.ok rfl ty76 J J rfl (fun _ => J) J) J J J <| gq (Q_len Tryz.underlying76 rfl r9) J J J <| gq (Q_geq J J) J J J <| nq (Q_pickF J J) J J <| WL_nil ?_
   obtain rfl := oi ho13
   refine x_A fun a hf => ⟨decide (x7 ≥ (x4.length : Int)), J, hf.sub ⟨J, J, J, J, trivial⟩, H⟩
 ·rintro a wd15 ⟨x14, rfl, hf, H⟩
  try dsimp only at hF
  refine CW.at hf ?_
  refine C_cond J (fun hb => ?_) (fun hb => ?_)
  ·replace hF := itT hb hF
   refine sr <| qa J J <| C_ret <| x_then_ret ?_
   replace H := H.e0
   obtain rfl := oi hF
   exact fn_ret (l := [.tmp 6]) (vs := [iV 0]) J J J ⟨0, J, J, H⟩
  ·replace hF := itF hb hF
   refine C_skip <| xs <| nq (v := pV b12 0) (Q_fld Tryz.underlying78 rfl ty76 (by decide) J J) J J <| nq (v := v1) (Q_ldB (k := 0) (cs := [v1]) H.ok rfl ty76 J J rfl (fun _ => J) J) J J <| qm J J <| qm J J ?_
   obtain ⟨x16, hx16, hF⟩ := bnd hF
   obtain ⟨b17, o18, c19, hc20, ha21, hi22⟩ := idxR r9 hx16
   refine nq (Q_idx hi22 Tryz.underlying76 ty88 J J) J J ?_
   obtain ⟨x23, hx23, hF⟩ := bnd hF
   have hn24 := idx_lt hc20.1 hx23
   refine nq (Q_idxA hn24.1 hn24.2 Tryz.underlying88 ty3 J J) J J ?_
   obtain ⟨c25, hc26, ha27, _⟩ := arrR hc20 ha21 hx23
   refine nq (v := iV x23) (Q_ld (show cellsAt _ _ _ [iV x23] from (show _ = [_] from hc26) ▸ (ha27.up H.ok.view)) ty3 J (fun _ => J) J J) J J <| qa J J <| C_ret ?_
   replace H := H.e0
   obtain rfl := oi hF
   exact fn_ret (l := [.tmp 6]) (vs := [iV x23]) J J J ⟨x23, J, J, H⟩
theorem c_58 {N : Nat} {C : Cx} {w : World} {ρ : View} {hs : List Hl} {gV : Nat → Value} {v1 : Value} {v2 : Value} {v3 : Value} {v4 : Value} {x5 : (List (List Int))} {x6 : (List Int)} {x7 : (List Int)} {x8 : Int} {x9 : (List Int)} (H : Hp C w ρ (hs)) (gle : GErrs ρ 394 errIds gV) (r10 : RdSl ρ (eA 256 (eI .i64)) v1 x5) (r11 : RdSl ρ (eI .i64) v2 x6) (r12 : RdSl ρ (eI .i64) v3 x7) (r13 : RdSl ρ (eI .u8) v4 x9) {r : Int} (hF : F_24 N x5 x6 x7 x8 x9 = some r) :
  Calls Tryz.prog 58 [.agg #[v1, v2, v3], iV x8, v4].toArray w (Rets (fun v w' => (∃ (x14 : Int), x14 = r ∧ iV x14 = v ∧ Hp C w' ρ (hs)))) := by
 unfold F_24 at hF
 have h0 : Tryz.f58.body = some _ := rfl
 refine fn_calls' Tryz.func58 h0 (n := 32) rfl (by simp) <| sr <| ne (E_box H (vs := [v1, v2, v3]) J J) J J ?_
 rintro _ wd15 ⟨b16, rfl, H⟩
 refine qa J J <| C_seq <| sr <| nq (v := .agg #[v1, v2, v3]) (Q_ldB (k := 0) (cs := [v1, v2, v3]) H.ok J ty78 J J J (fun h => nomatch h) J) J J ?_
 obtain ⟨q17, hq17, hF⟩ := bnd hF
 refine ne (E_call fn57 J (c_57 H gle  r10 r11 r12 hq17)) J J ?_
 rintro _ wd18 ⟨x19, rfl, rfl, H⟩
 try dsimp only at hF
 refine nq (Q_not J) J J <| WL_nil <| x_then ?_
 refine C_cond J (fun hb => ?_) (fun hb => ?_)
 ·replace hF := itT hb hF
  refine sr <| qa J J <| C_ret <| x_then_ret ?_
  replace H := H.e0
  obtain rfl := oi hF
  exact fn_ret (l := [.tmp 6]) (vs := [iV (-1)]) J J J ⟨(-1), J, J, H⟩
 ·replace hF := itF hb hF
  refine C_skip <| xs <| nq (v := .agg #[v1, v2, v3]) (Q_ldB (k := 0) (cs := [v1, v2, v3]) H.ok J ty78 J J J (fun h => nomatch h) J) J J <| qm J J ?_
  obtain ⟨q20, hq20, hF⟩ := bnd hF
  refine ne (E_call fn106 J (c_106 H gle  r10 r11 r12 hq20)) J J ?_
  rintro _ wd21 ⟨x22, rfl, rfl, H⟩
  try dsimp only at hF
  refine qa J J <| C_seq <| sr <| qm J J <| nq (Q_len Tryz.underlying42 J r13) J J <| qm J J <| WL_nil <| x_then ?_
  obtain ⟨o23, ho23, hF⟩ := bnd hF
  refine C_cutQ (fun a w' => ∃ (x24 : Int), x24 = o23 ∧ Fr 32 a [(3, pV b16 0), (7, iV x24)] ∧ Hp C w' ρ (Box b16 [v1, v2, v3] :: hs)) ?_ ?_
  ·refine C_block ?_
   refine C_iter (f := fun s => F_57 N x5 x6 x7 x9 s.1 s.2) ho23 (fun s a w' => ∃ (x25 : Int) (x26 : Int), (x25, x26) = s ∧ Fr 32 a [(3, pV b16 0), (7, iV x26), (16, v4), (17, iV (x9.length : Int)), (18, iV x25)] ∧ Hp C w' ρ (Box b16 [v1, v2, v3] :: hs)) ?_ ?_
   ·exact fun a hf => ⟨0, x22, J, hf.sub ⟨J, J, J, J, J, trivial⟩, H⟩
   ·rintro s o27 a wd28 ⟨x25, x26, rfl, hf, H⟩ hB29 hO30
    replace hB29 : F_57 N x5 x6 x7 x9 x25 x26 = some o27 := hB29
    unfold F_57 at hB29
    refine CW.at hf <| sr <| nq (Q_lss J J) J J <| WL_nil <| x_then <| C_seq ?_
    refine C_cond J (fun hb => ?_) (fun hb => ?_)
    ·replace hB29 := itT hb hB29
     refine C_skip <| x_then <| C_seq <| C_block <| C_seq <| R_nd ?_
     obtain ⟨x31, hx31, hB29⟩ := bnd hB29
     obtain ⟨b32, o33, c34, hc35, ha36, hi37⟩ := idxR r13 hx31
     refine nq (Q_idx hi37 Tryz.underlying42 ty5 J J) J J <| nq (v := .int .u8 x31) (Q_ld (show cellsAt _ _ _ [.int .u8 x31] from (show _ = [_] from hc35) ▸ (ha36.up H.ok.view)) ty5 J (fun _ => J) J J) J J <| qa J J <| R_nd <| nq (v := .agg #[v1, v2, v3]) (Q_ldB (k := 0) (cs := [v1, v2, v3]) H.ok J ty78 J J J (fun h => nomatch h) J) J J <| qm J J <| qm J J ?_
     obtain ⟨q38, hq38, hB29⟩ := bnd hB29
     refine ne (E_call fn107 J (c_107 H gle  r10 r11 r12 hq38)) J J ?_
     rintro _ wd39 ⟨x40, rfl, rfl, H⟩
     try dsimp only at hB29
     refine nq (Q_assign J) J J <| WL_nil <| x_block <| x_then <| R_nd <| nq (Q_add J J) J J <| qm J J <| WL_nil ?_
     obtain rfl := oi hB29
     refine x_A fun a hf => ⟨_, J, w64 (x25 + 1), x40, J, hf.sub ⟨J, J, J, J, J, trivial⟩, H⟩
    ·replace hB29 := itF hb hB29
     refine C_exit <| x_then_exit <| x_then_exit <| x_block_exit ?_
     obtain rfl := oi hB29
     obtain rfl := hO30 _ rfl
     refine x_A fun a hf => ⟨x26, J, hf.sub ⟨J, J, trivial⟩, H⟩
  ·rintro a wd41 ⟨x24, rfl, hf, H⟩
   try dsimp only at hF
   refine XX.at hf <| xs <| nq (v := pV b16 1) (Q_fld Tryz.underlying78 rfl ty23 (by decide) J J) J J <| nq (v := v2) (Q_ldB (k := 0) (cs := [v2]) H.ok rfl ty23 J J rfl (fun _ => J) J) J J <| qm J J ?_
   obtain ⟨x42, hx42, hF⟩ := bnd hF
   obtain ⟨b43, o44, c45, hc46, ha47, hi48⟩ := idxR r11 hx42
   refine nq (Q_idx hi48 Tryz.underlying23 ty3 J J) J J <| nq (v := iV x42) (Q_ld (show cellsAt _ _ _ [iV x42] from (show _ = [_] from hc46) ▸ (ha47.up H.ok.view)) ty3 J (fun _ => J) J J) J J <| qa J J <| C_ret ?_
   replace H := H.e0
   obtain rfl := oi hF
   exact fn_ret (l := [.tmp 6]) (vs := [iV x42]) J J J ⟨x42, J, J, H⟩
theorem c_16 {N : Nat} {C : Cx} {w : World} {ρ : View} {hs : List Hl} {gV : Nat → Value} {v1 : Value} {v2 : Value} {x3 : (List ((List Int) × (Int × Int × Int × Int) × Int × Int))} {x4 : (List Int)} {x5 : Int} (H : Hp C w ρ (hs)) (_gle : GErrs ρ 394 errIds gV) (r6 : RdSl ρ (eP (eL (eI .i64)) (eP (eP (eI .u64) (eP (eI .u64) (eP (eI .u64) (eI .u64)))) (eP (eI .i64) (eI .i64)))) v1 x3) (r7 : RdSl ρ (eI .i64) v2 x4) {r : ((List ((List Int) × (Int × Int × Int × Int) × Int × Int)) × Bool)} (hF : F_27 N x3 x4 x5 = some r) :
  Calls Tryz.prog 16 [.agg #[v1, v2], iV x5].toArray w (Rets (fun v w' => (∃ (v8 : Value) (c9 : (List Value)) (x10 : (List ((List Int) × (Int × Int × Int × Int) × Int × Int))) (x11 : Bool), (x10, x11) = r ∧ .tuple [.agg #[v8, v2], .bool x11].toArray = v ∧ rdL (eP (eL (eI .i64)) (eP (eP (eI .u64) (eP (eI .u64) (eP (eI .u64) (eI .u64)))) (eP (eI .i64) (eI .i64)))) ρ x10 c9 ∧ Hp C w' ρ (Arr v8 7 c9 :: hs)))) := by
 unfold F_27 at hF
 have h0 : Tryz.f16.body = some _ := rfl
 refine fn_calls' Tryz.func16 h0 (n := 52) rfl (by simp) <| sr <| ne (E_box H (vs := [v1, v2]) J J) J J ?_
 rintro _ wd12 ⟨b13, rfl, H⟩
 refine ne (E_alloc H ty29 (zs := [.slice none 0 0, .slice none 0 0]) J) J J ?_
 rintro _ wd14 ⟨b15, rfl, H⟩
 refine qa J J <| sr <| nq (v := pV b13 1) (Q_fld Tryz.underlying25 rfl ty23 (by decide) J J) J J <| nq (v := v2) (Q_ldB (k := 1) (cs := [v2]) H.ok rfl ty23 J J rfl (fun _ => J) J) J J <| nq (v := .agg #[.slice none 0 0, v2]) (Q_buildS st29.choose_spec (ps := [(1, [v2])]) rfl ⟨rfl, (RdSl.cells r7), by simp, trivial⟩ J) J J <| ne (E_alloc H ty29 (zs := [.slice none 0 0, .slice none 0 0]) J) J J ?_
 rintro _ wd16 ⟨b17, rfl, H⟩
 refine ne (E_stB (k := 0) (cs := [.slice none 0 0, v2]) (vs' := [.slice none 0 0, v2]) H rfl ty29 J J J rfl (one_cons rfl (one_cons (RdSl.one r7) one_nil)) (by simp) J) J J ?_
 rintro _ wd18 H
 dsimp only [List.set] at H
 refine WL_nil <| x_then <| C_seq ?_
 obtain ⟨o19, ho19, hF⟩ := bnd hF
 refine C_cut (fun a w' => ∃ (x20 : Bool), x20 = o19 ∧ Fr 52 a [(2, pV b13 0), (4, pV b15 0), (6, pV b17 0), (22, .bool x20)] ∧ Hp C w' ρ (Box b13 [v1, v2] :: Box b15 [.slice none 0 0, .slice none 0 0] :: Box b17 [.slice none 0 0, v2] :: hs)) ?_ ?_
 ·refine R_nd <| nq (v := pV b13 1) (Q_fld Tryz.underlying25 rfl ty23 (by decide) J J) J J <| nq (v := v2) (Q_ldB (k := 2) (cs := [v2]) H.ok rfl ty23 J J rfl (fun _ => J) J) J J <| nq (Q_len Tryz.underlying23 rfl r7) J J <| nq (Q_gtr J J) J J <| qm J J ?_
  rcases Bool.eq_false_or_eq_true (decide ((x4.length : Int) > 20)) with hb | hb
  ·rw [hb]
   replace ho19 := itT hb ho19
   refine gs J J J J <| gs J J J J <| gs J J J J <| gs J J J J <| gs J J J J <| nq (Q_pickT J J) J J <| WL_nil ?_
   replace H := H.f1.f2
   obtain rfl := oi ho19
   refine x_A fun a hf => ⟨true, J, hf.sub ⟨J, J, J, J, trivial⟩, H⟩
  ·rw [hb]
   replace ho19 := itF hb ho19
   refine gq (v := pV b13 0) (Q_fld Tryz.underlying25 rfl ty22 (by decide) J J) J J J <| gq (v := v1) (Q_ldB (k := 2) (cs := [v1]) H.ok rfl ty22 J J rfl (fun _ => J) J) J J J <| gq (Q_len Tryz.underlying22 rfl r6) J J J <| gq (Q_move J) J J J <| gq (Q_gtr J J) J J J <| nq (Q_pickF J J) J J <| WL_nil ?_
   replace H := H.f1.f2
   obtain rfl := oi ho19
   refine x_A fun a hf => ⟨decide ((x3.length : Int) > x5), J, hf.sub ⟨J, J, J, J, trivial⟩, H⟩
 ·rintro a wd21 ⟨x20, rfl, hf, H⟩
  try dsimp only at hF
  refine CW.at hf ?_
  refine C_cond J (fun hb => ?_) (fun hb => ?_)
  ·replace hF := itT hb hF
   refine sr <| nq (v := .agg #[.slice none 0 0, v2]) (Q_ldB (k := 2) (cs := [.slice none 0 0, v2]) H.ok rfl ty29 J J rfl (fun h => nomatch h) J) J J <| ne (E_stB (k := 1) (cs := [.slice none 0 0, v2]) (vs' := [.slice none 0 0, v2]) H rfl ty29 J J J rfl (one_cons rfl (one_cons (RdSl.one r7) one_nil)) (by simp) J) J J ?_
   rintro _ wd22 H
   dsimp only [List.set] at H
   refine qa J J <| C_ret <| x_then_ret ?_
   have H := H.nilArr 7
   have hRV : RV Tryz.prog wd22 [(4, pV b15 0), (5, .bool false)] [.cell 4 29, .tmp 5] [.agg #[(.slice none 0 0), v2], .bool false] := ⟨⟨_, rfl, run_ldv ty29 rfl (fun h => nomatch h) (box_at (H.ok.get (k := 2) rfl) 0 2)⟩, rfl, trivial⟩
   replace H := H.e3.e2.e1
   obtain rfl := oi hF
   exact fn_retV (rs := [.cell 4 29, .tmp 5]) (vs := [.agg #[(.slice none 0 0), v2], .bool false]) J hRV ⟨(.slice none 0 0), [], [], false, J, J, rdL.nil, H⟩
  ·replace hF := itF hb hF
   refine C_skip <| x_then <| C_seq <| sr <| nq (v := pV b13 0) (Q_fld Tryz.underlying25 rfl ty22 (by decide) J J) J J <| nq (v := v1) (Q_ldB (k := 0) (cs := [v1]) H.ok rfl ty22 J J rfl (fun _ => J) J) J J <| nq (Q_len Tryz.underlying22 rfl r6) J J <| qm J J <| WL_nil <| x_then ?_
   obtain ⟨o23, ho23, hF⟩ := bnd hF
   refine C_cutQ (fun a w' => ∃ (v24 : Value) (c25 : (List Value)) (x26 : (List ((List Int) × (Int × Int × Int × Int) × Int × Int))), .inl x26 = o23 ∧ rdL (eP (eL (eI .i64)) (eP (eP (eI .u64) (eP (eI .u64) (eP (eI .u64) (eI .u64)))) (eP (eI .i64) (eI .i64)))) ρ x26 c25 ∧ Fr 52 a [(4, pV b15 0), (6, pV b17 0)] ∧ Hp C w' ρ (Box b15 [.slice none 0 0, .slice none 0 0] :: Box b17 [v24, v2] :: Arr v24 7 c25 :: hs)) ?_ ?_
   ·refine C_block ?_
    have H := H.nilArr 7
    replace H := H.e1.f2.f2
    refine C_iter (f := fun s => F_65 N x3 s.1 s.2) ho23 (fun s a w' => ∃ (v27 : Value) (c28 : (List Value)) (x29 : Int) (x30 : (List ((List Int) × (Int × Int × Int × Int) × Int × Int))), (x29, x30) = s ∧ rdL (eP (eL (eI .i64)) (eP (eP (eI .u64) (eP (eI .u64) (eP (eI .u64) (eI .u64)))) (eP (eI .i64) (eI .i64)))) ρ x30 c28 ∧ Fr 52 a [(4, pV b15 0), (6, pV b17 0), (25, v1), (26, iV (x3.length : Int)), (27, iV x29)] ∧ Hp C w' ρ (Box b15 [.slice none 0 0, .slice none 0 0] :: Box b17 [v27, v2] :: Arr v27 7 c28 :: hs)) ?_ ?_
    ·exact fun a hf => ⟨(.slice none 0 0), [], 0, [], J, rdL.nil, hf.sub ⟨J, J, J, J, J, trivial⟩, H⟩
    ·rintro s o31 a wd32 ⟨v27, c28, x29, x30, rfl, r33, hf, H⟩ hB34 hO35
     replace hB34 : F_65 N x3 x29 x30 = some o31 := hB34
     unfold F_65 at hB34
     refine CW.at hf <| sr <| nq (Q_lss J J) J J <| WL_nil <| x_then <| C_seq ?_
     refine C_cond J (fun hb => ?_) (fun hb => ?_)
     ·replace hB34 := itT hb hB34
      refine C_skip <| x_then <| C_seq <| C_block <| C_seq <| R_nd ?_
      obtain ⟨x36, hx36, hB34⟩ := bnd hB34
      obtain ⟨b37, o38, c39, hc40, ha41, hi42⟩ := idxR r6 hx36
      refine nq (Q_idx hi42 Tryz.underlying22 ty41 J J) J J ?_
      obtain ⟨c43, c44, he45, hc46, hc47⟩ := (id hc40)
      obtain ⟨v48, he49, r50⟩ := hc46
      obtain ⟨c51, c52, he53, hc54, hc55⟩ := hc47
      obtain ⟨c56, c57, he58, hc59, hc60⟩ := hc54
      obtain ⟨c61, c62, he63, hc64, hc65⟩ := hc60
      obtain ⟨c66, c67, he68, hc69, hc70⟩ := hc65
      obtain ⟨c71, c72, he73, hc74, hc75⟩ := hc55
      refine nq (v := .agg #[v48, uV x36.2.1.1, uV x36.2.1.2.1, uV x36.2.1.2.2.1, uV x36.2.1.2.2.2, iV x36.2.2.1, iV x36.2.2.2]) (Q_ld (show cellsAt _ _ _ [v48, uV x36.2.1.1, uV x36.2.1.2.1, uV x36.2.1.2.2.1, uV x36.2.1.2.2.2, iV x36.2.2.1, iV x36.2.2.2] from cellsAt.cg (cat2 he45 he49 (cat2 he53 (cat2 he58 (rdI hc59) (cat2 he63 (rdI hc64) (cat2 he68 (rdI hc69) (rdI hc70)))) (cat2 he73 (rdI hc74) (rdI hc75)))) (ha41.up H.ok.view)) ty41 J (fun h => nomatch h) J J) J J <| ne (E_alloc H ty41 (zs := [.slice none 0 0, uV 0, uV 0, uV 0, uV 0, iV 0, iV 0]) J) J J ?_
      rintro _ wd76 ⟨b77, rfl, H⟩
      refine ne (E_stB (k := 0) (cs := [v48, uV x36.2.1.1, uV x36.2.1.2.1, uV x36.2.1.2.2.1, uV x36.2.1.2.2.2, iV x36.2.2.1, iV x36.2.2.2]) (vs' := [v48, uV x36.2.1.1, uV x36.2.1.2.1, uV x36.2.1.2.2.1, uV x36.2.1.2.2.2, iV x36.2.2.1, iV x36.2.2.2]) H rfl ty41 J J J rfl (one_cons (RdSl.one r50) (one_cons rfl (one_cons rfl (one_cons rfl (one_cons rfl (one_cons rfl (one_cons rfl one_nil))))))) (by simp) J) J J ?_
      rintro _ wd78 H
      dsimp only [List.set] at H
      refine WL_nil <| x_then <| C_seq <| sr <| nq (v := pV b77 0) (Q_fld Tryz.underlying41 rfl ty23 (by decide) J J) J J <| nq (v := v48) (Q_ldB (k := 0) (cs := [v48]) H.ok rfl ty23 J J rfl (fun _ => J) J) J J <| nq (Q_len Tryz.underlying23 rfl r50) J J <| nq (Q_gtr J J) J J <| WL_nil <| x_then ?_
      refine C_cond J (fun hb => ?_) (fun hb => ?_)
      ·replace hB34 := itT hb hB34
       refine sr <| nq (v := .agg #[v27, v2]) (Q_ldB (k := 2) (cs := [v27, v2]) H.ok rfl ty29 J J rfl (fun h => nomatch h) J) J J <| ne (E_stB (k := 1) (cs := [v27, v2]) (vs' := [v27, v2]) H rfl ty29 J J J rfl (one_cons (arr_cells (H.ok.get (k := 3) rfl)).2 (one_cons (RdSl.one r7) one_nil)) (by simp) J) J J ?_
       rintro _ wd79 H
       dsimp only [List.set] at H
       refine qa J J <| C_ret <| x_then_ret <| x_block_ret <| x_then_ret <| x_then_ret <| x_block_ret <| x_then_ret <| x_then_ret ?_
       have hRV : RV Tryz.prog wd79 [(4, pV b15 0), (5, .bool false)] [.cell 4 29, .tmp 5] [.agg #[v27, v2], .bool false] := ⟨⟨_, rfl, run_ldv ty29 rfl (fun h => nomatch h) (box_at (H.ok.get (k := 1) rfl) 0 2)⟩, rfl, trivial⟩
       replace H := H.e2.e1.e0
       obtain rfl := oi hB34
       obtain rfl := hO35 _ rfl
       obtain rfl := oi (show some _ = some _ from hF)
       exact fn_retV (rs := [.cell 4 29, .tmp 5]) (vs := [.agg #[v27, v2], .bool false]) J hRV ⟨v27, c28, x30, false, J, J, r33, H⟩
      ·replace hB34 := itF hb hB34
       refine C_skip <| x_then <| R_nd <| nq (v := pV b17 0) (Q_fld Tryz.underlying29 rfl ty27 (by decide) J J) J J <| nq (v := v27) (Q_ldB (k := 2) (cs := [v27]) H.ok rfl ty27 J J rfl (fun _ => J) J) J J <| nq (v := pV b77 0) (Q_fld Tryz.underlying41 rfl ty23 (by decide) J J) J J <| nq (v := v48) (Q_ldB (k := 0) (cs := [v48]) H.ok rfl ty23 J J rfl (fun _ => J) J) J J <| nq (v := pV b77 1) (Q_fld Tryz.underlying41 rfl ty39 (by decide) J J) J J <| nq (v := .agg #[uV x36.2.1.1, uV x36.2.1.2.1, uV x36.2.1.2.2.1, uV x36.2.1.2.2.2]) (Q_ldB (k := 0) (cs := [uV x36.2.1.1, uV x36.2.1.2.1, uV x36.2.1.2.2.1, uV x36.2.1.2.2.2]) H.ok rfl ty39 J J rfl (fun h => nomatch h) J) J J <| nq (v := pV b77 5) (Q_fld Tryz.underlying41 rfl ty3 (by decide) J J) J J <| nq (v := iV x36.2.2.1) (Q_ldB (k := 0) (cs := [iV x36.2.2.1]) H.ok rfl ty3 J J rfl (fun _ => J) J) J J <| nq (v := pV b77 6) (Q_fld Tryz.underlying41 rfl ty3 (by decide) J J) J J <| nq (v := iV x36.2.2.2) (Q_ldB (k := 0) (cs := [iV x36.2.2.2]) H.ok rfl ty3 J J rfl (fun _ => J) J) J J <| nq (v := .agg #[v48, uV x36.2.1.1, uV x36.2.1.2.1, uV x36.2.1.2.2.1, uV x36.2.1.2.2.2, iV x36.2.2.1, iV x36.2.2.2]) (Q_buildS st126.choose_spec (ps := [(0, [v48]), (1, [uV x36.2.1.1, uV x36.2.1.2.1, uV x36.2.1.2.2.1, uV x36.2.1.2.2.2]), (5, [iV x36.2.2.1]), (6, [iV x36.2.2.2])]) rfl ⟨rfl, (RdSl.cells r50), by simp, ⟨rfl, rfl, by simp, ⟨rfl, rfl, by simp, ⟨rfl, rfl, by simp, trivial⟩⟩⟩⟩ J) J J ?_
       refine ne (E_bslice (xs := [.tmp 46]) (vs := [.agg #[v48, uV x36.2.1.1, uV x36.2.1.2.1, uV x36.2.1.2.2.1, uV x36.2.1.2.2.2, iV x36.2.2.1, iV x36.2.2.2]]) H Tryz.underlying27 ty126 (by decide) (cs := [v48, uV x36.2.1.1, uV x36.2.1.2.1, uV x36.2.1.2.2.1, uV x36.2.1.2.2.2, iV x36.2.2.1, iV x36.2.2.2]) rfl (sz_cons rfl sz_nil) rfl (by simp) (by simp) J J) J J ?_
       rintro _ wd80 ⟨b81, rfl, H⟩
       obtain ⟨x82, hx82, hB34⟩ := bnd hB34
       obtain ⟨ha753a, ha753b⟩ := app_some hx82
       have r83 : rdL (eP (eL (eI .i64)) (eP (eP (eI .u64) (eP (eI .u64) (eP (eI .u64) (eI .u64)))) (eP (eI .i64) (eI .i64)))) ρ x82 (c28 ++ ([v48, uV x36.2.1.1, uV x36.2.1.2.1, uV x36.2.1.2.2.1, uV x36.2.1.2.2.2, iV x36.2.2.1, iV x36.2.2.2])) := ha753b ▸ rdL.app r33 (show rdL (eP (eL (eI .i64)) (eP (eP (eI .u64) (eP (eI .u64) (eP (eI .u64) (eI .u64)))) (eP (eI .i64) (eI .i64)))) ρ ([(x36.1, (x36.2.1.1, x36.2.1.2.1, x36.2.1.2.2.1, x36.2.1.2.2.2), x36.2.2.1, x36.2.2.2)]) ([v48, uV x36.2.1.1, uV x36.2.1.2.1, uV x36.2.1.2.2.1, uV x36.2.1.2.2.2, iV x36.2.2.1, iV x36.2.2.2]) from ⟨([v48, uV x36.2.1.1, uV x36.2.1.2.1, uV x36.2.1.2.2.1, uV x36.2.1.2.2.2, iV x36.2.2.1, iV x36.2.2.2]), _, rfl, ⟨[v48], _, rfl, ⟨_, rfl, r50⟩, ⟨[uV x36.2.1.1, uV x36.2.1.2.1, uV x36.2.1.2.2.1, uV x36.2.1.2.2.2], _, rfl, ⟨[uV x36.2.1.1], _, rfl, rfl, ⟨[uV x36.2.1.2.1], _, rfl, rfl, ⟨[uV x36.2.1.2.2.1], _, rfl, rfl, rfl⟩⟩⟩, ⟨[iV x36.2.2.1], _, rfl, rfl, rfl⟩⟩⟩, rdL.nil⟩)
       refine ne (E_append (k := 4) H rfl Tryz.underlying27 ty126 rfl (by decide) (by decide) J rfl (Src.ofArr (k := 0) H.ok rfl) (rdL.one (show rdL (eP (eL (eI .i64)) (eP (eP (eI .u64) (eP (eI .u64) (eP (eI .u64) (eI .u64)))) (eP (eI .i64) (eI .i64)))) ρ ([(x36.1, (x36.2.1.1, x36.2.1.2.1, x36.2.1.2.2.1, x36.2.1.2.2.2), x36.2.2.1, x36.2.2.2)]) ([v48, uV x36.2.1.1, uV x36.2.1.2.1, uV x36.2.1.2.2.1, uV x36.2.1.2.2.2, iV x36.2.2.1, iV x36.2.2.2]) from ⟨([v48, uV x36.2.1.1, uV x36.2.1.2.1, uV x36.2.1.2.2.1, uV x36.2.1.2.2.2, iV x36.2.2.1, iV x36.2.2.2]), _, rfl, ⟨[v48], _, rfl, ⟨_, rfl, r50⟩, ⟨[uV x36.2.1.1, uV x36.2.1.2.1, uV x36.2.1.2.2.1, uV x36.2.1.2.2.2], _, rfl, ⟨[uV x36.2.1.1], _, rfl, rfl, ⟨[uV x36.2.1.2.1], _, rfl, rfl, ⟨[uV x36.2.1.2.2.1], _, rfl, rfl, rfl⟩⟩⟩, ⟨[iV x36.2.2.1], _, rfl, rfl, rfl⟩⟩⟩, rdL.nil⟩)) (app_fit r33 (show rdL (eP (eL (eI .i64)) (eP (eP (eI .u64) (eP (eI .u64) (eP (eI .u64) (eI .u64)))) (eP (eI .i64) (eI .i64)))) ρ ([(x36.1, (x36.2.1.1, x36.2.1.2.1, x36.2.1.2.2.1, x36.2.1.2.2.2), x36.2.2.1, x36.2.2.2)]) ([v48, uV x36.2.1.1, uV x36.2.1.2.1, uV x36.2.1.2.2.1, uV x36.2.1.2.2.2, iV x36.2.2.1, iV x36.2.2.2]) from ⟨([v48, uV x36.2.1.1, uV x36.2.1.2.1, uV x36.2.1.2.2.1, uV x36.2.1.2.2.2, iV x36.2.2.1, iV x36.2.2.2]), _, rfl, ⟨[v48], _, rfl, ⟨_, rfl, r50⟩, ⟨[uV x36.2.1.1, uV x36.2.1.2.1, uV x36.2.1.2.2.1, uV x36.2.1.2.2.2], _, rfl, ⟨[uV x36.2.1.1], _, rfl, rfl, ⟨[uV x36.2.1.2.1], _, rfl, rfl, ⟨[uV x36.2.1.2.2.1], _, rfl, rfl, rfl⟩⟩⟩, ⟨[iV x36.2.2.1], _, rfl, rfl, rfl⟩⟩⟩, rdL.nil⟩) ha753a)) J J ?_
       rintro v84 wd85 ⟨H, hc86⟩
       dsimp only [List.set] at H
       refine nq (v := pV b17 0) (Q_fld Tryz.underlying29 rfl ty27 (by decide) J J) J J <| ne (E_stB (k := 3) (cs := [v84]) (vs' := [v84, v2]) H rfl ty27 J rfl (arr_cells (H.ok.get (k := 4) rfl)).1 rfl (one_cons (arr_cells (H.ok.get (k := 4) rfl)).2 one_nil) (by simp) J) J J ?_
       rintro _ wd87 H
       dsimp only [List.set] at H
       refine WL_nil <| x_block <| x_then <| R_nd <| nq (Q_add J J) J J <| qm J J <| WL_nil ?_
       replace H := H.e1.e0
       obtain rfl := oi hB34
       refine x_A fun a hf => ⟨_, J, v84, (c28 ++ ([v48, uV x36.2.1.1, uV x36.2.1.2.1, uV x36.2.1.2.2.1, uV x36.2.1.2.2.2, iV x36.2.2.1, iV x36.2.2.2])), w64 (x29 + 1), x82, J, r83, hf.sub ⟨J, J, J, J, J, trivial⟩, H⟩
     ·replace hB34 := itF hb hB34
      refine C_exit <| x_then_exit <| x_then_exit <| x_block_exit ?_
      obtain rfl := oi hB34
      obtain rfl := hO35 _ rfl
      refine x_A fun a hf => ⟨v27, c28, x30, J, r33, hf.sub ⟨J, J, trivial⟩, H⟩
   ·rintro a wd88 ⟨v24, c25, x26, rfl, r89, hf, H⟩
    try dsimp only at hF
    refine XX.at hf <| xs <| nq (v := .agg #[v24, v2]) (Q_ldB (k := 1) (cs := [v24, v2]) H.ok rfl ty29 J J rfl (fun h => nomatch h) J) J J <| ne (E_stB (k := 0) (cs := [v24, v2]) (vs' := [v24, v2]) H rfl ty29 J J J rfl (one_cons (arr_cells (H.ok.get (k := 2) rfl)).2 (one_cons (RdSl.one r7) one_nil)) (by simp) J) J J ?_
    rintro _ wd90 H
    dsimp only [List.set] at H
    refine qa J J <| C_ret ?_
    have hRV : RV Tryz.prog wd90 [(4, pV b15 0), (5, .bool true)] [.cell 4 29, .tmp 5] [.agg #[v24, v2], .bool true] := ⟨⟨_, rfl, run_ldv ty29 rfl (fun h => nomatch h) (box_at (H.ok.get (k := 0) rfl) 0 2)⟩, rfl, trivial⟩
    replace H := H.e1.e0
    obtain rfl := oi hF
    exact fn_retV (rs := [.cell 4 29, .tmp 5]) (vs := [.agg #[v24, v2], .bool true]) J hRV ⟨v24, c25, x26, true, J, J, r89, H⟩
theorem c_19 {N : Nat} {C : Cx} {w : World} {ρ : View} {hs : List Hl} {gV : Nat → Value} {v1 : Value} {v2 : Value} {x3 : (List ((List Int) × (Int × Int × Int × Int) × Int × Int))} {x4 : (List Int)} (H : Hp C w ρ (hs)) (_gle : GErrs ρ 394 errIds gV) (r5 : RdSl ρ (eP (eL (eI .i64)) (eP (eP (eI .u64) (eP (eI .u64) (eP (eI .u64) (eI .u64)))) (eP (eI .i64) (eI .i64)))) v1 x3) (r6 : RdSl ρ (eI .i64) v2 x4) {r : Bool} (hF : F_8 N x3 x4 = some r) :
  Calls Tryz.prog 19 [.agg #[v1, v2]].toArray w (Rets (fun v w' => (∃ (x7 : Bool), x7 = r ∧ .bool x7 = v ∧ Hp C w' ρ (hs)))) := by
 unfold F_8 at hF
 have h0 : Tryz.f19.body = some _ := rfl
 refine fn_calls' Tryz.func19 h0 (n := 99) rfl (by simp) <| sr <| ne (E_box H (vs := [v1, v2]) J J) J J ?_
 rintro _ wd8 ⟨b9, rfl, H⟩
 refine qa J J <| sr <| nq (v := pV b9 0) (Q_fld Tryz.underlying29 rfl ty27 (by decide) J J) J J <| nq (v := v1) (Q_ldB (k := 0) (cs := [v1]) H.ok rfl ty27 J J rfl (fun _ => J) J) J J <| nq (Q_len Tryz.underlying27 rfl r5) J J <| qa J J <| C_seq ?_
 obtain ⟨o10, ho10, hF⟩ := bnd hF
 refine C_cut (fun a w' => ∃ (x11 : Bool), x11 = o10 ∧ Fr 99 a [(1, pV b9 0), (3, iV (x3.length : Int)), (30, .bool x11)] ∧ Hp C w' ρ (Box b9 [v1, v2] :: hs)) ?_ ?_
 ·refine R_nd <| qm J J <| nq (Q_lss J J) J J <| qm J J ?_
  rcases Bool.eq_false_or_eq_true (decide ((x3.length : Int) < 1)) with hb | hb
  ·rw [hb]
   replace ho10 := itT hb ho10
   refine gs J J J J <| gs J J J J <| nq (Q_pickT J J) J J <| qm J J <| gs J J J J <| gs J J J J <| gs J J J J <| gs J J J J <| nq (Q_pickT J J) J J <| qm J J <| gs J J J J <| gs J J J J <| gs J J J J <| gs J J J J ?_
   refine nq (Q_pickT J J) J J <| WL_nil ?_
   obtain rfl := oi ho10
   refine x_A fun a hf => ⟨true, J, hf.sub ⟨J, J, J, trivial⟩, H⟩
  ·rw [hb]
   replace ho10 := itF hb ho10
   refine gq (Q_move J) J J J <| gq (Q_gtr J J) J J J <| nq (Q_pickF J J) J J <| qm J J ?_
   rcases Bool.eq_false_or_eq_true (decide ((x3.length : Int) > 4000)) with hb | hb
   ·rw [hb]
    replace ho10 := itT hb ho10
    refine gs J J J J <| gs J J J J <| gs J J J J <| gs J J J J <| nq (Q_pickT J J) J J <| qm J J <| gs J J J J <| gs J J J J <| gs J J J J <| gs J J J J <| nq (Q_pickT J J) J J <| WL_nil ?_
    obtain rfl := oi ho10
    refine x_A fun a hf => ⟨true, J, hf.sub ⟨J, J, J, trivial⟩, H⟩
   ·rw [hb]
    replace ho10 := itF hb ho10
    refine gq (v := pV b9 1) (Q_fld Tryz.underlying29 rfl ty23 (by decide) J J) J J J <| gq (v := v2) (Q_ldB (k := 0) (cs := [v2]) H.ok rfl ty23 J J rfl (fun _ => J) J) J J J <| gq (Q_len Tryz.underlying23 rfl r6) J J J <| gq (Q_lss J J) J J J <| nq (Q_pickF J J) J J <| qm J J ?_
    rcases Bool.eq_false_or_eq_true (decide ((x4.length : Int) < 1)) with hb | hb
    ·rw [hb]
     replace ho10 := itT hb ho10
     refine gs J J J J <| gs J J J J <| gs J J J J <| gs J J J J <| nq (Q_pickT J J) J J <| WL_nil ?_
     obtain rfl := oi ho10
     refine x_A fun a hf => ⟨true, J, hf.sub ⟨J, J, J, trivial⟩, H⟩
    ·rw [hb]
     replace ho10 := itF hb ho10
     refine gq (v := pV b9 1) (Q_fld Tryz.underlying29 rfl ty23 (by decide) J J) J J J <| gq (v := v2) (Q_ldB (k := 0) (cs := [v2]) H.ok rfl ty23 J J rfl (fun _ => J) J) J J J <| gq (Q_len Tryz.underlying23 rfl r6) J J J <| gq (Q_gtr J J) J J J <| nq (Q_pickF J J) J J <| WL_nil ?_
     obtain rfl := oi ho10
     refine x_A fun a hf => ⟨decide ((x4.length : Int) > 8), J, hf.sub ⟨J, J, J, trivial⟩, H⟩
 ·rintro a wd12 ⟨x11, rfl, hf, H⟩
  try dsimp only at hF
  refine CW.at hf ?_
  refine C_cond J (fun hb => ?_) (fun hb => ?_)
  ·replace hF := itT hb hF
   refine sr <| qa J J <| C_ret <| x_then_ret ?_
   replace H := H.e0
   obtain rfl := oi hF
   exact fn_ret (l := [.tmp 2]) (vs := [.bool false]) J J J ⟨false, J, J, H⟩
  ·replace hF := itF hb hF
   refine C_skip <| x_then <| C_seq <| sr <| nq (v := pV b9 1) (Q_fld Tryz.underlying29 rfl ty23 (by decide) J J) J J <| nq (v := v2) (Q_ldB (k := 0) (cs := [v2]) H.ok rfl ty23 J J rfl (fun _ => J) J) J J <| nq (Q_len Tryz.underlying23 rfl r6) J J <| qm J J <| WL_nil <| x_then ?_
   obtain ⟨o13, ho13, hF⟩ := bnd hF
   refine C_cutQ (fun a w' => .inl () = o13 ∧ Fr 99 a [(1, pV b9 0), (3, iV (x3.length : Int))] ∧ Hp C w' ρ (Box b9 [v1, v2] :: hs)) ?_ ?_
   ·refine C_block ?_
    refine C_iter (f := fun s => F_68 N x3 x4 s) ho13 (fun s a w' => ∃ (x14 : Int), x14 = s ∧ Fr 99 a [(1, pV b9 0), (3, iV (x3.length : Int)), (32, v2), (33, iV (x4.length : Int)), (34, iV x14)] ∧ Hp C w' ρ (Box b9 [v1, v2] :: hs)) ?_ ?_
    ·exact fun a hf => ⟨0, J, hf.sub ⟨J, J, J, J, J, trivial⟩, H⟩
    ·rintro s o15 a wd16 ⟨x14, rfl, hf, H⟩ hB17 hO18
     replace hB17 : F_68 N x3 x4 x14 = some o15 := hB17
     unfold F_68 at hB17
     refine CW.at hf <| sr <| nq (Q_lss J J) J J <| WL_nil <| x_then <| C_seq ?_
     refine C_cond J (fun hb => ?_) (fun hb => ?_)
     ·replace hB17 := itT hb hB17
      refine C_skip <| x_then <| C_seq <| C_block <| C_seq <| R_nd ?_
      obtain ⟨x19, hx19, hB17⟩ := bnd hB17
      obtain ⟨b20, o21, c22, hc23, ha24, hi25⟩ := idxR r6 hx19
      refine nq (Q_idx hi25 Tryz.underlying23 ty3 J J) J J <| nq (v := iV x19) (Q_ld (show cellsAt _ _ _ [iV x19] from (show _ = [_] from hc23) ▸ (ha24.up H.ok.view)) ty3 J (fun _ => J) J J) J J <| qa J J ?_
      obtain ⟨o26, ho26, hB17⟩ := bnd hB17
      refine C_cut (fun a w' => ∃ (x27 : Bool), x27 = o26 ∧ Fr 99 a [(1, pV b9 0), (3, iV (x3.length : Int)), (32, v2), (33, iV (x4.length : Int)), (34, iV x14), (44, .bool x27)] ∧ Hp C w' ρ (Box b9 [v1, v2] :: hs)) ?_ ?_
      ·refine R_nd <| qm J J <| nq (Q_lss J J) J J <| qm J J ?_
       rcases Bool.eq_false_or_eq_true (decide (x19 < 0)) with hb | hb
       ·rw [hb]
        replace ho26 := itT hb ho26
        refine gs J J J J <| gs J J J J <| gs J J J J <| nq (Q_pickT J J) J J <| WL_nil ?_
        obtain rfl := oi ho26
        refine x_A fun a hf => ⟨true, J, hf.sub ⟨J, J, J, J, J, J, trivial⟩, H⟩
       ·rw [hb]
        replace ho26 := itF hb ho26
        refine gq (Q_move J) J J J <| gq (Q_move J) J J J <| gq (Q_geq J J) J J J <| nq (Q_pickF J J) J J <| WL_nil ?_
        obtain rfl := oi ho26
        refine x_A fun a hf => ⟨decide (x19 ≥ (x3.length : Int)), J, hf.sub ⟨J, J, J, J, J, J, trivial⟩, H⟩
      ·rintro a wd28 ⟨x27, rfl, hf, H⟩
       try dsimp only at hB17
       refine CW.at hf ?_
       refine C_cond J (fun hb => ?_) (fun hb => ?_)
       ·replace hB17 := itT hb hB17
        refine sr <| qa J J <| C_ret <| x_block_ret <| x_then_ret <| x_then_ret <| x_block_ret <| x_then_ret <| x_then_ret ?_
        replace H := H.e0
        obtain rfl := oi hB17
        obtain rfl := hO18 _ rfl
        obtain rfl := oi (show some _ = some _ from hF)
        exact fn_ret (l := [.tmp 2]) (vs := [.bool false]) J J J ⟨false, J, J, H⟩
       ·replace hB17 := itF hb hB17
        refine C_skip <| x_block <| x_then <| R_nd <| nq (Q_add J J) J J <| qm J J <| WL_nil ?_
        obtain rfl := oi hB17
        refine x_A fun a hf => ⟨_, J, w64 (x14 + 1), J, hf.sub ⟨J, J, J, J, J, trivial⟩, H⟩
     ·replace hB17 := itF hb hB17
      refine C_exit <| x_then_exit <| x_then_exit <| x_block_exit ?_
      obtain rfl := oi hB17
      obtain rfl := hO18 _ rfl
      refine x_A fun a hf => ⟨J, hf.sub ⟨J, J, trivial⟩, H⟩
   ·rintro a wd29 ⟨rfl, hf, H⟩
    try dsimp only at hF
    refine XX.at hf <| x_then <| C_seq <| sr <| nq (v := pV b9 0) (Q_fld Tryz.underlying29 rfl ty27 (by decide) J J) J J <| nq (v := v1) (Q_ldB (k := 0) (cs := [v1]) H.ok rfl ty27 J J rfl (fun _ => J) J) J J <| nq (Q_len Tryz.underlying27 rfl r5) J J <| qm J J <| WL_nil <| x_then ?_
    obtain ⟨o30, ho30, hF⟩ := bnd hF
    refine C_cutQ (fun a w' => .inl () = o30 ∧ Fr 99 a [] ∧ Hp C w' ρ (hs)) ?_ ?_
    ·refine C_block ?_
     replace H := H.e0
     refine C_iter (f := fun s => F_69 N x3 s) ho30 (fun s a w' => ∃ (x31 : Int), x31 = s ∧ Fr 99 a [(3, iV (x3.length : Int)), (47, v1), (48, iV (x3.length : Int)), (49, iV x31)] ∧ Hp C w' ρ (hs)) ?_ ?_
     ·exact fun a hf => ⟨0, J, hf.sub ⟨J, J, J, J, trivial⟩, H⟩
     ·rintro s o32 a wd33 ⟨x31, rfl, hf, H⟩ hB34 hO35
      replace hB34 : F_69 N x3 x31 = some o32 := hB34
      unfold F_69 at hB34
      refine CW.at hf <| sr <| nq (Q_lss J J) J J <| WL_nil <| x_then <| C_seq ?_
      refine C_cond J (fun hb => ?_) (fun hb => ?_)
      ·replace hB34 := itT hb hB34
       refine C_skip <| x_then <| C_seq <| C_block <| C_seq <| R_nd ?_
       obtain ⟨x36, hx36, hB34⟩ := bnd hB34
       obtain ⟨b37, o38, c39, hc40, ha41, hi42⟩ := idxR r5 hx36
       refine nq (Q_idx hi42 Tryz.underlying27 ty126 J J) J J ?_
       obtain ⟨c43, c44, he45, hc46, hc47⟩ := (id hc40)
       obtain ⟨v48, he49, r50⟩ := hc46
       obtain ⟨c51, c52, he53, hc54, hc55⟩ := hc47
       obtain ⟨c56, c57, he58, hc59, hc60⟩ := hc54
       obtain ⟨c61, c62, he63, hc64, hc65⟩ := hc60
       obtain ⟨c66, c67, he68, hc69, hc70⟩ := hc65
       obtain ⟨c71, c72, he73, hc74, hc75⟩ := hc55
       refine nq (v := .agg #[v48, uV x36.2.1.1, uV x36.2.1.2.1, uV x36.2.1.2.2.1, uV x36.2.1.2.2.2, iV x36.2.2.1, iV x36.2.2.2]) (Q_ld (show cellsAt _ _ _ [v48, uV x36.2.1.1, uV x36.2.1.2.1, uV x36.2.1.2.2.1, uV x36.2.1.2.2.2, iV x36.2.2.1, iV x36.2.2.2] from cellsAt.cg (cat2 he45 he49 (cat2 he53 (cat2 he58 (rdI hc59) (cat2 he63 (rdI hc64) (cat2 he68 (rdI hc69) (rdI hc70)))) (cat2 he73 (rdI hc74) (rdI hc75)))) (ha41.up H.ok.view)) ty126 J (fun h => nomatch h) J J) J J <| ne (E_alloc H ty126 (zs := [.slice none 0 0, uV 0, uV 0, uV 0, uV 0, iV 0, iV 0]) J) J J ?_
       rintro _ wd76 ⟨b77, rfl, H⟩
       refine ne (E_stB (k := 0) (cs := [v48, uV x36.2.1.1, uV x36.2.1.2.1, uV x36.2.1.2.2.1, uV x36.2.1.2.2.2, iV x36.2.2.1, iV x36.2.2.2]) (vs' := [v48, uV x36.2.1.1, uV x36.2.1.2.1, uV x36.2.1.2.2.1, uV x36.2.1.2.2.2, iV x36.2.2.1, iV x36.2.2.2]) H rfl ty126 J J J rfl (one_cons (RdSl.one r50) (one_cons rfl (one_cons rfl (one_cons rfl (one_cons rfl (one_cons rfl (one_cons rfl one_nil))))))) (by simp) J) J J ?_
       rintro _ wd78 H
       dsimp only [List.set] at H
       refine WL_nil <| x_then <| C_seq ?_
       obtain ⟨o79, ho79, hB34⟩ := bnd hB34
       refine C_cut (fun a w' => ∃ (x80 : Bool), x80 = o79 ∧ Fr 99 a [(3, iV (x3.length : Int)), (7, pV b77 0), (47, v1), (48, iV (x3.length : Int)), (49, iV x31), (82, .bool x80)] ∧ Hp C w' ρ (Box b77 [v48, uV x36.2.1.1, uV x36.2.1.2.1, uV x36.2.1.2.2.1, uV x36.2.1.2.2.2, iV x36.2.2.1, iV x36.2.2.2] :: hs)) ?_ ?_
       ·refine R_nd <| nq (v := pV b77 5) (Q_fld Tryz.underlying126 rfl ty3 (by decide) J J) J J <| nq (v := iV x36.2.2.1) (Q_ldB (k := 0) (cs := [iV x36.2.2.1]) H.ok rfl ty3 J J rfl (fun _ => J) J) J J <| nq (Q_lss J J) J J <| qm J J ?_
        rcases Bool.eq_false_or_eq_true (decide (x36.2.2.1 < (-1))) with hb | hb
        ·rw [hb]
         replace ho79 := itT hb ho79
         refine gs J J J J <| gs J J J J <| gs J J J J <| gs J J J J <| nq (Q_pickT J J) J J <| qm J J <| gs J J J J <| gs J J J J <| gs J J J J <| nq (Q_pickT J J) J J <| qm J J <| gs J J J J <| gs J J J J <| gs J J J J ?_
         refine nq (Q_pickT J J) J J <| qm J J <| gs J J J J <| gs J J J J <| gs J J J J <| gs J J J J <| gsu J ⟨_, _, J, J, J⟩ J <| gsu J ⟨_, _, J, J, J⟩ J <| gsu J ⟨_, _, J, J, J⟩ J <| gsu J ⟨_, _, J, J, J⟩ J <| gs J J J J <| nq (Q_pickT J J) J J <| WL_nil ?_
         obtain rfl := oi ho79
         refine x_A fun a hf => ⟨true, J, hf.sub ⟨J, J, J, J, J, J, trivial⟩, H⟩
        ·rw [hb]
         replace ho79 := itF hb ho79
         refine gq (v := pV b77 5) (Q_fld Tryz.underlying126 rfl ty3 (by decide) J J) J J J <| gq (v := iV x36.2.2.1) (Q_ldB (k := 0) (cs := [iV x36.2.2.1]) H.ok rfl ty3 J J rfl (fun _ => J) J) J J J <| gq (Q_move J) J J J <| gq (Q_geq J J) J J J <| nq (Q_pickF J J) J J <| qm J J ?_
         rcases Bool.eq_false_or_eq_true (decide (x36.2.2.1 ≥ (x3.length : Int))) with hb | hb
         ·rw [hb]
          replace ho79 := itT hb ho79
          refine gs J J J J <| gs J J J J <| gs J J J J <| nq (Q_pickT J J) J J <| qm J J <| gs J J J J <| gs J J J J <| gs J J J J <| nq (Q_pickT J J) J J <| qm J J <| gs J J J J <| gs J J J J <| gs J J J J <| gs J J J J ?_
          refine gsu J ⟨_, _, J, J, J⟩ J <| gsu J ⟨_, _, J, J, J⟩ J <| gsu J ⟨_, _, J, J, J⟩ J <| gsu J ⟨_, _, J, J, J⟩ J <| gs J J J J <| nq (Q_pickT J J) J J <| WL_nil ?_
          obtain rfl := oi ho79
          refine x_A fun a hf => ⟨true, J, hf.sub ⟨J, J, J, J, J, J, trivial⟩, H⟩
         ·rw [hb]
          replace ho79 := itF hb ho79
          refine gq (v := pV b77 6) (Q_fld Tryz.underlying126 rfl ty3 (by decide) J J) J J J <| gq (v := iV x36.2.2.2) (Q_ldB (k := 0) (cs := [iV x36.2.2.2]) H.ok rfl ty3 J J rfl (fun _ => J) J) J J J <| gq (Q_lss J J) J J J <| nq (Q_pickF J J) J J <| qm J J ?_
          rcases Bool.eq_false_or_eq_true (decide (x36.2.2.2 < (-1))) with hb | hb
          ·rw [hb]
           replace ho79 := itT hb ho79
           refine gs J J J J <| gs J J J J <| gs J J J J <| nq (Q_pickT J J) J J <| qm J J <| gs J J J J <| gs J J J J <| gs J J J J <| gs J J J J <| gsu J ⟨_, _, J, J, J⟩ J <| gsu J ⟨_, _, J, J, J⟩ J <| gsu J ⟨_, _, J, J, J⟩ J <| gsu J ⟨_, _, J, J, J⟩ J <| gs J J J J ?_
           refine nq (Q_pickT J J) J J <| WL_nil ?_
           obtain rfl := oi ho79
           refine x_A fun a hf => ⟨true, J, hf.sub ⟨J, J, J, J, J, J, trivial⟩, H⟩
          ·rw [hb]
           replace ho79 := itF hb ho79
           refine gq (v := pV b77 6) (Q_fld Tryz.underlying126 rfl ty3 (by decide) J J) J J J <| gq (v := iV x36.2.2.2) (Q_ldB (k := 0) (cs := [iV x36.2.2.2]) H.ok rfl ty3 J J rfl (fun _ => J) J) J J J <| gq (Q_gtr J J) J J J <| nq (Q_pickF J J) J J <| qm J J ?_
           rcases Bool.eq_false_or_eq_true (decide (x36.2.2.2 > 47)) with hb | hb
           ·rw [hb]
            replace ho79 := itT hb ho79
            refine gs J J J J <| gs J J J J <| gs J J J J <| gs J J J J <| gsu J ⟨_, _, J, J, J⟩ J <| gsu J ⟨_, _, J, J, J⟩ J <| gsu J ⟨_, _, J, J, J⟩ J <| gsu J ⟨_, _, J, J, J⟩ J <| gs J J J J <| nq (Q_pickT J J) J J <| WL_nil ?_
            obtain rfl := oi ho79
            refine x_A fun a hf => ⟨true, J, hf.sub ⟨J, J, J, J, J, J, trivial⟩, H⟩
           ·rw [hb]
            replace ho79 := itF hb ho79
            refine gq (v := pV b77 5) (Q_fld Tryz.underlying126 rfl ty3 (by decide) J J) J J J <| gq (v := iV x36.2.2.1) (Q_ldB (k := 0) (cs := [iV x36.2.2.1]) H.ok rfl ty3 J J rfl (fun _ => J) J) J J J <| gq (Q_eql J J) J J J <| gq (Q_move J) J J J ?_
            rcases Bool.eq_false_or_eq_true (x36.2.2.1 == (-1)) with hb | hb
            ·rw [hb]
             replace ho79 := itT hb ho79
             refine gq (v := pV b77 1) (Q_fld Tryz.underlying126 rfl ty38 (by decide) J J) J J J <| gq (v := .agg #[uV x36.2.1.1, uV x36.2.1.2.1, uV x36.2.1.2.2.1, uV x36.2.1.2.2.2]) (Q_ldB (k := 0) (cs := [uV x36.2.1.1, uV x36.2.1.2.1, uV x36.2.1.2.2.1, uV x36.2.1.2.2.2]) H.ok rfl ty38 J J rfl (fun h => nomatch h) J) J J J <| gq (v := .agg #[uV 0, uV 0, uV 0, uV 0]) (Q_build0 (zs := [uV 0, uV 0, uV 0, uV 0]) ty38 Tryz.underlying38 ty37 J) J J J <| gq (v := .bool (([x36.2.1.1, x36.2.1.2.1, x36.2.1.2.2.1, x36.2.1.2.2.2] : List Int) != ([0, 0, 0, 0] : List Int))) (Q_neqA (xs := ([x36.2.1.1, x36.2.1.2.1, x36.2.1.2.2.1, x36.2.1.2.2.2] : List Int)) (ys := ([0, 0, 0, 0] : List Int)) Tryz.underlying38 ty37 (by kernel_rfl) Tryz.underlying37 (rdL_ints .u64 ρ ([x36.2.1.1, x36.2.1.2.1, x36.2.1.2.2.1, x36.2.1.2.2.2] : List Int)) rfl (rdL_ints .u64 ρ ([0, 0, 0, 0] : List Int)) J J J) J J J <| gq (Q_pickT J J) J J J <| nq (Q_pickF J J) J J <| WL_nil ?_
             obtain rfl := oi ho79
             refine x_A fun a hf => ⟨([x36.2.1.1, x36.2.1.2.1, x36.2.1.2.2.1, x36.2.1.2.2.2] : List Int) != ([0, 0, 0, 0] : List Int), J, hf.sub ⟨J, J, J, J, J, J, trivial⟩, H⟩
            ·rw [hb]
             replace ho79 := itF hb ho79
             refine gs J J J J <| gs J J J J <| gs J J J J <| gs J J J J <| gq (Q_pickF J J) J J J <| nq (Q_pickF J J) J J <| WL_nil ?_
             obtain rfl := oi ho79
             refine x_A fun a hf => ⟨false, J, hf.sub ⟨J, J, J, J, J, J, trivial⟩, H⟩
       ·rintro a wd81 ⟨x80, rfl, hf, H⟩
        try dsimp only at hB34
        refine CW.at hf ?_
        refine C_cond J (fun hb => ?_) (fun hb => ?_)
        ·replace hB34 := itT hb hB34
         refine sr <| qa J J <| C_ret <| x_then_ret <| x_block_ret <| x_then_ret <| x_then_ret <| x_block_ret <| x_then_ret <| x_then_ret ?_
         replace H := H.e0
         obtain rfl := oi hB34
         obtain rfl := hO35 _ rfl
         obtain rfl := oi (show some _ = some _ from hF)
         exact fn_ret (l := [.tmp 2]) (vs := [.bool false]) J J J ⟨false, J, J, H⟩
        ·replace hB34 := itF hb hB34
         refine C_skip <| xs <| nq (v := pV b77 0) (Q_fld Tryz.underlying126 rfl ty23 (by decide) J J) J J <| nq (v := v48) (Q_ldB (k := 0) (cs := [v48]) H.ok rfl ty23 J J rfl (fun _ => J) J) J J <| nq (Q_len Tryz.underlying23 rfl r50) J J <| qm J J <| WL_nil <| x_then ?_
         obtain ⟨o82, ho82, hB34⟩ := bnd hB34
         refine C_cutQ (fun a w' => .inl () = o82 ∧ Fr 99 a [(3, iV (x3.length : Int)), (47, v1), (48, iV (x3.length : Int)), (49, iV x31)] ∧ Hp C w' ρ (hs)) ?_ ?_
         ·refine C_block ?_
          replace H := H.e0
          refine C_iter (f := fun s => F_70 N x3 x36 s) ho82 (fun s a w' => ∃ (x83 : Int), x83 = s ∧ Fr 99 a [(3, iV (x3.length : Int)), (47, v1), (48, iV (x3.length : Int)), (49, iV x31), (84, v48), (85, iV (x36.1.length : Int)), (86, iV x83)] ∧ Hp C w' ρ (hs)) ?_ ?_
          ·exact fun a hf => ⟨0, J, hf.sub ⟨J, J, J, J, J, J, J, trivial⟩, H⟩
          ·rintro s o84 a wd85 ⟨x83, rfl, hf, H⟩ hB86 hO87
           replace hB86 : F_70 N x3 x36 x83 = some o84 := hB86
           unfold F_70 at hB86
           refine CW.at hf <| sr <| nq (Q_lss J J) J J <| WL_nil <| x_then <| C_seq ?_
           refine C_cond J (fun hb => ?_) (fun hb => ?_)
           ·replace hB86 := itT hb hB86
            refine C_skip <| x_then <| C_seq <| C_block <| C_seq <| R_nd ?_
            obtain ⟨x88, hx88, hB86⟩ := bnd hB86
            obtain ⟨b89, o90, c91, hc92, ha93, hi94⟩ := idxR r50 hx88
            refine nq (Q_idx hi94 Tryz.underlying23 ty3 J J) J J <| nq (v := iV x88) (Q_ld (show cellsAt _ _ _ [iV x88] from (show _ = [_] from hc92) ▸ (ha93.up H.ok.view)) ty3 J (fun _ => J) J J) J J <| qa J J ?_
            obtain ⟨o95, ho95, hB86⟩ := bnd hB86
            refine C_cut (fun a w' => ∃ (x96 : Bool), x96 = o95 ∧ Fr 99 a [(3, iV (x3.length : Int)), (47, v1), (48, iV (x3.length : Int)), (49, iV x31), (84, v48), (85, iV (x36.1.length : Int)), (86, iV x83), (96, .bool x96)] ∧ Hp C w' ρ (hs)) ?_ ?_
            ·refine R_nd <| qm J J <| nq (Q_lss J J) J J <| qm J J ?_
             rcases Bool.eq_false_or_eq_true (decide (x88 < 0)) with hb | hb
             ·rw [hb]
              replace ho95 := itT hb ho95
              refine gs J J J J <| gs J J J J <| gs J J J J <| nq (Q_pickT J J) J J <| WL_nil ?_
              obtain rfl := oi ho95
              refine x_A fun a hf => ⟨true, J, hf.sub ⟨J, J, J, J, J, J, J, J, trivial⟩, H⟩
             ·rw [hb]
              replace ho95 := itF hb ho95
              refine gq (Q_move J) J J J <| gq (Q_move J) J J J <| gq (Q_geq J J) J J J <| nq (Q_pickF J J) J J <| WL_nil ?_
              obtain rfl := oi ho95
              refine x_A fun a hf => ⟨decide (x88 ≥ (x3.length : Int)), J, hf.sub ⟨J, J, J, J, J, J, J, J, trivial⟩, H⟩
            ·rintro a wd97 ⟨x96, rfl, hf, H⟩
             try dsimp only at hB86
             refine CW.at hf ?_
             refine C_cond J (fun hb => ?_) (fun hb => ?_)
             ·replace hB86 := itT hb hB86
              refine sr <| qa J J <| C_ret <| x_block_ret <| x_then_ret <| x_then_ret <| x_block_ret <| x_then_ret <| x_block_ret <| x_then_ret <| x_then_ret ?_
              refine x_block_ret <| x_then_ret <| x_then_ret ?_
              obtain rfl := oi hB86
              obtain rfl := hO87 _ rfl
              obtain rfl := oi (show some _ = some _ from hB34)
              obtain rfl := hO35 _ rfl
              obtain rfl := oi (show some _ = some _ from hF)
              exact fn_ret (l := [.tmp 2]) (vs := [.bool false]) J J J ⟨false, J, J, H⟩
             ·replace hB86 := itF hb hB86
              refine C_skip <| x_block <| x_then <| R_nd <| nq (Q_add J J) J J <| qm J J <| WL_nil ?_
              obtain rfl := oi hB86
              refine x_A fun a hf => ⟨_, J, w64 (x83 + 1), J, hf.sub ⟨J, J, J, J, J, J, J, trivial⟩, H⟩
           ·replace hB86 := itF hb hB86
            refine C_exit <| x_then_exit <| x_then_exit <| x_block_exit ?_
            obtain rfl := oi hB86
            obtain rfl := hO87 _ rfl
            refine x_A fun a hf => ⟨J, hf.sub ⟨J, J, J, J, trivial⟩, H⟩
         ·rintro a wd98 ⟨rfl, hf, H⟩
          try dsimp only at hB34
          refine XX.at hf <| x_block <| x_then <| R_nd <| nq (Q_add J J) J J <| qm J J <| WL_nil ?_
          obtain rfl := oi hB34
          refine x_A fun a hf => ⟨_, J, w64 (x31 + 1), J, hf.sub ⟨J, J, J, J, trivial⟩, H⟩
      ·replace hB34 := itF hb hB34
       refine C_exit <| x_then_exit <| x_then_exit <| x_block_exit ?_
       obtain rfl := oi hB34
       obtain rfl := hO35 _ rfl
       refine x_A fun a hf => ⟨J, hf.sub trivial, H⟩
    ·rintro a wd99 ⟨rfl, hf, H⟩
     try dsimp only at hF
     refine XX.at hf <| xs <| qa J J <| C_ret ?_
     obtain rfl := oi hF
     exact fn_ret (l := [.tmp 2]) (vs := [.bool true]) J J J ⟨true, J, J, H⟩
theorem c_28 {N : Nat} {C : Cx} {w : World} {ρ : View} {hs : List Hl} {gV : Nat → Value} {x1 : Int} (H : Hp C w ρ (hs)) (gle : GErrs ρ 394 errIds gV) {r : (Unit ⊕ (List Int))} (hF : F_88 N x1 = some r) :
  Calls Tryz.prog 28 [iV x1].toArray w (Rets (fun v w' => (.inl () = r ∧ .tuple [.pointer none, errV errIds gV 1].toArray = v ∧ Hp C w' ρ (hs)) ∨ (∃ (b2 : Nat) (v3 : Value) (c4 : (List Value)) (x5 : (List Int)), .inr x5 = r ∧ .tuple [pV b2 0, errV errIds gV 0].toArray = v ∧ rdL (eI .u64) ρ x5 c4 ∧ Hp C w' ρ (Box b2 [v3, iV x1] :: Arr v3 1 c4 :: hs)))) := by
 unfold F_88 at hF
 have h0 : Tryz.f28.body = some _ := rfl
 refine fn_calls' Tryz.func28 h0 (n := 19) rfl (by simp) <| sr <| nq (Q_assign J) J J <| qa J J <| C_seq ?_
 obtain ⟨o6, ho6, hF⟩ := bnd hF
 refine C_cut (fun a w' => ∃ (x7 : Bool), x7 = o6 ∧ Fr 19 a [(0, iV x1), (9, .bool x7)] ∧ Hp C w' ρ (hs)) ?_ ?_
 ·refine R_nd <| qm J J <| nq (Q_lss J J) J J <| qm J J ?_
  rcases Bool.eq_false_or_eq_true (decide (x1 < 0)) with hb | hb
  ·rw [hb]
   replace ho6 := itT hb ho6
   refine gs J J J J <| gs J J J J <| nq (Q_pickT J J) J J <| WL_nil ?_
   obtain rfl := oi ho6
   refine x_A fun a hf => ⟨true, J, hf.sub ⟨J, J, trivial⟩, H⟩
  ·rw [hb]
   replace ho6 := itF hb ho6
   refine gq (Q_move J) J J J <| gq (Q_gtr J J) J J J <| nq (Q_pickF J J) J J <| WL_nil ?_
   obtain rfl := oi ho6
   refine x_A fun a hf => ⟨decide (x1 > 65536), J, hf.sub ⟨J, J, trivial⟩, H⟩
 ·rintro a wd8 ⟨x7, rfl, hf, H⟩
  try dsimp only at hF
  refine CW.at hf ?_
  refine C_cond J (fun hb => ?_) (fun hb => ?_)
  ·replace hF := itT hb hF
   refine C_seq <| H.dr (.take 0 (.take 1 (.take 2 .done))) none hm0 (by kernel_rfl) ?_
   replace H := H.drew
   refine dq (v := errV errIds gV 1) rfl (fun _ hw => Q_ldV hw gle (by decide) ty53) J J <| dq rfl (fun _ _ => Q_assign J) J J <| dq rfl (fun _ _ => Q_assign J) J J <| DL_nil <| x_then <| C_ret <| x_then_ret ?_
   obtain rfl := oi hF
   exact fn_ret (l := [.tmp 2, .tmp 3]) (vs := [.pointer none, errV errIds gV 1]) J J J (.inl ⟨J, J, H⟩)
  ·replace hF := itF hb hF
   refine C_skip <| xs <| qm J J <| nq (Q_add J J) J J <| nq (Q_sub J J) J J <| nq (Q_quo J rfl (by decide)) J J ?_
   obtain ⟨x9, hx9, hF⟩ := bnd hF
   obtain ⟨hm21a, hm21b, hm21c⟩ := mk_some hx9
   refine ne (E_make H Tryz.underlying137 ty37 (zs := [uV 0]) J rfl (by decide) (by decide) rfl hm21a hm21b) J J ?_
   rintro _ wd10 ⟨b11, rfl, H⟩
   refine qm J J <| nq (v := .agg #[(.slice (some ⟨b11, 0, none⟩) (w64 ((w64 ((w64 (x1 + 64)) - 1)).tdiv 64)).toNat (w64 ((w64 ((w64 (x1 + 64)) - 1)).tdiv 64)).toNat), iV x1]) (Q_buildS st139.choose_spec (ps := [(0, [(.slice (some ⟨b11, 0, none⟩) (w64 ((w64 ((w64 (x1 + 64)) - 1)).tdiv 64)).toNat (w64 ((w64 ((w64 (x1 + 64)) - 1)).tdiv 64)).toNat)]), (1, [iV x1])]) rfl ⟨rfl, (arr_cells (H.ok.get (k := 0) rfl)).1, by simp, ⟨rfl, rfl, by simp, trivial⟩⟩ J) J J <| ne (E_box H (vs := [(.slice (some ⟨b11, 0, none⟩) (w64 ((w64 ((w64 (x1 + 64)) - 1)).tdiv 64)).toNat (w64 ((w64 ((w64 (x1 + 64)) - 1)).tdiv 64)).toNat), iV x1]) J J) J J ?_
   rintro _ wd12 ⟨b13, rfl, H⟩
   refine nq (Q_assign J) J J <| qa J J <| C_ret ?_
   obtain rfl := oi hF
   exact fn_ret (l := [.tmp 2, .tmp 3]) (vs := [pV b13 0, errV errIds gV 0]) J J J (.inr ⟨b13, (.slice (some ⟨b11, 0, none⟩) (w64 ((w64 ((w64 (x1 + 64)) - 1)).tdiv 64)).toNat (w64 ((w64 ((w64 (x1 + 64)) - 1)).tdiv 64)).toNat), (repC (w64 ((w64 ((w64 (x1 + 64)) - 1)).tdiv 64)).toNat [uV 0]), x9, J, J, (hm21c ▸ rdL_rep (e := (eI .u64)) (ρ := ρ) (J) _), H⟩)
theorem c_87 {N : Nat} {C : Cx} {w : World} {ρ : View} {hs : List Hl} {gV : Nat → Value} {b1 : Nat} {c2 : List Value} {v3 : Value} {x4 : (List Int)} {x5 : Int} (H : Hp C w ρ (Box b1 [v3, iV x5] :: Arr v3 1 c2 :: hs)) (_gle : GErrs ρ 394 errIds gV) (_r4 : rdL (eI .u64) ρ x4 c2) {r : Unit} (hF : F_34 N x4 x5 = some r) :
  Calls Tryz.prog 87 [pV b1 0].toArray w (Rets (fun v w' => (() = r ∧ iV x5 = v ∧ Hp C w' ρ (Box b1 [v3, iV x5] :: Arr v3 1 c2 :: hs)))) := by
 unfold F_34 at hF
 have h0 : Tryz.f87.body = some _ := rfl
 refine fn_calls' Tryz.func87 h0 (n := 9) rfl (by simp) <| sr <| qa J J <| C_seq <| sr <| qm J J <| nq (v := .bool false) (Q_eqlP (o := (some ⟨b1, 0, none⟩)) Tryz.underlying51 J) J J <| WL_nil <| x_then ?_
 refine C_cond J (fun h => nomatch h) (fun _ => ?_)
 refine C_skip <| xs <| qm J J <| nq (Q_nilP J) J J <| nq (v := pV b1 1) (Q_fld Tryz.underlying139 rfl ty3 (by decide) J J) J J <| nq (v := iV x5) (Q_ldB (k := 0) (cs := [iV x5]) H.ok rfl ty3 J J rfl (fun _ => J) J) J J <| qa J J <| C_ret ?_
 obtain rfl := oi hF
 exact fn_ret (l := [.tmp 2]) (vs := [iV x5]) J J J ⟨J, J, H⟩
theorem c_81 {N : Nat} {C : Cx} {w : World} {ρ : View} {hs : List Hl} {gV : Nat → Value} {b1 : Nat} {c2 : List Value} {v3 : Value} {x4 : (List Int)} {x5 : Int} {x6 : Int} (H : Hp C w ρ (Box b1 [v3, iV x5] :: Arr v3 1 c2 :: hs)) (gle : GErrs ρ 394 errIds gV) (r7 : rdL (eI .u64) ρ x4 c2) {r : (Int × Int × Bool)} (hF : F_87 N x4 x5 x6 = some r) :
  Calls Tryz.prog 81 [pV b1 0, iV x6].toArray w (Rets (fun v w' => (∃ (x8 : Int) (x9 : Int) (x10 : Bool), (x8, x9, x10) = r ∧ .tuple [iV x8, uV x9, .bool x10].toArray = v ∧ Hp C w' ρ (Box b1 [v3, iV x5] :: Arr v3 1 c2 :: hs)))) := by
 unfold F_87 at hF
 have h0 : Tryz.f81.body = some _ := rfl
 refine fn_calls' Tryz.func81 h0 (n := 21) rfl (by simp) <| sr <| nq (Q_assign J) J J <| nq (Q_assign J) J J <| qa J J ?_
 obtain ⟨o11, ho11, hF⟩ := bnd hF
 refine C_cut (fun a w' => ∃ (x12 : Int) (x13 : Int) (x14 : Bool), (x12, x13, x14) = o11 ∧ Fr 21 a [(4, iV x12), (5, uV x13), (6, .bool x14)] ∧ Hp C w' ρ (Box b1 [v3, iV x5] :: Arr v3 1 c2 :: hs)) ?_ ?_
 ·refine R_nd <| qm J J <| nq (Q_quo J rfl (by decide)) J J <| qm J J <| nq (Q_cvI ⟨_, Tryz.underlying3⟩ Tryz.underlying143 J) J J <| nq (Q_rem J rfl (by decide)) J J ?_
  obtain ⟨x15, hx15, ho11⟩ := bnd ho11
  refine nq (Q_shl J J (nn_some hx15)) J J <| qm J J <| nq (Q_geq J J) J J <| qm J J ?_
  rcases Bool.eq_false_or_eq_true (decide (x6 ≥ 0)) with hb | hb
  ·rw [hb]
   replace ho11 := itT hb ho11
   refine gq (Q_move J) J J J <| gq (Q_move J) J J J ?_
   obtain ⟨q16, hq16, ho11⟩ := bnd ho11
   refine ge (E_call fn87 J (c_87 H gle  r7 hq16)) J J J ?_
   rintro _ wd17 ⟨rfl, rfl, H⟩
   try dsimp only at ho11
   refine gq (Q_lss J J) J J J <| nq (Q_pickT J J) J J <| nq (Q_assign J) J J <| nq (Q_assign J) J J <| nq (Q_assign J) J J <| WL_nil ?_
   obtain rfl := oi ho11
   refine x_A fun a hf => ⟨w64 (x6.tdiv 64), shlI .u64 1 ((IntKind.wrap .u64 x6).tmod 64), decide (x6 < x5), J, hf.sub ⟨J, J, J, trivial⟩, H⟩
  ·rw [hb]
   replace ho11 := itF hb ho11
   refine gs J J J J <| gs J J J J <| gs J J J J <| gs J J J J <| nq (Q_pickF J J) J J <| nq (Q_assign J) J J <| nq (Q_assign J) J J <| nq (Q_assign J) J J <| WL_nil ?_
   obtain rfl := oi ho11
   refine x_A fun a hf => ⟨w64 (x6.tdiv 64), shlI .u64 1 ((IntKind.wrap .u64 x6).tmod 64), false, J, hf.sub ⟨J, J, J, trivial⟩, H⟩
 ·rintro a wd18 ⟨x12, x13, x14, rfl, hf, H⟩
  try dsimp only at hF
  refine CW.at hf <| C_ret ?_
  obtain rfl := oi hF
  exact fn_ret (l := [.tmp 4, .tmp 5, .tmp 6]) (vs := [iV x12, uV x13, .bool x14]) J J J ⟨x12, x13, x14, J, J, H⟩
theorem c_29 {N : Nat} {C : Cx} {w : World} {ρ : View} {hs : List Hl} {gV : Nat → Value} {b1 : Nat} {c2 : List Value} {v3 : Value} {x4 : (List Int)} {x5 : Int} {x6 : Int} (H : Hp C w ρ (Box b1 [v3, iV x5] :: Arr v3 1 c2 :: hs)) (gle : GErrs ρ 394 errIds gV) (r7 : rdL (eI .u64) ρ x4 c2) {r : ((List Int) × Bool)} (hF : F_86 N x4 x5 x6 = some r) :
  Calls Tryz.prog 29 [pV b1 0, iV x6].toArray w (Rets (fun v w' => (∃ (c8 : (List Value)) (x9 : (List Int)) (x10 : Bool), (x9, x10) = r ∧ .bool x10 = v ∧ rdL (eI .u64) ρ x9 c8 ∧ Hp C w' ρ (Box b1 [v3, iV x5] :: Arr v3 1 c8 :: hs)))) := by
 unfold F_86 at hF
 have h0 : Tryz.f29.body = some _ := rfl
 refine fn_calls' Tryz.func29 h0 (n := 39) rfl (by simp) <| sr <| qa J J <| sr <| qm J J <| qm J J ?_
 obtain ⟨q11, hq11, hF⟩ := bnd hF
 refine ne (E_call fn81 J (c_81 H gle  r7 hq11)) J J ?_
 rintro _ wd12 ⟨x13, x14, x15, rfl, rfl, H⟩
 try dsimp only at hF
 refine qm J J <| nq (Q_extract J J) J J <| nq (Q_extract J J) J J <| nq (Q_extract J J) J J <| nq (Q_assign J) J J <| nq (Q_assign J) J J <| qa J J <| C_seq ?_
 obtain ⟨o16, ho16, hF⟩ := bnd hF
 refine C_cut (fun a w' => ∃ (x17 : Bool), x17 = o16 ∧ Fr 39 a [(0, pV b1 0), (5, iV x13), (6, uV x14), (28, .bool x17)] ∧ Hp C w' ρ (Box b1 [v3, iV x5] :: Arr v3 1 c2 :: hs)) ?_ ?_
 ·refine R_nd <| qm J J <| nq (Q_not J) J J <| qm J J ?_
  rcases Bool.eq_false_or_eq_true (!x15) with hb | hb
  ·rw [hb]
   replace ho16 := itT hb ho16
   refine gs J J J J <| gs J J J J <| gs J J J J <| gs J J J J <| gs J J J J <| gs J J J J <| gs J J J J <| gs J J J J <| gs J J J J <| gs J J J J <| nq (Q_pickT J J) J J <| WL_nil ?_
   obtain rfl := oi ho16
   refine x_A fun a hf => ⟨true, J, hf.sub ⟨J, J, J, J, trivial⟩, H⟩
  ·rw [hb]
   replace ho16 := itF hb ho16
   refine gq (Q_move J) J J J <| gq (Q_nilP J) J J J <| gq (v := pV b1 0) (Q_fld Tryz.underlying139 rfl ty137 (by decide) J J) J J J <| gq (v := v3) (Q_ldB (k := 0) (cs := [v3]) H.ok rfl ty137 J J rfl (fun _ => J) J) J J J <| gq (Q_move J) J J J ?_
   obtain ⟨x18, hx18, ho16⟩ := bnd ho16
   obtain ⟨b19, o20, hi21, hc22, ha23⟩ := arr_at (hs := [Arr v3 1 c2]) (k := 0) (by decide) (H.okS (by simp)) rfl r7 hx18
   refine gq (Q_idx hi21 Tryz.underlying137 ty37 J J) J J J <| gq (v := uV x18) (Q_ld (show cellsAt _ _ _ [uV x18] from (show _ = [_] from hc22) ▸ (ha23 _ (Ok.subS (by simp) H.ok))) ty37 rfl (fun _ => J) J J) J J J <| gq (Q_move J) J J J <| gq (Q_and J J) J J J <| gq (Q_neq J J) J J J <| nq (Q_pickF J J) J J <| WL_nil ?_
   obtain rfl := oi ho16
   refine x_A fun a hf => ⟨(iand .u64 x18 x14) != 0, J, hf.sub ⟨J, J, J, J, trivial⟩, H⟩
 ·rintro a wd24 ⟨x17, rfl, hf, H⟩
  try dsimp only at hF
  refine CW.at hf ?_
  refine C_cond J (fun hb => ?_) (fun hb => ?_)
  ·replace hF := itT hb hF
   refine sr <| qa J J <| C_ret <| x_then_ret ?_
   obtain rfl := oi hF
   exact fn_ret (l := [.tmp 4]) (vs := [.bool false]) J J J ⟨c2, x4, false, J, J, r7, H⟩
  ·replace hF := itF hb hF
   refine C_skip <| xs <| qm J J <| nq (Q_nilP J) J J <| nq (v := pV b1 0) (Q_fld Tryz.underlying139 rfl ty137 (by decide) J J) J J <| nq (v := v3) (Q_ldB (k := 0) (cs := [v3]) H.ok rfl ty137 J J rfl (fun _ => J) J) J J <| qm J J ?_
   obtain ⟨x25, hx25, hF⟩ := bnd hF
   obtain ⟨b26, o27, hi28, hc29, ha30⟩ := arr_at (hs := [Arr v3 1 c2]) (k := 0) (by decide) (H.okS (by simp)) rfl r7 hx25
   refine nq (Q_idx hi28 Tryz.underlying137 ty37 J J) J J <| nq (v := uV x25) (Q_ld (show cellsAt _ _ _ [uV x25] from (show _ = [_] from hc29) ▸ (ha30 _ (Ok.subS (by simp) H.ok))) ty37 rfl (fun _ => J) J J) J J <| qm J J <| nq (Q_or J J) J J ?_
   obtain ⟨x31, hx31, hF⟩ := bnd hF
   obtain ⟨b32, o33, hi34, hc35, ha36⟩ := arr_at (hs := [Arr v3 1 c2]) (k := 0) (by decide) (H.okS (by simp)) rfl r7 hx31
   refine nq (Q_idx hi34 Tryz.underlying137 ty37 J J) J J ?_
   obtain ⟨x37, hx37, hF⟩ := bnd hF
   obtain ⟨hs91a, hs91b, hs91c⟩ := setI_some hx37
   have r38 : rdL (eI .u64) ρ x37 (setC c2 (x13.toNat * 1 + 0) [uV (ior .u64 x25 x14)]) := hs91c ▸ rdL.set r7 hs91b (rfl)
   refine ne (E_stA (k := 1) (j := 0) (c := [uV (ior .u64 x25 x14)]) H rfl ty37 hi34 J J J rfl (one_cons rfl one_nil) (by decide)) J J ?_
   rintro _ wd39 H
   dsimp only [List.set] at H
   refine WL_nil <| xs <| qa J J <| C_ret ?_
   obtain rfl := oi hF
   exact fn_ret (l := [.tmp 4]) (vs := [.bool true]) J J J ⟨(setC c2 (x13.toNat * 1 + 0) [uV (ior .u64 x25 x14)]), x37, true, J, J, r38, H⟩
theorem c_75 {N : Nat} {C : Cx} {w : World} {ρ : View} {hs : List Hl} {gV : Nat → Value} {x1 : Int} {x2 : Int} {x3 : Int} {x4 : Int} (H : Hp C w ρ (hs)) (_gle : GErrs ρ 394 errIds gV) {r : Unit} (hF : F_74 N x1 x2 x3 x4 = some r) :
  Calls Tryz.prog 75 [.agg #[uV x1, uV x2, uV x3, uV x4]].toArray w (Rets (fun v w' => (() = r ∧ .bool (([x1, x2, x3, x4] : List Int) == ([0, 0, 0, 0] : List Int)) = v ∧ Hp C w' ρ (hs)))) := by
 unfold F_74 at hF
 have h0 : Tryz.f75.body = some _ := rfl
 refine fn_calls' Tryz.func75 h0 (n := 6) rfl (by simp) <| sr <| ne (E_box H (vs := [uV x1, uV x2, uV x3, uV x4]) J J) J J ?_
 rintro _ wd5 ⟨b6, rfl, H⟩
 refine qa J J <| sr <| nq (v := .agg #[uV x1, uV x2, uV x3, uV x4]) (Q_ldB (k := 0) (cs := [uV x1, uV x2, uV x3, uV x4]) H.ok rfl ty39 J J rfl (fun h => nomatch h) J) J J <| nq (v := .agg #[uV 0, uV 0, uV 0, uV 0]) (Q_build0 (zs := [uV 0, uV 0, uV 0, uV 0]) ty39 Tryz.underlying39 ty37 J) J J <| nq (v := .bool (([x1, x2, x3, x4] : List Int) == ([0, 0, 0, 0] : List Int))) (Q_eqlA (xs := ([x1, x2, x3, x4] : List Int)) (ys := ([0, 0, 0, 0] : List Int)) Tryz.underlying39 ty37 (by kernel_rfl) Tryz.underlying37 (rdL_ints .u64 ρ ([x1, x2, x3, x4] : List Int)) rfl (rdL_ints .u64 ρ ([0, 0, 0, 0] : List Int)) J J J) J J <| qa J J <| C_ret ?_
 replace H := H.e0
 obtain rfl := oi hF
 exact fn_ret (l := [.tmp 2]) (vs := [.bool (([x1, x2, x3, x4] : List Int) == ([0, 0, 0, 0] : List Int))]) J J J ⟨J, J, H⟩
theorem c_74 {N : Nat} {C : Cx} {w : World} {ρ : View} {hs : List Hl} {gV : Nat → Value} {b1 : Nat} {x2 : Int} {x3 : Int} (H : Hp C w ρ (Box b1 [iV x3] :: hs)) (_gle : GErrs ρ 394 errIds gV) {r : Bool} (hF : F_63 N x2 x3 = some r) :
  Calls Tryz.prog 74 [iV x2, pV b1 0].toArray w (Rets (fun v w' => (∃ (x4 : Bool), x4 = r ∧ .bool x4 = v ∧ Hp C w' ρ (Box b1 [iV x3] :: hs)))) := by
 unfold F_63 at hF
 have h0 : Tryz.f74.body = some _ := rfl
 refine fn_calls' Tryz.func74 h0 (n := 11) rfl (by simp) <| sr <| qa J J ?_
 obtain ⟨o5, ho5, hF⟩ := bnd hF
 refine C_cut (fun a w' => ∃ (x6 : Bool), x6 = o5 ∧ Fr 11 a [(3, .bool x6)] ∧ Hp C w' ρ (Box b1 [iV x3] :: hs)) ?_ ?_
 ·refine R_nd <| qm J J <| nq (Q_lss J J) J J <| qm J J ?_
  rcases Bool.eq_false_or_eq_true (decide (x2 < 0)) with hb | hb
  ·rw [hb]
   replace ho5 := itT hb ho5
   refine gs J J J J <| gs J J J J <| gs J J J J <| nq (Q_pickT J J) J J <| nq (Q_assign J) J J <| WL_nil ?_
   obtain rfl := oi ho5
   refine x_A fun a hf => ⟨true, J, hf.sub ⟨J, trivial⟩, H⟩
  ·rw [hb]
   replace ho5 := itF hb ho5
   refine gq (Q_move J) J J J <| gq (v := iV x3) (Q_ldB (k := 0) (cs := [iV x3]) H.ok J ty3 J J J (fun _ => J) J) J J J <| gq (Q_geq J J) J J J <| nq (Q_pickF J J) J J <| nq (Q_assign J) J J <| WL_nil ?_
   obtain rfl := oi ho5
   refine x_A fun a hf => ⟨decide (x2 ≥ x3), J, hf.sub ⟨J, trivial⟩, H⟩
 ·rintro a wd7 ⟨x6, rfl, hf, H⟩
  try dsimp only at hF
  refine CW.at hf <| C_ret ?_
  obtain rfl := oi hF
  exact fn_ret (l := [.tmp 3]) (vs := [.bool x6]) J J J ⟨x6, J, J, H⟩
theorem c_128_2 {N : Nat} {C : Cx} {w : World} {ρ : View} {hs : List Hl} {gV : Nat → Value} {v1 : Value} {b2 : Nat} {x3 : (List Int)} {x4 : Int} (H : Hp C w ρ (Box b2 [iV x4] :: hs)) (gle : GErrs ρ 394 errIds gV) (r5 : RdSl ρ (eI .i64) v1 x3) {r : Int} (hF : F_31 N x3 x4 = some r) :
  Calls Tryz.prog 128 [v1, .func (.func 74) #[] [pV b2 0].toArray].toArray w (Rets (fun v w' => (∃ (x6 : Int), x6 = r ∧ iV x6 = v ∧ Hp C w' ρ (Box b2 [iV x4] :: hs)))) := by
 unfold F_31 at hF
 have h0 : Tryz.f128.body = some _ := rfl
 refine fn_calls' Tryz.func128 h0 (n := 19) rfl (by simp) <| sr <| qa J J <| C_seq <| sr <| qm J J <| nq (Q_len Tryz.underlying23 rfl r5) J J <| qm J J <| WL_nil <| x_then ?_
 obtain ⟨o7, ho7, hF⟩ := bnd hF
 refine C_cutQ (fun a w' => .inl () = o7 ∧ Fr 19 a [] ∧ Hp C w' ρ (Box b2 [iV x4] :: hs)) ?_ ?_
 ·refine C_block ?_
  refine C_iter (f := fun s => F_78 N x3 x4 s) ho7 (fun s a w' => ∃ (x8 : Int), x8 = s ∧ Fr 19 a [(0, v1), (1, .func (.func 74) #[] [pV b2 0].toArray), (7, iV (x3.length : Int)), (8, iV x8)] ∧ Hp C w' ρ (Box b2 [iV x4] :: hs)) ?_ ?_
  ·exact fun a hf => ⟨0, J, hf.sub ⟨J, J, J, J, trivial⟩, H⟩
  ·rintro s o9 a wd10 ⟨x8, rfl, hf, H⟩ hB11 hO12
   replace hB11 : F_78 N x3 x4 x8 = some o9 := hB11
   unfold F_78 at hB11
   refine CW.at hf <| sr <| nq (Q_lss J J) J J <| WL_nil <| x_then <| C_seq ?_
   refine C_cond J (fun hb => ?_) (fun hb => ?_)
   ·replace hB11 := itT hb hB11
    refine C_skip <| x_then <| C_seq <| C_block <| sr <| qm J J <| qa J J <| sr <| qm J J <| qm J J ?_
    refine qm J J ?_
    obtain ⟨x13, hx13, hB11⟩ := bnd hB11
    obtain ⟨b14, o15, c16, hc17, ha18, hi19⟩ := idxR r5 hx13
    refine nq (Q_idx hi19 Tryz.underlying23 ty3 J J) J J <| nq (v := iV x13) (Q_ld (show cellsAt _ _ _ [iV x13] from (show _ = [_] from hc17) ▸ (ha18.up H.ok.view)) ty3 J (fun _ => J) J J) J J ?_
    obtain ⟨q20, hq20, hB11⟩ := bnd hB11
    refine ne (E_callV fn74 J J (c_74 H gle   hq20)) J J ?_
    rintro _ wd21 ⟨x22, rfl, rfl, H⟩
    try dsimp only at hB11
    refine WL_nil <| x_then ?_
    refine C_cond J (fun hb => ?_) (fun hb => ?_)
    ·replace hB11 := itT hb hB11
     refine sr <| qm J J <| qa J J <| C_ret <| x_block_ret <| x_then_ret <| x_then_ret <| x_block_ret <| x_then_ret <| x_then_ret ?_
     obtain rfl := oi hB11
     obtain rfl := hO12 _ rfl
     obtain rfl := oi (show some _ = some _ from hF)
     exact fn_ret (l := [.tmp 4]) (vs := [iV x8]) J J J ⟨x8, J, J, H⟩
    ·replace hB11 := itF hb hB11
     refine C_skip <| x_block <| x_then <| R_nd <| nq (Q_add J J) J J <| qm J J <| WL_nil ?_
     obtain rfl := oi hB11
     refine x_A fun a hf => ⟨_, J, w64 (x8 + 1), J, hf.sub ⟨J, J, J, J, trivial⟩, H⟩
   ·replace hB11 := itF hb hB11
    refine C_exit <| x_then_exit <| x_then_exit <| x_block_exit ?_
    obtain rfl := oi hB11
    obtain rfl := hO12 _ rfl
    refine x_A fun a hf => ⟨J, hf.sub trivial, H⟩
 ·rintro a wd23 ⟨rfl, hf, H⟩
  try dsimp only at hF
  refine XX.at hf <| xs <| qa J J <| C_ret ?_
  obtain rfl := oi hF
  exact fn_ret (l := [.tmp 4]) (vs := [iV (-1)]) J J J ⟨(-1), J, J, H⟩
theorem c_76_2 {N : Nat} {C : Cx} {w : World} {ρ : View} {hs : List Hl} {gV : Nat → Value} {v1 : Value} {b2 : Nat} {x3 : (List Int)} {x4 : Int} (H : Hp C w ρ (Box b2 [iV x4] :: hs)) (gle : GErrs ρ 394 errIds gV) (r5 : RdSl ρ (eI .i64) v1 x3) {r : Bool} (hF : F_76 N x3 x4 = some r) :
  Calls Tryz.prog 76 [v1, .func (.func 74) #[] [pV b2 0].toArray].toArray w (Rets (fun v w' => (∃ (x6 : Bool), x6 = r ∧ .bool x6 = v ∧ Hp C w' ρ (Box b2 [iV x4] :: hs)))) := by
 unfold F_76 at hF
 have h0 : Tryz.f76.body = some _ := rfl
 refine fn_calls' Tryz.func76 h0 (n := 9) rfl (by simp) <| sr <| qa J J <| sr <| qm J J <| qm J J ?_
 obtain ⟨q7, hq7, hF⟩ := bnd hF
 refine ne (E_call fn128 J (c_128_2 H gle  r5 hq7)) J J ?_
 rintro _ wd8 ⟨x9, rfl, rfl, H⟩
 try dsimp only at hF
 refine nq (Q_geq J J) J J <| qa J J <| C_ret ?_
 obtain rfl := oi hF
 exact fn_ret (l := [.tmp 4]) (vs := [.bool (decide (x9 ≥ 0))]) J J J ⟨decide (x9 ≥ 0), J, J, H⟩
theorem c_18 {N : Nat} {C : Cx} {w : World} {ρ : View} {hs : List Hl} {gV : Nat → Value} {v1 : Value} {v2 : Value} {x3 : (List ((List Int) × (Int × Int × Int × Int) × Int × Int))} {x4 : (List Int)} (H : Hp C w ρ (hs)) (gle : GErrs ρ 394 errIds gV) (r5 : RdSl ρ (eP (eL (eI .i64)) (eP (eP (eI .u64) (eP (eI .u64) (eP (eI .u64) (eI .u64)))) (eP (eI .i64) (eI .i64)))) v1 x3) (r6 : RdSl ρ (eI .i64) v2 x4) {r : Bool} (hF : F_10 N x3 x4 = some r) :
  Calls Tryz.prog 18 [.agg #[v1, v2]].toArray w (Rets (fun v w' => (∃ (x7 : Bool), x7 = r ∧ .bool x7 = v ∧ Hp C w' ρ (hs)))) := by
 unfold F_10 at hF
 have h0 : Tryz.f18.body = some _ := rfl
 refine fn_calls' Tryz.func18 h0 (n := 80) rfl (by simp) <| sr <| ne (E_box H (vs := [v1, v2]) J J) J J ?_
 rintro _ wd8 ⟨b9, rfl, H⟩
 refine qa J J <| sr <| nq (v := pV b9 0) (Q_fld Tryz.underlying25 rfl ty22 (by decide) J J) J J <| nq (v := v1) (Q_ldB (k := 0) (cs := [v1]) H.ok rfl ty22 J J rfl (fun _ => J) J) J J <| nq (Q_len Tryz.underlying22 rfl r5) J J <| ne (E_alloc H ty3 (zs := [iV 0]) J) J J ?_
 rintro _ wd10 ⟨b11, rfl, H⟩
 refine ne (E_stB (k := 0) (cs := [iV (x3.length : Int)]) (vs' := [iV (x3.length : Int)]) H rfl ty3 J J J rfl (one_cons rfl one_nil) (by simp) J) J J ?_
 rintro _ wd12 H
 dsimp only [List.set] at H
 refine WL_nil <| xs <| nq (v := .func (.func 74) #[] [pV b11 0].toArray) (Q_func J) J J <| qa J J <| C_seq <| sr <| nq (v := pV b9 0) (Q_fld Tryz.underlying25 rfl ty22 (by decide) J J) J J <| nq (v := v1) (Q_ldB (k := 1) (cs := [v1]) H.ok rfl ty22 J J rfl (fun _ => J) J) J J <| nq (Q_len Tryz.underlying22 rfl r5) J J ?_
 refine qm J J <| WL_nil <| x_then ?_
 obtain ⟨o13, ho13, hF⟩ := bnd hF
 refine C_cutQ (fun a w' => .inl () = o13 ∧ Fr 80 a [(1, pV b9 0), (3, pV b11 0), (4, .func (.func 74) #[] [pV b11 0].toArray)] ∧ Hp C w' ρ (Box b9 [v1, v2] :: Box b11 [iV (x3.length : Int)] :: hs)) ?_ ?_
 ·refine C_block ?_
  replace H := H.f1
  refine C_iter (f := fun s => F_73 N x3 s) ho13 (fun s a w' => ∃ (x14 : Int), x14 = s ∧ Fr 80 a [(1, pV b9 0), (3, pV b11 0), (4, .func (.func 74) #[] [pV b11 0].toArray), (14, v1), (15, iV (x3.length : Int)), (16, iV x14)] ∧ Hp C w' ρ (Box b9 [v1, v2] :: Box b11 [iV (x3.length : Int)] :: hs)) ?_ ?_
  ·exact fun a hf => ⟨0, J, hf.sub ⟨J, J, J, J, J, J, trivial⟩, H⟩
  ·rintro s o15 a wd16 ⟨x14, rfl, hf, H⟩ hB17 hO18
   replace hB17 : F_73 N x3 x14 = some o15 := hB17
   unfold F_73 at hB17
   refine CW.at hf <| sr <| nq (Q_lss J J) J J <| WL_nil <| x_then <| C_seq ?_
   refine C_cond J (fun hb => ?_) (fun hb => ?_)
   ·replace hB17 := itT hb hB17
    refine C_skip <| x_then <| C_seq <| C_block <| C_seq <| R_nd ?_
    obtain ⟨x19, hx19, hB17⟩ := bnd hB17
    obtain ⟨b20, o21, c22, hc23, ha24, hi25⟩ := idxR r5 hx19
    refine nq (Q_idx hi25 Tryz.underlying22 ty41 J J) J J ?_
    obtain ⟨c26, c27, he28, hc29, hc30⟩ := (id hc23)
    obtain ⟨v31, he32, r33⟩ := hc29
    obtain ⟨c34, c35, he36, hc37, hc38⟩ := hc30
    obtain ⟨c39, c40, he41, hc42, hc43⟩ := hc37
    obtain ⟨c44, c45, he46, hc47, hc48⟩ := hc43
    obtain ⟨c49, c50, he51, hc52, hc53⟩ := hc48
    obtain ⟨c54, c55, he56, hc57, hc58⟩ := hc38
    refine nq (v := .agg #[v31, uV x19.2.1.1, uV x19.2.1.2.1, uV x19.2.1.2.2.1, uV x19.2.1.2.2.2, iV x19.2.2.1, iV x19.2.2.2]) (Q_ld (show cellsAt _ _ _ [v31, uV x19.2.1.1, uV x19.2.1.2.1, uV x19.2.1.2.2.1, uV x19.2.1.2.2.2, iV x19.2.2.1, iV x19.2.2.2] from cellsAt.cg (cat2 he28 he32 (cat2 he36 (cat2 he41 (rdI hc42) (cat2 he46 (rdI hc47) (cat2 he51 (rdI hc52) (rdI hc53)))) (cat2 he56 (rdI hc57) (rdI hc58)))) (ha24.up H.ok.view)) ty41 J (fun h => nomatch h) J J) J J <| ne (E_alloc H ty41 (zs := [.slice none 0 0, uV 0, uV 0, uV 0, uV 0, iV 0, iV 0]) J) J J ?_
    rintro _ wd59 ⟨b60, rfl, H⟩
    refine ne (E_stB (k := 0) (cs := [v31, uV x19.2.1.1, uV x19.2.1.2.1, uV x19.2.1.2.2.1, uV x19.2.1.2.2.2, iV x19.2.2.1, iV x19.2.2.2]) (vs' := [v31, uV x19.2.1.1, uV x19.2.1.2.1, uV x19.2.1.2.2.1, uV x19.2.1.2.2.2, iV x19.2.2.1, iV x19.2.2.2]) H rfl ty41 J J J rfl (one_cons (RdSl.one r33) (one_cons rfl (one_cons rfl (one_cons rfl (one_cons rfl (one_cons rfl (one_cons rfl one_nil))))))) (by simp) J) J J ?_
    rintro _ wd61 H
    dsimp only [List.set] at H
    refine WL_nil <| x_then ?_
    obtain ⟨o62, ho62, hB17⟩ := bnd hB17
    refine C_cut (fun a w' => ∃ (x63 : Bool), x63 = o62 ∧ Fr 80 a [(1, pV b9 0), (3, pV b11 0), (4, .func (.func 74) #[] [pV b11 0].toArray), (6, pV b60 0), (7, .bool x63), (14, v1), (15, iV (x3.length : Int)), (16, iV x14)] ∧ Hp C w' ρ (Box b9 [v1, v2] :: Box b11 [iV (x3.length : Int)] :: Box b60 [v31, uV x19.2.1.1, uV x19.2.1.2.1, uV x19.2.1.2.2.1, uV x19.2.1.2.2.2, iV x19.2.2.1, iV x19.2.2.2] :: hs)) ?_ ?_
    ·refine R_nd <| nq (v := pV b60 5) (Q_fld Tryz.underlying41 rfl ty3 (by decide) J J) J J <| nq (v := iV x19.2.2.1) (Q_ldB (k := 0) (cs := [iV x19.2.2.1]) H.ok rfl ty3 J J rfl (fun _ => J) J) J J <| nq (Q_eql J J) J J <| qm J J ?_
     rcases Bool.eq_false_or_eq_true (x19.2.2.1 == (-1)) with hb | hb
     ·rw [hb]
      replace ho62 := itT hb ho62
      refine gq (v := pV b60 1) (Q_fld Tryz.underlying41 rfl ty39 (by decide) J J) J J J <| gq (v := .agg #[uV x19.2.1.1, uV x19.2.1.2.1, uV x19.2.1.2.2.1, uV x19.2.1.2.2.2]) (Q_ldB (k := 0) (cs := [uV x19.2.1.1, uV x19.2.1.2.1, uV x19.2.1.2.2.1, uV x19.2.1.2.2.2]) H.ok rfl ty39 J J rfl (fun h => nomatch h) J) J J J ?_
      obtain ⟨q64, hq64, ho62⟩ := bnd ho62
      refine ge (E_call fn75 J (c_75 H gle   hq64)) J J J ?_
      rintro _ wd65 ⟨rfl, rfl, H⟩
      try dsimp only at ho62
      refine nq (Q_pickT J J) J J <| qm J J ?_
      rcases Bool.eq_false_or_eq_true (([x19.2.1.1, x19.2.1.2.1, x19.2.1.2.2.1, x19.2.1.2.2.2] : List Int) == ([0, 0, 0, 0] : List Int)) with hb | hb
      ·rw [hb]
       replace ho62 := itT hb ho62
       refine gs J J J J <| gs J J J J <| gs J J J J <| gs J J J J <| gs J J J J <| nq (Q_pickT J J) J J <| nq (Q_assign J) J J <| WL_nil ?_
       replace H := H.f2.f2
       obtain rfl := oi ho62
       refine x_A fun a hf => ⟨true, J, hf.sub ⟨J, J, J, J, J, J, J, J, trivial⟩, H⟩
      ·rw [hb]
       replace ho62 := itF hb ho62
       refine gq (Q_move J) J J J <| gq (v := pV b60 5) (Q_fld Tryz.underlying41 rfl ty3 (by decide) J J) J J J <| gq (v := iV x19.2.2.1) (Q_ldB (k := 0) (cs := [iV x19.2.2.1]) H.ok rfl ty3 J J rfl (fun _ => J) J) J J J ?_
       replace H := H.f2
       obtain ⟨q66, hq66, ho62⟩ := bnd ho62
       refine ge (E_callV fn74 J J (c_74 H gle   hq66)) J J J ?_
       rintro _ wd67 ⟨x68, rfl, rfl, H⟩
       try dsimp only at ho62
       refine gq (Q_not J) J J J <| nq (Q_pickF J J) J J <| nq (Q_assign J) J J <| WL_nil ?_
       replace H := H.f2
       obtain rfl := oi ho62
       refine x_A fun a hf => ⟨!x68, J, hf.sub ⟨J, J, J, J, J, J, J, J, trivial⟩, H⟩
     ·rw [hb]
      replace ho62 := itF hb ho62
      refine gs J J J J <| gs J J J J <| gs J J J J <| nq (Q_pickF J J) J J <| qm J J <| gq (Q_move J) J J J <| gq (v := pV b60 5) (Q_fld Tryz.underlying41 rfl ty3 (by decide) J J) J J J <| gq (v := iV x19.2.2.1) (Q_ldB (k := 0) (cs := [iV x19.2.2.1]) H.ok rfl ty3 J J rfl (fun _ => J) J) J J J ?_
      replace H := H.f2
      obtain ⟨q69, hq69, ho62⟩ := bnd ho62
      refine ge (E_callV fn74 J J (c_74 H gle   hq69)) J J J ?_
      rintro _ wd70 ⟨x71, rfl, rfl, H⟩
      try dsimp only at ho62
      refine gq (Q_not J) J J J <| nq (Q_pickF J J) J J <| nq (Q_assign J) J J <| WL_nil ?_
      replace H := H.f2
      obtain rfl := oi ho62
      refine x_A fun a hf => ⟨!x71, J, hf.sub ⟨J, J, J, J, J, J, J, J, trivial⟩, H⟩
    ·rintro a wd72 ⟨x63, rfl, hf, H⟩
     try dsimp only at hB17
     refine CW.at hf ?_
     obtain ⟨o73, ho73, hB17⟩ := bnd hB17
     refine C_cut (fun a w' => ∃ (x74 : Bool), x74 = o73 ∧ Fr 80 a [(1, pV b9 0), (3, pV b11 0), (4, .func (.func 74) #[] [pV b11 0].toArray), (14, v1), (15, iV (x3.length : Int)), (16, iV x14), (52, .bool x74)] ∧ Hp C w' ρ (Box b9 [v1, v2] :: Box b11 [iV (x3.length : Int)] :: hs)) ?_ ?_
     ·refine R_nd <| qm J J <| nq (Q_not J) J J <| qm J J ?_
      rcases Bool.eq_false_or_eq_true (!x63) with hb | hb
      ·rw [hb]
       replace ho73 := itT hb ho73
       refine gs J J J J <| gs J J J J <| gs J J J J <| gs J J J J <| nq (Q_pickT J J) J J <| qm J J <| gs J J J J <| gs J J J J <| gs J J J J <| nq (Q_pickT J J) J J <| qm J J <| gs J J J J <| gs J J J J <| gs J J J J ?_
       refine nq (Q_pickT J J) J J <| WL_nil ?_
       replace H := H.e2
       obtain rfl := oi ho73
       refine x_A fun a hf => ⟨true, J, hf.sub ⟨J, J, J, J, J, J, J, trivial⟩, H⟩
      ·rw [hb]
       replace ho73 := itF hb ho73
       refine gq (v := pV b60 0) (Q_fld Tryz.underlying41 rfl ty23 (by decide) J J) J J J <| gq (v := v31) (Q_ldB (k := 2) (cs := [v31]) H.ok rfl ty23 J J rfl (fun _ => J) J) J J J <| gq (Q_move J) J J J ?_
       replace H := H.f1
       obtain ⟨q75, hq75, ho73⟩ := bnd ho73
       refine ge (E_call fn76 J (c_76_2 H gle  r33 hq75)) J J J ?_
       rintro _ wd76 ⟨x77, rfl, rfl, H⟩
       try dsimp only at ho73
       refine nq (Q_pickF J J) J J <| qm J J ?_
       rcases Bool.eq_false_or_eq_true x77 with hb | hb
       ·rw [hb]
        replace ho73 := itT hb ho73
        refine gs J J J J <| gs J J J J <| gs J J J J <| nq (Q_pickT J J) J J <| qm J J <| gs J J J J <| gs J J J J <| gs J J J J <| nq (Q_pickT J J) J J <| WL_nil ?_
        replace H := H.e2.f1
        obtain rfl := oi ho73
        refine x_A fun a hf => ⟨true, J, hf.sub ⟨J, J, J, J, J, J, J, trivial⟩, H⟩
       ·rw [hb]
        replace ho73 := itF hb ho73
        refine gq (v := pV b60 6) (Q_fld Tryz.underlying41 rfl ty3 (by decide) J J) J J J <| gq (v := iV x19.2.2.2) (Q_ldB (k := 2) (cs := [iV x19.2.2.2]) H.ok rfl ty3 J J rfl (fun _ => J) J) J J J <| gq (Q_lss J J) J J J <| nq (Q_pickF J J) J J <| qm J J ?_
        rcases Bool.eq_false_or_eq_true (decide (x19.2.2.2 < (-1))) with hb | hb
        ·rw [hb]
         replace ho73 := itT hb ho73
         refine gs J J J J <| gs J J J J <| gs J J J J <| nq (Q_pickT J J) J J <| WL_nil ?_
         replace H := H.e2.f1
         obtain rfl := oi ho73
         refine x_A fun a hf => ⟨true, J, hf.sub ⟨J, J, J, J, J, J, J, trivial⟩, H⟩
        ·rw [hb]
         replace ho73 := itF hb ho73
         refine gq (v := pV b60 6) (Q_fld Tryz.underlying41 rfl ty3 (by decide) J J) J J J <| gq (v := iV x19.2.2.2) (Q_ldB (k := 2) (cs := [iV x19.2.2.2]) H.ok rfl ty3 J J rfl (fun _ => J) J) J J J <| gq (Q_geq J J) J J J <| nq (Q_pickF J J) J J <| WL_nil ?_
         replace H := H.e2.f1
         obtain rfl := oi ho73
         refine x_A fun a hf => ⟨decide (x19.2.2.2 ≥ 48), J, hf.sub ⟨J, J, J, J, J, J, J, trivial⟩, H⟩
     ·rintro a wd78 ⟨x74, rfl, hf, H⟩
      try dsimp only at hB17
      refine CW.at hf ?_
      refine C_cond J (fun hb => ?_) (fun hb => ?_)
      ·replace hB17 := itT hb hB17
       refine sr <| qa J J <| C_ret <| x_block_ret <| x_then_ret <| x_then_ret <| x_block_ret <| x_then_ret <| x_then_ret ?_
       replace H := H.e1.e0
       obtain rfl := oi hB17
       obtain rfl := hO18 _ rfl
       obtain rfl := oi (show some _ = some _ from hF)
       exact fn_ret (l := [.tmp 2]) (vs := [.bool false]) J J J ⟨false, J, J, H⟩
      ·replace hB17 := itF hb hB17
       refine C_skip <| x_block <| x_then <| R_nd <| nq (Q_add J J) J J <| qm J J <| WL_nil ?_
       obtain rfl := oi hB17
       refine x_A fun a hf => ⟨_, J, w64 (x14 + 1), J, hf.sub ⟨J, J, J, J, J, J, trivial⟩, H⟩
   ·replace hB17 := itF hb hB17
    refine C_exit <| x_then_exit <| x_then_exit <| x_block_exit ?_
    obtain rfl := oi hB17
    obtain rfl := hO18 _ rfl
    refine x_A fun a hf => ⟨J, hf.sub ⟨J, J, J, trivial⟩, H⟩
 ·rintro a wd79 ⟨rfl, hf, H⟩
  try dsimp only at hF
  refine XX.at hf <| x_then ?_
  obtain ⟨o80, ho80, hF⟩ := bnd hF
  refine C_cut (fun a w' => ∃ (x81 : Bool), x81 = o80 ∧ Fr 80 a [(1, pV b9 0), (3, pV b11 0), (4, .func (.func 74) #[] [pV b11 0].toArray), (8, .bool x81)] ∧ Hp C w' ρ (Box b9 [v1, v2] :: Box b11 [iV (x3.length : Int)] :: hs)) ?_ ?_
  ·refine R_nd <| nq (v := pV b9 1) (Q_fld Tryz.underlying25 rfl ty23 (by decide) J J) J J <| nq (v := v2) (Q_ldB (k := 0) (cs := [v2]) H.ok rfl ty23 J J rfl (fun _ => J) J) J J <| nq (Q_len Tryz.underlying23 rfl r6) J J <| nq (Q_geq J J) J J <| qm J J ?_
   rcases Bool.eq_false_or_eq_true (decide ((x4.length : Int) ≥ 1)) with hb | hb
   ·rw [hb]
    replace ho80 := itT hb ho80
    refine gq (v := pV b9 1) (Q_fld Tryz.underlying25 rfl ty23 (by decide) J J) J J J <| gq (v := v2) (Q_ldB (k := 0) (cs := [v2]) H.ok rfl ty23 J J rfl (fun _ => J) J) J J J <| gq (Q_len Tryz.underlying23 rfl r6) J J J <| gq (Q_leq J J) J J J <| nq (Q_pickT J J) J J <| nq (Q_assign J) J J <| WL_nil ?_
    obtain rfl := oi ho80
    refine x_A fun a hf => ⟨decide ((x4.length : Int) ≤ 8), J, hf.sub ⟨J, J, J, J, trivial⟩, H⟩
   ·rw [hb]
    replace ho80 := itF hb ho80
    refine gs J J J J <| gs J J J J <| gs J J J J <| gs J J J J <| nq (Q_pickF J J) J J <| nq (Q_assign J) J J <| WL_nil ?_
    obtain rfl := oi ho80
    refine x_A fun a hf => ⟨false, J, hf.sub ⟨J, J, J, J, trivial⟩, H⟩
  ·rintro a wd82 ⟨x81, rfl, hf, H⟩
   try dsimp only at hF
   refine CW.at hf ?_
   obtain ⟨o83, ho83, hF⟩ := bnd hF
   refine C_cut (fun a w' => ∃ (x84 : Bool), x84 = o83 ∧ Fr 80 a [(2, .bool x84)] ∧ Hp C w' ρ (hs)) ?_ ?_
   ·refine R_nd <| qm J J <| qm J J ?_
    rcases Bool.eq_false_or_eq_true x81 with hb | hb
    ·rw [hb]
     replace ho83 := itT hb ho83
     refine gq (v := iV (x3.length : Int)) (Q_ldB (k := 1) (cs := [iV (x3.length : Int)]) H.ok J ty3 J J J (fun _ => J) J) J J J <| gq (Q_geq J J) J J J <| nq (Q_pickT J J) J J <| qm J J ?_
     rcases Bool.eq_false_or_eq_true (decide ((x3.length : Int) ≥ 1)) with hb | hb
     ·rw [hb]
      replace ho83 := itT hb ho83
      refine gq (v := iV (x3.length : Int)) (Q_ldB (k := 1) (cs := [iV (x3.length : Int)]) H.ok J ty3 J J J (fun _ => J) J) J J J <| gq (Q_leq J J) J J J <| nq (Q_pickT J J) J J <| qm J J ?_
      rcases Bool.eq_false_or_eq_true (decide ((x3.length : Int) ≤ 4000)) with hb | hb
      ·rw [hb]
       replace ho83 := itT hb ho83
       refine gq (v := pV b9 1) (Q_fld Tryz.underlying25 rfl ty23 (by decide) J J) J J J <| gq (v := v2) (Q_ldB (k := 0) (cs := [v2]) H.ok rfl ty23 J J rfl (fun _ => J) J) J J J <| gq (Q_move J) J J J ?_
       replace H := H.f1
       obtain ⟨q85, hq85, ho83⟩ := bnd ho83
       refine ge (E_call fn76 J (c_76_2 H gle  r6 hq85)) J J J ?_
       rintro _ wd86 ⟨x87, rfl, rfl, H⟩
       try dsimp only at ho83
       refine gq (Q_not J) J J J <| nq (Q_pickT J J) J J <| nq (Q_assign J) J J <| WL_nil ?_
       replace H := H.e1.e0
       obtain rfl := oi ho83
       refine x_A fun a hf => ⟨!x87, J, hf.sub ⟨J, trivial⟩, H⟩
      ·rw [hb]
       replace ho83 := itF hb ho83
       refine gs J J J J <| gs J J J J <| gs J J J J <| gs J J J J <| gs J J J J <| nq (Q_pickF J J) J J <| nq (Q_assign J) J J <| WL_nil ?_
       replace H := H.e1.e0
       obtain rfl := oi ho83
       refine x_A fun a hf => ⟨false, J, hf.sub ⟨J, trivial⟩, H⟩
     ·rw [hb]
      replace ho83 := itF hb ho83
      refine gs J J J J <| gs J J J J <| nq (Q_pickF J J) J J <| qm J J <| gs J J J J <| gs J J J J <| gs J J J J <| gs J J J J <| gs J J J J <| nq (Q_pickF J J) J J <| nq (Q_assign J) J J <| WL_nil ?_
      replace H := H.e1.e0
      obtain rfl := oi ho83
      refine x_A fun a hf => ⟨false, J, hf.sub ⟨J, trivial⟩, H⟩
    ·rw [hb]
     replace ho83 := itF hb ho83
     refine gs J J J J <| gs J J J J <| nq (Q_pickF J J) J J <| qm J J <| gs J J J J <| gs J J J J <| nq (Q_pickF J J) J J <| qm J J <| gs J J J J <| gs J J J J <| gs J J J J <| gs J J J J <| gs J J J J <| nq (Q_pickF J J) J J ?_
     refine nq (Q_assign J) J J <| WL_nil ?_
     replace H := H.e1.e0
     obtain rfl := oi ho83
     refine x_A fun a hf => ⟨false, J, hf.sub ⟨J, trivial⟩, H⟩
   ·rintro a wd88 ⟨x84, rfl, hf, H⟩
    try dsimp only at hF
    refine CW.at hf <| C_ret ?_
    obtain rfl := oi hF
    exact fn_ret (l := [.tmp 2]) (vs := [.bool x84]) J J J ⟨x84, J, J, H⟩
theorem c_131 {N : Nat} {C : Cx} {w : World} {ρ : View} {hs : List Hl} {gV : Nat → Value} {b1 : Nat} {c2 : List Value} {v3 : Value} {x4 : (List Int)} {x5 : Int} (H : Hp C w ρ (Box b1 [v3, iV x5] :: Arr v3 1 c2 :: hs)) (_gle : GErrs ρ 394 errIds gV) (_r4 : rdL (eI .u64) ρ x4 c2) {r : Unit} (hF : F_54 N x4 x5 = some r) :
  Calls Tryz.prog 131 [pV b1 0].toArray w (Rets (fun v w' => (() = r ∧ v3 = v ∧ Hp C w' ρ (Box b1 [v3, iV x5] :: Arr v3 1 c2 :: hs)))) := by
 unfold F_54 at hF
 have h0 : Tryz.f131.body = some _ := rfl
 refine fn_calls' Tryz.func131 h0 (n := 9) rfl (by simp) <| sr <| qa J J <| C_seq <| sr <| qm J J <| nq (v := .bool false) (Q_eqlP (o := (some ⟨b1, 0, none⟩)) Tryz.underlying51 J) J J <| WL_nil <| x_then ?_
 refine C_cond J (fun h => nomatch h) (fun _ => ?_)
 refine C_skip <| xs <| qm J J <| nq (Q_nilP J) J J <| nq (v := pV b1 0) (Q_fld Tryz.underlying139 rfl ty137 (by decide) J J) J J <| nq (v := v3) (Q_ldB (k := 0) (cs := [v3]) H.ok rfl ty137 J J rfl (fun _ => J) J) J J <| qa J J <| C_ret ?_
 obtain rfl := oi hF
 exact fn_ret (l := [.tmp 2]) (vs := [v3]) J J J ⟨J, J, H⟩
theorem c_132 {N : Nat} {C : Cx} {w : World} {ρ : View} {hs : List Hl} {gV : Nat → Value} {x1 : Int} (H : Hp C w ρ (hs)) (_gle : GErrs ρ 394 errIds gV) (gl18 : GTab ρ 18 .u8 tab_math_bits_deBruijn64tab) {r : Int} (hF : F_62 N x1 = some r) :
  Calls Tryz.prog 132 [uV x1].toArray w (Rets (fun v w' => (∃ (x2 : Int), x2 = r ∧ iV x2 = v ∧ Hp C w' ρ (hs)))) := by
 unfold F_62 at hF
 have h0 : Tryz.f132.body = some _ := rfl
 refine fn_calls' Tryz.func132 h0 (n := 14) rfl (by simp) <| sr <| qa J J <| C_seq <| sr <| qm J J <| nq (Q_eql J J) J J <| WL_nil <| x_then ?_
 refine C_cond J (fun hb => ?_) (fun hb => ?_)
 ·replace hF := itT hb hF
  refine sr <| qa J J <| C_ret <| x_then_ret ?_
  obtain rfl := oi hF
  exact fn_ret (l := [.tmp 2]) (vs := [iV 64]) J J J ⟨64, J, J, H⟩
 ·replace hF := itF hb hF
  refine C_skip <| xs <| qm J J <| qm J J <| nq (v := uV (IntKind.wrap .u64 (0 - x1))) (Q_neg J) J J <| nq (Q_and J J) J J <| nq (Q_mul J J) J J <| nq (Q_shr J rfl (by decide)) J J ?_
  obtain ⟨x3, hx3, hF⟩ := bnd hF
  have hn4 := idx_lt (N := 64) (xs := tab_math_bits_deBruijn64tab) rfl hx3
  refine nq (Q_idxA hn4.1 hn4.2 Tryz.underlying260 ty5 J J) J J <| nq (v := .int .u8 x3) (Q_ld ((GTab.at gl18 hx3).up H.ok.view) ty5 J (fun _ => J) J J) J J <| nq (Q_cvI ⟨_, Tryz.underlying5⟩ Tryz.underlying3 J) J J <| qa J J <| C_ret ?_
  obtain rfl := oi hF
  exact fn_ret (l := [.tmp 2]) (vs := [iV (IntKind.wrap .i64 x3)]) J J J ⟨IntKind.wrap .i64 x3, J, J, H⟩
theorem c_83 {N : Nat} {C : Cx} {w : World} {ρ : View} {hs : List Hl} {gV : Nat → Value} {b1 : Nat} {c2 : List Value} {v3 : Value} {x4 : (List Int)} {x5 : Int} {x6 : Int} (H : Hp C w ρ (Box b1 [v3, iV x5] :: Arr v3 1 c2 :: hs)) (gle : GErrs ρ 394 errIds gV) (gl18 : GTab ρ 18 .u8 tab_math_bits_deBruijn64tab) (r7 : rdL (eI .u64) ρ x4 c2) {r : Int} (hF : F_5 N x4 x5 x6 = some r) :
  Calls Tryz.prog 83 [pV b1 0, iV x6].toArray w (Rets (fun v w' => (∃ (x8 : Int), x8 = r ∧ iV x8 = v ∧ Hp C w' ρ (Box b1 [v3, iV x5] :: Arr v3 1 c2 :: hs)))) := by
 unfold F_5 at hF
 have h0 : Tryz.f83.body = some _ := rfl
 refine fn_calls' Tryz.func83 h0 (n := 48) rfl (by simp) <| sr <| qa J J <| C_seq <| sr <| qm J J <| qm J J ?_
 obtain ⟨q9, hq9, hF⟩ := bnd hF
 refine ne (E_call fn87 J (c_87 H gle  r7 hq9)) J J ?_
 rintro _ wd10 ⟨rfl, rfl, H⟩
 try dsimp only at hF
 refine nq (Q_geq J J) J J <| WL_nil <| x_then ?_
 refine C_cond J (fun hb => ?_) (fun hb => ?_)
 ·replace hF := itT hb hF
  refine sr <| qa J J <| C_ret <| x_then_ret ?_
  obtain rfl := oi hF
  exact fn_ret (l := [.tmp 4]) (vs := [iV (-1)]) J J J ⟨(-1), J, J, H⟩
 ·replace hF := itF hb hF
  refine C_skip <| xs <| qm J J <| nq (v := iV (imax x6 (-1))) (Q_max J J) J J <| nq (Q_add J J) J J <| qa J J <| C_seq <| sr <| qm J J ?_
  refine nq (Q_quo J rfl (by decide)) J J <| qa J J ?_
  obtain ⟨o11, ho11, hF⟩ := bnd hF
  refine C_cutQ (fun a w' => .inl () = o11 ∧ Fr 48 a [] ∧ Hp C w' ρ (Box b1 [v3, iV x5] :: Arr v3 1 c2 :: hs)) ?_ ?_
  ·refine C_block ?_
   refine C_iter (f := fun s => F_72 N x4 x5 x6 s) ho11 (fun s a w' => ∃ (x12 : Int), x12 = s ∧ Fr 48 a [(0, pV b1 0), (1, iV (w64 ((imax x6 (-1)) + 1))), (5, iV x12)] ∧ Hp C w' ρ (Box b1 [v3, iV x5] :: Arr v3 1 c2 :: hs)) ?_ ?_
   ·exact fun a hf => ⟨w64 ((w64 ((imax x6 (-1)) + 1)).tdiv 64), J, hf.sub ⟨J, J, J, trivial⟩, H⟩
   ·rintro s o13 a wd14 ⟨x12, rfl, hf, H⟩ hB15 hO16
    replace hB15 : F_72 N x4 x5 x6 x12 = some o13 := hB15
    unfold F_72 at hB15
    refine CW.at hf <| C_seq <| sr <| qm J J <| qm J J ?_
    obtain ⟨q17, hq17, hB15⟩ := bnd hB15
    refine ne (E_call fn131 J (c_131 H gle  r7 hq17)) J J ?_
    rintro _ wd18 ⟨rfl, rfl, H⟩
    try dsimp only at hB15
    refine nq (Q_lenA (k := 1) H.ok rfl r7 (by decide) Tryz.underlying137 J) J J <| nq (Q_lss J J) J J <| WL_nil <| x_then ?_
    refine C_cond J (fun hb => ?_) (fun hb => ?_)
    ·replace hB15 := itT hb hB15
     refine C_skip <| x_then ?_
     obtain ⟨o19, ho19, hB15⟩ := bnd hB15
     refine C_cut (fun a w' => .inl () = o19 ∧ Fr 48 a [(0, pV b1 0), (1, iV (w64 ((imax x6 (-1)) + 1))), (5, iV x12)] ∧ Hp C w' ρ (Box b1 [v3, iV x5] :: Arr v3 1 c2 :: hs)) ?_ ?_
     ·refine C_block <| sr <| qm J J <| nq (Q_nilP J) J J <| nq (v := pV b1 0) (Q_fld Tryz.underlying139 rfl ty137 (by decide) J J) J J <| nq (v := v3) (Q_ldB (k := 0) (cs := [v3]) H.ok rfl ty137 J J rfl (fun _ => J) J) J J <| qm J J ?_
      obtain ⟨x20, hx20, ho19⟩ := bnd ho19
      obtain ⟨b21, o22, hi23, hc24, ha25⟩ := arr_at (hs := [Arr v3 1 c2]) (k := 0) (by decide) (H.okS (by simp)) rfl r7 hx20
      refine nq (Q_idx hi23 Tryz.underlying137 ty37 J J) J J <| nq (v := uV x20) (Q_ld (show cellsAt _ _ _ [uV x20] from (show _ = [_] from hc24) ▸ (ha25 _ (Ok.subS (by simp) H.ok))) ty37 rfl (fun _ => J) J J) J J <| qa J J <| C_seq <| sr <| qm J J <| qm J J <| nq (Q_quo J rfl (by decide)) J J <| nq (Q_eql J J) J J <| WL_nil <| x_then ?_
      obtain ⟨o26, ho26, ho19⟩ := bnd ho19
      refine C_cutQ (fun a w' => ∃ (x27 : Int), x27 = o26 ∧ Fr 48 a [(0, pV b1 0), (1, iV (w64 ((imax x6 (-1)) + 1))), (5, iV x12), (6, uV x27)] ∧ Hp C w' ρ (Box b1 [v3, iV x5] :: Arr v3 1 c2 :: hs)) ?_ ?_
      ·refine C_cond J (fun hb => ?_) (fun hb => ?_)
       ·replace ho26 := itT hb ho26
        refine R_nd <| qm J J <| qm J J <| nq (Q_rem J rfl (by decide)) J J ?_
        obtain ⟨x28, hx28, ho26⟩ := bnd ho26
        refine nq (Q_shr J rfl (nn_some hx28)) J J <| qm J J <| nq (Q_rem J rfl (by decide)) J J ?_
        obtain ⟨x29, hx29, ho26⟩ := bnd ho26
        refine nq (Q_shl J J (nn_some hx29)) J J <| nq (Q_assign J) J J <| WL_nil ?_
        obtain rfl := oi ho26
        refine x_A fun a hf => ⟨shlI .u64 (shrI .u64 x20 ((w64 ((imax x6 (-1)) + 1)).tmod 64)) ((w64 ((imax x6 (-1)) + 1)).tmod 64), J, hf.sub ⟨J, J, J, J, trivial⟩, H⟩
       ·replace ho26 := itF hb ho26
        refine C_skip ?_
        obtain rfl := oi ho26
        refine x_A fun a hf => ⟨x20, J, hf.sub ⟨J, J, J, J, trivial⟩, H⟩
      ·rintro a wd30 ⟨x27, rfl, hf, H⟩
       try dsimp only at ho19
       refine XX.at hf <| xs <| qm J J <| nq (Q_neq J J) J J <| WL_nil <| x_then ?_
       refine C_cond J (fun hb => ?_) (fun hb => ?_)
       ·replace ho19 := itT hb ho19
        refine sr <| qm J J <| nq (Q_mul J J) J J <| qm J J ?_
        obtain ⟨q31, hq31, ho19⟩ := bnd ho19
        refine ne (E_call fn132 J (c_132 H gle gl18  hq31)) J J ?_
        rintro _ wd32 ⟨x33, rfl, rfl, H⟩
        try dsimp only at ho19
        refine nq (Q_add J J) J J <| qa J J <| C_ret <| x_block_ret <| x_then_ret <| x_then_ret <| x_block_ret <| x_then_ret <| x_then_ret ?_
        obtain rfl := oi ho19
        obtain rfl := oi (show some _ = some _ from hB15)
        obtain rfl := hO16 _ rfl
        obtain rfl := oi (show some _ = some _ from hF)
        exact fn_ret (l := [.tmp 4]) (vs := [iV (w64 ((w64 (64 * x12)) + x33))]) J J J ⟨w64 ((w64 (64 * x12)) + x33), J, J, H⟩
       ·replace ho19 := itF hb ho19
        refine C_skip <| x_block ?_
        obtain rfl := oi ho19
        refine x_A fun a hf => ⟨J, hf.sub ⟨J, J, J, trivial⟩, H⟩
     ·rintro a wd34 ⟨rfl, hf, H⟩
      try dsimp only at hB15
      refine CW.at hf <| R_nd <| qm J J <| nq (Q_add J J) J J <| nq (Q_assign J) J J <| WL_nil ?_
      obtain rfl := oi hB15
      refine x_A fun a hf => ⟨_, J, w64 (x12 + 1), J, hf.sub ⟨J, J, J, trivial⟩, H⟩
    ·replace hB15 := itF hb hB15
     refine C_exit <| x_then_exit <| x_then_exit <| x_block_exit ?_
     obtain rfl := oi hB15
     obtain rfl := hO16 _ rfl
     refine x_A fun a hf => ⟨J, hf.sub trivial, H⟩
  ·rintro a wd35 ⟨rfl, hf, H⟩
   try dsimp only at hF
   refine XX.at hf <| xs <| qa J J <| C_ret ?_
   obtain rfl := oi hF
   exact fn_ret (l := [.tmp 4]) (vs := [iV (-1)]) J J J ⟨(-1), J, J, H⟩
theorem c_32 {N : Nat} {C : Cx} {w : World} {ρ : View} {hs : List Hl} {gV : Nat → Value} {b1 : Nat} {c2 : List Value} {v3 : Value} {x4 : (List Int)} {x5 : Int} (H : Hp C w ρ (Box b1 [v3, iV x5] :: Arr v3 1 c2 :: hs)) (gle : GErrs ρ 394 errIds gV) (gl18 : GTab ρ 18 .u8 tab_math_bits_deBruijn64tab) (r6 : rdL (eI .u64) ρ x4 c2) {r : (List Int)} (hF : F_25 N x4 x5 = some r) :
  Calls Tryz.prog 32 [pV b1 0].toArray w (Rets (fun v w' => (∃ (v7 : Value) (c8 : (List Value)) (x9 : (List Int)), x9 = r ∧ v7 = v ∧ rdL (eI .i64) ρ x9 c8 ∧ Hp C w' ρ (Box b1 [v3, iV x5] :: Arr v3 1 c2 :: Arr v7 1 c8 :: hs)))) := by
 unfold F_25 at hF
 have h0 : Tryz.f32.body = some _ := rfl
 refine fn_calls' Tryz.func32 h0 (n := 17) rfl (by simp) <| sr <| qa J J <| sr <| qa J J <| C_seq <| C_seq <| R_nd ?_
 refine qm J J ?_
 obtain ⟨q10, hq10, hF⟩ := bnd hF
 refine ne (E_call fn83 J (c_83 H gle gl18 r6 hq10)) J J ?_
 rintro _ wd11 ⟨x12, rfl, rfl, H⟩
 try dsimp only at hF
 refine qa J J ?_
 obtain ⟨o13, ho13, hF⟩ := bnd hF
 refine C_cutQ (fun a w' => ∃ (v14 : Value) (c15 : (List Value)) (x16 : (List Int)), x16 = o13 ∧ rdL (eI .i64) ρ x16 c15 ∧ Fr 17 a [(3, v14)] ∧ Hp C w' ρ (Box b1 [v3, iV x5] :: Arr v3 1 c2 :: Arr v14 1 c15 :: hs)) ?_ ?_
 ·refine C_block ?_
  have H := H.nilArr 1
  replace H := H.f2.f2
  refine C_iter (f := fun s => F_61 N x4 x5 s.1 s.2) ho13 (fun s a w' => ∃ (v17 : Value) (c18 : (List Value)) (x19 : (List Int)) (x20 : Int), (x19, x20) = s ∧ rdL (eI .i64) ρ x19 c18 ∧ Fr 17 a [(0, pV b1 0), (3, v17), (4, iV x20)] ∧ Hp C w' ρ (Box b1 [v3, iV x5] :: Arr v3 1 c2 :: Arr v17 1 c18 :: hs)) ?_ ?_
  ·exact fun a hf => ⟨(.slice none 0 0), [], [], x12, J, rdL.nil, hf.sub ⟨J, J, J, trivial⟩, H⟩
  ·rintro s o21 a wd22 ⟨v17, c18, x19, x20, rfl, r23, hf, H⟩ hB24 hO25
   replace hB24 : F_61 N x4 x5 x19 x20 = some o21 := hB24
   unfold F_61 at hB24
   refine CW.at hf <| C_seq <| sr <| qm J J <| nq (Q_geq J J) J J <| WL_nil <| x_then ?_
   refine C_cond J (fun hb => ?_) (fun hb => ?_)
   ·replace hB24 := itT hb hB24
    refine C_skip <| x_then <| C_seq <| C_block <| R_nd <| qm J J <| qm J J <| ne (E_bslice (xs := [.tmp 13]) (vs := [iV x20]) H Tryz.underlying23 ty3 (by decide) (cs := [iV x20]) rfl (sz_cons rfl sz_nil) rfl (by simp) (by simp) J J) J J ?_
    rintro _ wd26 ⟨b27, rfl, H⟩
    obtain ⟨x28, hx28, hB24⟩ := bnd hB24
    obtain ⟨ha241a, ha241b⟩ := app_some hx28
    have r29 : rdL (eI .i64) ρ x28 (c18 ++ ([iV x20])) := ha241b ▸ rdL.app r23 (show rdL (eI .i64) ρ ([x20]) ([iV x20]) from ⟨([iV x20]), _, rfl, rfl, rdL.nil⟩)
    refine ne (E_append (k := 3) H rfl Tryz.underlying23 ty3 rfl (by decide) (by decide) J rfl (Src.ofArr (k := 0) H.ok rfl) (rdL.one (show rdL (eI .i64) ρ ([x20]) ([iV x20]) from ⟨([iV x20]), _, rfl, rfl, rdL.nil⟩)) (app_fit r23 (show rdL (eI .i64) ρ ([x20]) ([iV x20]) from ⟨([iV x20]), _, rfl, rfl, rdL.nil⟩) ha241a)) J J ?_
    rintro v30 wd31 ⟨H, hc32⟩
    dsimp only [List.set] at H
    refine nq (Q_assign J) J J <| WL_nil <| x_block <| x_then <| R_nd <| qm J J <| qm J J ?_
    replace H := H.f2.f2
    obtain ⟨q33, hq33, hB24⟩ := bnd hB24
    refine ne (E_call fn83 J (c_83 H gle gl18 r6 hq33)) J J ?_
    rintro _ wd34 ⟨x35, rfl, rfl, H⟩
    try dsimp only at hB24
    refine nq (Q_assign J) J J <| WL_nil ?_
    replace H := H.e2
    obtain rfl := oi hB24
    refine x_A fun a hf => ⟨_, J, v30, (c18 ++ ([iV x20])), x28, x35, J, r29, hf.sub ⟨J, J, J, trivial⟩, H⟩
   ·replace hB24 := itF hb hB24
    refine C_exit <| x_then_exit <| x_then_exit <| x_block_exit ?_
    obtain rfl := oi hB24
    obtain rfl := hO25 _ rfl
    refine x_A fun a hf => ⟨v17, c18, x19, J, r23, hf.sub ⟨J, trivial⟩, H⟩
 ·rintro a wd36 ⟨v14, c15, x16, rfl, r37, hf, H⟩
  try dsimp only at hF
  refine XX.at hf <| xs <| qm J J <| qa J J <| C_ret ?_
  obtain rfl := oi hF
  exact fn_ret (l := [.tmp 2]) (vs := [v14]) J J J ⟨v14, c15, x16, J, J, r37, H⟩
theorem c_130 {N : Nat} {C : Cx} {w : World} {ρ : View} {hs : List Hl} {gV : Nat → Value} {v1 : Value} {v2 : Value} {x3 : (List ((List Int) × (Int × Int × Int × Int) × Int × Int))} {x4 : (List Int)} (H : Hp C w ρ (hs)) (gle : GErrs ρ 394 errIds gV) (r5 : RdSl ρ (eP (eL (eI .i64)) (eP (eP (eI .u64) (eP (eI .u64) (eP (eI .u64) (eI .u64)))) (eP (eI .i64) (eI .i64)))) v1 x3) (_r6 : RdSl ρ (eI .i64) v2 x4) {r : (List Int)} (hF : F_83 N x3 x4 = some r) :
  Calls Tryz.prog 130 [.agg #[v1, v2]].toArray w (Rets (fun v w' => (∃ (b6 : Nat) (v7 : Value) (c8 : (List Value)) (x9 : (List Int)), x9 = r ∧ pV b6 0 = v ∧ rdL (eI .u64) ρ x9 c8 ∧ Hp C w' ρ (Box b6 [v7, iV (x3.length : Int)] :: Arr v7 1 c8 :: hs)))) := by
 unfold F_83 at hF
 have h0 : Tryz.f130.body = some _ := rfl
 refine fn_calls' Tryz.func130 h0 (n := 16) rfl (by simp) <| sr <| ne (E_box H (vs := [v1, v2]) J J) J J ?_
 rintro _ wd10 ⟨b11, rfl, H⟩
 refine qa J J <| sr <| nq (v := pV b11 0) (Q_fld Tryz.underlying135 rfl ty25 (by decide) J J) J J <| nq (v := pV b11 0) (Q_fld Tryz.underlying25 rfl ty22 (by decide) J J) J J <| nq (v := v1) (Q_ldB (k := 0) (cs := [v1]) H.ok rfl ty22 J J rfl (fun _ => J) J) J J <| nq (Q_len Tryz.underlying22 rfl r5) J J ?_
 obtain ⟨q12, hq12, hF⟩ := bnd hF
 refine ne (E_call fn28 J (c_28 H gle   hq12)) J J ?_
 rintro _ wd13 (⟨rfl, rfl, H⟩ | ⟨b14, v15, c16, x17, rfl, rfl, r18, H⟩)
 ·try dsimp only at hF
  refine qm J J <| nq (Q_extract J J) J J <| nq (Q_extract J J) J J <| nq (Q_assign J) J J <| qa J J <| C_seq <| sr <| qm J J <| nq (v := .bool true) (Q_known (by decide) (Q_neqV Tryz.underlying53 gle J)) J J <| WL_nil <| x_then ?_
  refine C_cond J (fun _ => ?_) (fun h => nomatch h)
  refine sr <| qa J J <| C_ret <| x_then_ret ?_
  cases hF
 ·try dsimp only at hF
  refine qm J J <| nq (Q_extract J J) J J <| nq (Q_extract J J) J J <| nq (Q_assign J) J J <| qa J J <| C_seq <| sr <| qm J J <| nq (v := .bool false) (Q_known (by decide) (Q_neqV Tryz.underlying53 gle J)) J J <| WL_nil <| x_then ?_
  refine C_cond J (fun h => nomatch h) (fun _ => ?_)
  refine C_skip <| xs <| qm J J <| qa J J <| C_ret ?_
  replace H := H.e2
  obtain rfl := oi hF
  exact fn_ret (l := [.tmp 2]) (vs := [pV b14 0]) J J J ⟨b14, v15, c16, x17, J, J, r18, H⟩
theorem c_82_1 {N : Nat} {C : Cx} {w : World} {ρ : View} {hs : List Hl} {gV : Nat → Value} {v1 : Value} {v2 : Value} {c3 : List Value} {v4 : Value} {x5 : (List ((List Int) × (Int × Int × Int × Int) × Int × Int))} {x6 : (List Int)} {x7 : (List Int)} (H : Hp C w ρ (Arr v4 1 c3 :: hs)) (gle : GErrs ρ 394 errIds gV) (r8 : RdSl ρ (eP (eL (eI .i64)) (eP (eP (eI .u64) (eP (eI .u64) (eP (eI .u64) (eI .u64)))) (eP (eI .i64) (eI .i64)))) v1 x5) (r9 : RdSl ρ (eI .i64) v2 x6) (r10 : rdL (eI .i64) ρ x7 c3) {r : ((List Int) × (List Int))} (hF : F_18 N x5 x6 x7 = some r) :
  Calls Tryz.prog 82 [.agg #[v1, v2], v4].toArray w (Rets (fun v w' => (∃ (v11 : Value) (c12 : (List Value)) (b13 : Nat) (v14 : Value) (c15 : (List Value)) (x16 : (List Int)) (x17 : (List Int)), (x16, x17) = r ∧ pV b13 0 = v ∧ rdL (eI .i64) ρ x16 c12 ∧ rdL (eI .u64) ρ x17 c15 ∧ Hp C w' ρ (Arr v11 1 c12 :: Box b13 [v14, iV (x5.length : Int)] :: Arr v14 1 c15 :: hs)))) := by
 unfold F_18 at hF
 have h0 : Tryz.f82.body = some _ := rfl
 refine fn_calls' Tryz.func82 h0 (n := 38) rfl (by simp) <| sr <| ne (E_box H (vs := [v1, v2]) J J) J J ?_
 rintro _ wd18 ⟨b19, rfl, H⟩
 refine qa J J <| sr <| nq (v := .agg #[v1, v2]) (Q_ldB (k := 0) (cs := [v1, v2]) H.ok J ty135 J J J (fun h => nomatch h) J) J J ?_
 obtain ⟨q20, hq20, hF⟩ := bnd hF
 refine ne (E_call fn130 J (c_130 H gle  r8 r9 hq20)) J J ?_
 rintro _ wd21 ⟨b22, v23, c24, x25, rfl, rfl, r26, H⟩
 try dsimp only at hF
 refine qa J J <| sr <| qm J J <| qa J J ?_
 obtain ⟨o27, ho27, hF⟩ := bnd hF
 refine C_cut (fun a w' => ∃ (v28 : Value) (c29 : (List Value)) (c30 : (List Value)) (x31 : (List Int)) (x32 : (List Int)), (x31, x32) = o27 ∧ rdL (eI .i64) ρ x31 c29 ∧ rdL (eI .u64) ρ x32 c30 ∧ Fr 38 a [(5, pV b22 0)] ∧ Hp C w' ρ (Arr v28 1 c29 :: Box b22 [v23, iV (x5.length : Int)] :: Arr v23 1 c30 :: hs)) ?_ ?_
 ·refine C_block ?_
  replace H := H.f2.f3
  refine C_iter (f := fun s => F_59 N x5 s.1 s.2) ho27 (fun s a w' => ∃ (v33 : Value) (c34 : (List Value)) (c35 : (List Value)) (x36 : (List Int)) (x37 : (List Int)), (x36, x37) = s ∧ rdL (eI .i64) ρ x36 c34 ∧ rdL (eI .u64) ρ x37 c35 ∧ Fr 38 a [(2, pV b19 0), (5, pV b22 0), (6, v33)] ∧ Hp C w' ρ (Arr v33 1 c34 :: Box b19 [v1, v2] :: Box b22 [v23, iV (x5.length : Int)] :: Arr v23 1 c35 :: hs)) ?_ ?_
  ·exact fun a hf => ⟨v4, c3, c24, x7, x25, J, r10, r26, hf.sub ⟨J, J, J, trivial⟩, H⟩
  ·rintro s o38 a wd39 ⟨v33, c34, c35, x36, x37, rfl, r40, r41, hf, H⟩ hB42 hO43
   replace hB42 : F_59 N x5 x36 x37 = some o38 := hB42
   unfold F_59 at hB42
   refine CW.at hf <| C_seq <| sr <| qm J J <| nq (Q_lenA (k := 0) H.ok rfl r40 (by decide) Tryz.underlying23 J) J J <| nq (Q_gtr J J) J J <| WL_nil <| x_then ?_
   refine C_cond J (fun hb => ?_) (fun hb => ?_)
   ·replace hB42 := itT hb hB42
    refine C_skip <| x_then ?_
    obtain ⟨o44, ho44, hB42⟩ := bnd hB42
    refine C_cutQ (fun a w' => ∃ (v45 : Value) (c46 : (List Value)) (c47 : (List Value)) (x48 : (List Int)) (x49 : (List Int)), (x48, x49) = o44 ∧ rdL (eI .i64) ρ x48 c46 ∧ rdL (eI .u64) ρ x49 c47 ∧ Fr 38 a [(2, pV b19 0), (5, pV b22 0), (6, v45)] ∧ Hp C w' ρ (Arr v45 1 c46 :: Box b19 [v1, v2] :: Box b22 [v23, iV (x5.length : Int)] :: Arr v23 1 c47 :: hs)) ?_ ?_
    ·refine C_block <| sr <| qm J J <| qm J J <| nq (Q_lenA (k := 0) H.ok rfl r40 (by decide) Tryz.underlying23 J) J J <| nq (Q_sub J J) J J ?_
     obtain ⟨x50, hx50, ho44⟩ := bnd ho44
     obtain ⟨b51, o52, hi53, hc54, ha55⟩ := arr_at (hs := [Arr v33 1 c34]) (k := 0) (by decide) (H.okS (by simp)) rfl r40 hx50
     refine nq (Q_idx hi53 Tryz.underlying23 ty3 J J) J J <| nq (v := iV x50) (Q_ld (show cellsAt _ _ _ [iV x50] from (show _ = [_] from hc54) ▸ (ha55 _ (Ok.subS (by simp) H.ok))) ty3 rfl (fun _ => J) J J) J J <| qa J J <| sr <| qm J J <| qm J J <| nq (Q_lenA (k := 0) H.ok rfl r40 (by decide) Tryz.underlying23 J) J J <| nq (Q_sub J J) J J ?_
     obtain ⟨x56, hx56, ho44⟩ := bnd ho44
     obtain ⟨v57, c58, H, r59, hq60⟩ := sliceW (P := Tryz.prog) (en := (eI .i64)) (k := 0) H rfl (by decide) r40 hx56
     dsimp only [List.set] at H
     refine nq (v := v57) (hq60 _ _ _ _ _ _ _ _ _ _ _ _ _ _ _ Tryz.underlying23 ty3 J J ⟨_, J⟩) J J <| qa J J <| sr <| qm J J <| qm J J ?_
     replace H := H.f3.f3
     obtain ⟨q61, hq61, ho44⟩ := bnd ho44
     refine ne (E_call fn29 J (c_29 H gle  r41 hq61)) J J ?_
     rintro _ wd62 ⟨c63, x64, x65, rfl, rfl, r66, H⟩
     try dsimp only at ho44
     refine WL_nil <| x_then ?_
     obtain ⟨o67, ho67, ho44⟩ := bnd ho44
     refine C_cutQ (fun a w' => ∃ (v68 : Value) (c69 : (List Value)) (x70 : (List Int)), x70 = o67 ∧ rdL (eI .i64) ρ x70 c69 ∧ Fr 38 a [(2, pV b19 0), (5, pV b22 0), (6, v68)] ∧ Hp C w' ρ (Arr v68 1 c69 :: Box b19 [v1, v2] :: Box b22 [v23, iV (x5.length : Int)] :: Arr v23 1 c63 :: hs)) ?_ ?_
     ·refine C_cond J (fun hb => ?_) (fun hb => ?_)
      ·replace ho67 := itT hb ho67
       refine R_nd <| qm J J <| nq (v := pV b19 0) (Q_fld Tryz.underlying135 rfl ty25 (by decide) J J) J J <| nq (v := pV b19 0) (Q_fld Tryz.underlying25 rfl ty22 (by decide) J J) J J <| nq (v := v1) (Q_ldB (k := 3) (cs := [v1]) H.ok rfl ty22 J J rfl (fun _ => J) J) J J <| qm J J ?_
       obtain ⟨x71, hx71, ho67⟩ := bnd ho67
       obtain ⟨b72, o73, c74, hc75, ha76, hi77⟩ := idxR r8 hx71
       refine nq (Q_idx hi77 Tryz.underlying22 ty41 J J) J J <| nq (v := .pointer (some ⟨b72, o73 + 0, none⟩)) (Q_fld Tryz.underlying41 rfl ty23 (by decide) rfl (Addr.add_none _ _ _)) J J ?_
       obtain ⟨c78, hc79, ha80⟩ := fstR hc75 ha76
       obtain ⟨v81, he82, r83⟩ := (id hc79)
       refine nq (v := v81) (Q_ld (show cellsAt _ _ _ [v81] from he82 ▸ (ha80.up H.ok.view)) ty23 J (fun _ => J) J J) J J ?_
       obtain ⟨x84, hx84, ho67⟩ := bnd ho67
       obtain ⟨ha1959a, ha1959b⟩ := app_some hx84
       obtain ⟨c85, r86, hs87⟩ := Src.ofRd H.ok r83
       have r88 : rdL (eI .i64) ρ x84 (c58 ++ c85) := ha1959b ▸ rdL.app r59 r86
       refine ne (E_append (k := 2) H rfl Tryz.underlying23 ty3 rfl (by decide) (by decide) J rfl hs87 (rdL.one r86) (app_fit r59 r86 ha1959a)) J J ?_
       rintro v89 wd90 ⟨H, hc91⟩
       dsimp only [List.set] at H
       refine nq (Q_assign J) J J <| WL_nil ?_
       replace H := H.f3.f3
       obtain rfl := oi ho67
       refine x_A fun a hf => ⟨v89, (c58 ++ c85), x84, J, r88, hf.sub ⟨J, J, J, trivial⟩, H⟩
      ·replace ho67 := itF hb ho67
       refine C_skip ?_
       replace H := H.f3.f3
       obtain rfl := oi ho67
       refine x_A fun a hf => ⟨v57, c58, x56, J, r59, hf.sub ⟨J, J, J, trivial⟩, H⟩
     ·rintro a wd92 ⟨v68, c69, x70, rfl, r93, hf, H⟩
      try dsimp only at ho44
      refine XX.at hf <| x_block ?_
      obtain rfl := oi ho44
      refine x_A fun a hf => ⟨v68, c69, c63, x70, x64, J, r93, r66, hf.sub ⟨J, J, J, trivial⟩, H⟩
    ·rintro a wd94 ⟨v45, c46, c47, x48, x49, rfl, r95, r96, hf, H⟩
     try dsimp only at hB42
     refine XX.at hf ?_
     obtain rfl := oi hB42
     refine x_A fun a hf => ⟨_, J, v45, c46, c47, x48, x49, J, r95, r96, hf.sub ⟨J, J, J, trivial⟩, H⟩
   ·replace hB42 := itF hb hB42
    refine C_exit <| x_then_exit <| x_then_exit <| x_block_exit ?_
    replace H := H.e1
    obtain rfl := oi hB42
    obtain rfl := hO43 _ rfl
    refine x_A fun a hf => ⟨v33, c34, c35, x36, x37, J, r40, r41, hf.sub ⟨J, trivial⟩, H⟩
 ·rintro a wd97 ⟨v28, c29, c30, x31, x32, rfl, r98, r99, hf, H⟩
  try dsimp only at hF
  refine CW.at hf <| sr <| qm J J <| qa J J <| C_ret ?_
  obtain rfl := oi hF
  exact fn_ret (l := [.tmp 4]) (vs := [pV b22 0]) J J J ⟨v28, c29, b22, v23, c30, x31, x32, J, J, r98, r99, H⟩
theorem c_34 {N : Nat} {C : Cx} {w : World} {ρ : View} {hs : List Hl} {gV : Nat → Value} {b1 : Nat} {c2 : List Value} {v3 : Value} {x4 : (List Int)} {x5 : Int} (H : Hp C w ρ (Box b1 [v3, iV x5] :: Arr v3 1 c2 :: hs)) (gle : GErrs ρ 394 errIds gV) (gl18 : GTab ρ 18 .u8 tab_math_bits_deBruijn64tab) (r6 : rdL (eI .u64) ρ x4 c2) {r : ByteArray} (hF : F_22 N x4 x5 = some r) :
  Calls Tryz.prog 34 [pV b1 0].toArray w (Rets (fun v w' => (∃ (x7 : ByteArray), x7 = r ∧ .string x7 = v ∧ Hp C w' ρ (Box b1 [v3, iV x5] :: Arr v3 1 c2 :: hs)))) := by
 unfold F_22 at hF
 have h0 : Tryz.f34.body = some _ := rfl
 refine fn_calls' Tryz.func34 h0 (n := 30) rfl (by simp) <| sr <| qa J J <| sr <| qa J J <| C_seq <| C_seq <| R_nd ?_
 refine qm J J ?_
 obtain ⟨q8, hq8, hF⟩ := bnd hF
 refine ne (E_call fn32 J (c_32 H gle gl18 r6 hq8)) J J ?_
 rintro _ wd9 ⟨v10, c11, x12, rfl, rfl, r13, H⟩
 try dsimp only at hF
 refine nq (Q_lenA (k := 2) H.ok rfl r13 (by decide) Tryz.underlying23 J) J J <| qm J J <| WL_nil <| x_then ?_
 obtain ⟨o14, ho14, hF⟩ := bnd hF
 refine C_cutQ (fun a w' => ∃ (v15 : Value) (c16 : (List Value)) (x17 : (List Int)), x17 = o14 ∧ rdL (eI .u8) ρ x17 c16 ∧ Fr 30 a [(3, v15)] ∧ Hp C w' ρ (Box b1 [v3, iV x5] :: Arr v3 1 c2 :: Arr v15 1 c16 :: hs)) ?_ ?_
 ·refine C_block ?_
  have H := H.nilArr 1
  replace H := H.f2.f2
  refine C_iter (f := fun s => F_53 N x12 s.1 s.2) ho14 (fun s a w' => ∃ (v18 : Value) (c19 : (List Value)) (x20 : (List Int)) (x21 : Int), (x20, x21) = s ∧ rdL (eI .u8) ρ x20 c19 ∧ Fr 30 a [(3, v18), (7, v10), (8, iV (x12.length : Int)), (9, iV x21)] ∧ Hp C w' ρ (Box b1 [v3, iV x5] :: Arr v3 1 c2 :: Arr v18 1 c19 :: Arr v10 1 c11 :: hs)) ?_ ?_
  ·exact fun a hf => ⟨(.slice none 0 0), [], [], 0, J, rdL.nil, hf.sub ⟨J, J, J, J, trivial⟩, H⟩
  ·rintro s o22 a wd23 ⟨v18, c19, x20, x21, rfl, r24, hf, H⟩ hB25 hO26
   replace hB25 : F_53 N x12 x20 x21 = some o22 := hB25
   unfold F_53 at hB25
   refine CW.at hf <| sr <| nq (Q_lss J J) J J <| WL_nil <| x_then <| C_seq ?_
   refine C_cond J (fun hb => ?_) (fun hb => ?_)
   ·replace hB25 := itT hb hB25
    refine C_skip <| x_then <| C_seq <| C_block <| C_seq <| R_nd ?_
    obtain ⟨x27, hx27, hB25⟩ := bnd hB25
    obtain ⟨b28, o29, hi30, hc31, ha32⟩ := arr_at (hs := [Arr v10 1 c11]) (k := 0) (by decide) (H.okS (by simp)) rfl r13 hx27
    refine nq (Q_idx hi30 Tryz.underlying23 ty3 J J) J J <| nq (v := iV x27) (Q_ld (show cellsAt _ _ _ [iV x27] from (show _ = [_] from hc31) ▸ (ha32 _ (Ok.subS (by simp) H.ok))) ty3 rfl (fun _ => J) J J) J J <| qa J J <| R_nd <| qm J J <| qm J J <| nq (Q_shr J rfl (by decide)) J J <| nq (Q_cvI ⟨_, Tryz.underlying3⟩ Tryz.underlying5 J) J J <| qm J J <| nq (Q_shr J rfl (by decide)) J J <| nq (Q_cvI ⟨_, Tryz.underlying3⟩ Tryz.underlying5 J) J J <| qm J J ?_
    refine nq (Q_shr J rfl (by decide)) J J <| nq (Q_cvI ⟨_, Tryz.underlying3⟩ Tryz.underlying5 J) J J <| qm J J <| nq (Q_cvI ⟨_, Tryz.underlying3⟩ Tryz.underlying5 J) J J <| ne (E_bslice (xs := [.tmp 16, .tmp 19, .tmp 22, .tmp 24]) (vs := [.int .u8 (IntKind.wrap .u8 (shrI .i64 x27 24)), .int .u8 (IntKind.wrap .u8 (shrI .i64 x27 16)), .int .u8 (IntKind.wrap .u8 (shrI .i64 x27 8)), .int .u8 (IntKind.wrap .u8 x27)]) H Tryz.underlying42 ty5 (by decide) (cs := [.int .u8 (IntKind.wrap .u8 (shrI .i64 x27 24)), .int .u8 (IntKind.wrap .u8 (shrI .i64 x27 16)), .int .u8 (IntKind.wrap .u8 (shrI .i64 x27 8)), .int .u8 (IntKind.wrap .u8 x27)]) rfl (sz_cons rfl (sz_cons rfl (sz_cons rfl (sz_cons rfl sz_nil)))) rfl (by simp) (by simp) J J) J J ?_
    rintro _ wd33 ⟨b34, rfl, H⟩
    obtain ⟨x35, hx35, hB25⟩ := bnd hB25
    obtain ⟨ha285a, ha285b⟩ := app_some hx35
    have r36 : rdL (eI .u8) ρ x35 (c19 ++ ([.int .u8 (IntKind.wrap .u8 (shrI .i64 x27 24)), .int .u8 (IntKind.wrap .u8 (shrI .i64 x27 16)), .int .u8 (IntKind.wrap .u8 (shrI .i64 x27 8)), .int .u8 (IntKind.wrap .u8 x27)])) := ha285b ▸ rdL.app r24 (show rdL (eI .u8) ρ ([IntKind.wrap .u8 (shrI .i64 x27 24), IntKind.wrap .u8 (shrI .i64 x27 16), IntKind.wrap .u8 (shrI .i64 x27 8), IntKind.wrap .u8 x27]) ([.int .u8 (IntKind.wrap .u8 (shrI .i64 x27 24)), .int .u8 (IntKind.wrap .u8 (shrI .i64 x27 16)), .int .u8 (IntKind.wrap .u8 (shrI .i64 x27 8)), .int .u8 (IntKind.wrap .u8 x27)]) from ⟨([.int .u8 (IntKind.wrap .u8 (shrI .i64 x27 24))]), _, rfl, rfl, ⟨([.int .u8 (IntKind.wrap .u8 (shrI .i64 x27 16))]), _, rfl, rfl, ⟨([.int .u8 (IntKind.wrap .u8 (shrI .i64 x27 8))]), _, rfl, rfl, ⟨([.int .u8 (IntKind.wrap .u8 x27)]), _, rfl, rfl, rdL.nil⟩⟩⟩⟩)
    refine ne (E_append (k := 3) H rfl Tryz.underlying42 ty5 rfl (by decide) (by decide) J rfl (Src.ofArr (k := 0) H.ok rfl) (rdL.one (show rdL (eI .u8) ρ ([IntKind.wrap .u8 (shrI .i64 x27 24), IntKind.wrap .u8 (shrI .i64 x27 16), IntKind.wrap .u8 (shrI .i64 x27 8), IntKind.wrap .u8 x27]) ([.int .u8 (IntKind.wrap .u8 (shrI .i64 x27 24)), .int .u8 (IntKind.wrap .u8 (shrI .i64 x27 16)), .int .u8 (IntKind.wrap .u8 (shrI .i64 x27 8)), .int .u8 (IntKind.wrap .u8 x27)]) from ⟨([.int .u8 (IntKind.wrap .u8 (shrI .i64 x27 24))]), _, rfl, rfl, ⟨([.int .u8 (IntKind.wrap .u8 (shrI .i64 x27 16))]), _, rfl, rfl, ⟨([.int .u8 (IntKind.wrap .u8 (shrI .i64 x27 8))]), _, rfl, rfl, ⟨([.int .u8 (IntKind.wrap .u8 x27)]), _, rfl, rfl, rdL.nil⟩⟩⟩⟩)) (app_fit r24 (show rdL (eI .u8) ρ ([IntKind.wrap .u8 (shrI .i64 x27 24), IntKind.wrap .u8 (shrI .i64 x27 16), IntKind.wrap .u8 (shrI .i64 x27 8), IntKind.wrap .u8 x27]) ([.int .u8 (IntKind.wrap .u8 (shrI .i64 x27 24)), .int .u8 (IntKind.wrap .u8 (shrI .i64 x27 16)), .int .u8 (IntKind.wrap .u8 (shrI .i64 x27 8)), .int .u8 (IntKind.wrap .u8 x27)]) from ⟨([.int .u8 (IntKind.wrap .u8 (shrI .i64 x27 24))]), _, rfl, rfl, ⟨([.int .u8 (IntKind.wrap .u8 (shrI .i64 x27 16))]), _, rfl, rfl, ⟨([.int .u8 (IntKind.wrap .u8 (shrI .i64 x27 8))]), _, rfl, rfl, ⟨([.int .u8 (IntKind.wrap .u8 x27)]), _, rfl, rfl, rdL.nil⟩⟩⟩⟩) ha285a)) J J ?_
    rintro v37 wd38 ⟨H, hc39⟩
    dsimp only [List.set] at H
    refine nq (Q_assign J) J J <| WL_nil <| x_block <| x_then <| R_nd <| nq (Q_add J J) J J <| qm J J <| WL_nil ?_
    replace H := H.e0
    obtain rfl := oi hB25
    refine x_A fun a hf => ⟨_, J, v37, (c19 ++ ([.int .u8 (IntKind.wrap .u8 (shrI .i64 x27 24)), .int .u8 (IntKind.wrap .u8 (shrI .i64 x27 16)), .int .u8 (IntKind.wrap .u8 (shrI .i64 x27 8)), .int .u8 (IntKind.wrap .u8 x27)])), x35, w64 (x21 + 1), J, r36, hf.sub ⟨J, J, J, J, trivial⟩, H⟩
   ·replace hB25 := itF hb hB25
    refine C_exit <| x_then_exit <| x_then_exit <| x_block_exit ?_
    replace H := H.e3
    obtain rfl := oi hB25
    obtain rfl := hO26 _ rfl
    refine x_A fun a hf => ⟨v18, c19, x20, J, r24, hf.sub ⟨J, trivial⟩, H⟩
 ·rintro a wd40 ⟨v15, c16, x17, rfl, r41, hf, H⟩
  try dsimp only at hF
  refine XX.at hf <| xs <| qm J J <| ne (E_bstrA (k := 2) H J r41 Tryz.underlying42 Tryz.underlying5 Tryz.underlying9 J) J J ?_
  rintro _ wd42 ⟨rfl, rfl⟩
  refine qa J J <| C_ret ?_
  replace H := H.e2
  obtain rfl := oi hF
  exact fn_ret (l := [.tmp 2]) (vs := [.string (bstr x17)]) J J J ⟨bstr x17, J, J, H⟩
theorem c_84 {N : Nat} {C : Cx} {w : World} {ρ : View} {hs : List Hl} {gV : Nat → Value} {v1 : Value} {v2 : Value} {x3 : (List ((List Int) × (Int × Int × Int × Int) × Int × Int))} {x4 : (List Int)} {x5 : Int} (H : Hp C w ρ (hs)) (gle : GErrs ρ 394 errIds gV) (r6 : RdSl ρ (eP (eL (eI .i64)) (eP (eP (eI .u64) (eP (eI .u64) (eP (eI .u64) (eI .u64)))) (eP (eI .i64) (eI .i64)))) v1 x3) (r7 : RdSl ρ (eI .i64) v2 x4) {r : (List Int)} (hF : F_96 N x3 x4 x5 = some r) :
  Calls Tryz.prog 84 [.agg #[v1, v2], iV x5].toArray w (Rets (fun v w' => (∃ (b8 : Nat) (v9 : Value) (c10 : (List Value)) (x11 : (List Int)), x11 = r ∧ pV b8 0 = v ∧ rdL (eI .u64) ρ x11 c10 ∧ Hp C w' ρ (Box b8 [v9, iV (x3.length : Int)] :: Arr v9 1 c10 :: hs)))) := by
 unfold F_96 at hF
 have h0 : Tryz.f84.body = some _ := rfl
 refine fn_calls' Tryz.func84 h0 (n := 26) rfl (by simp) <| sr <| ne (E_box H (vs := [v1, v2]) J J) J J ?_
 rintro _ wd12 ⟨b13, rfl, H⟩
 refine qa J J <| C_seq ?_
 obtain ⟨o14, ho14, hF⟩ := bnd hF
 refine C_cut (fun a w' => ∃ (x15 : Bool), x15 = o14 ∧ Fr 26 a [(1, iV x5), (2, pV b13 0), (14, .bool x15)] ∧ Hp C w' ρ (Box b13 [v1, v2] :: hs)) ?_ ?_
 ·refine R_nd <| qm J J <| nq (Q_lss J J) J J <| qm J J ?_
  rcases Bool.eq_false_or_eq_true (decide (x5 < 0)) with hb | hb
  ·rw [hb]
   replace ho14 := itT hb ho14
   refine gs J J J J <| gs J J J J <| gs J J J J <| gs J J J J <| gs J J J J <| gs J J J J <| nq (Q_pickT J J) J J <| WL_nil ?_
   obtain rfl := oi ho14
   refine x_A fun a hf => ⟨true, J, hf.sub ⟨J, J, J, trivial⟩, H⟩
  ·rw [hb]
   replace ho14 := itF hb ho14
   refine gq (Q_move J) J J J <| gq (v := pV b13 0) (Q_fld Tryz.underlying135 rfl ty25 (by decide) J J) J J J <| gq (v := pV b13 1) (Q_fld Tryz.underlying25 rfl ty23 (by decide) J J) J J J <| gq (v := v2) (Q_ldB (k := 0) (cs := [v2]) H.ok rfl ty23 J J rfl (fun _ => J) J) J J J <| gq (Q_len Tryz.underlying23 rfl r7) J J J <| gq (Q_geq J J) J J J <| nq (Q_pickF J J) J J <| WL_nil ?_
   obtain rfl := oi ho14
   refine x_A fun a hf => ⟨decide (x5 ≥ (x4.length : Int)), J, hf.sub ⟨J, J, J, trivial⟩, H⟩
 ·rintro a wd16 ⟨x15, rfl, hf, H⟩
  try dsimp only at hF
  refine CW.at hf ?_
  refine C_cond J (fun hb => ?_) (fun hb => ?_)
  ·replace hF := itT hb hF
   refine sr <| nq (v := .agg #[v1, v2]) (Q_ldB (k := 0) (cs := [v1, v2]) H.ok J ty135 J J J (fun h => nomatch h) J) J J ?_
   obtain ⟨q17, hq17, hF⟩ := bnd hF
   refine ne (E_call fn130 J (c_130 H gle  r6 r7 hq17)) J J ?_
   rintro _ wd18 ⟨b19, v20, c21, x22, rfl, rfl, r23, H⟩
   try dsimp only at hF
   refine qa J J <| C_ret <| x_then_ret ?_
   replace H := H.e2
   obtain rfl := oi hF
   exact fn_ret (l := [.tmp 4]) (vs := [pV b19 0]) J J J ⟨b19, v20, c21, x22, J, J, r23, H⟩
  ·replace hF := itF hb hF
   refine C_skip <| x_then <| C_seq <| R_dr (.take 0 (.take 1 (.take 2 (.take 3 (.take 4 (.take 5 (.take 6 (.one 7 (.bar 8 none (.take 9 .done)))))))))) (some 8) (S := fun w' => Ok w' ρ [Box b13 [v1, v2]]) hm0 (by kernel_rfl) (H.drew.okS (by simp)) ?_
   replace H := H.drew
   refine dq (v := .agg #[v1, v2]) rfl (fun _ hw => Q_ldB (k := 0) (cs := [v1, v2]) hw rfl ty135 J J rfl (fun h => nomatch h) J) J J <| dq (v := pV b13 0) rfl (fun _ _ => Q_fld Tryz.underlying135 rfl ty25 (by decide) J J) J J <| dq (v := pV b13 1) rfl (fun _ _ => Q_fld Tryz.underlying25 rfl ty23 (by decide) J J) J J <| dq (v := v2) rfl (fun _ hw => Q_ldB (k := 0) (cs := [v2]) hw rfl ty23 J J rfl (fun _ => J) J) J J <| dq rfl (fun _ _ => Q_move J) J J ?_
   obtain ⟨x24, hx24, hF⟩ := bnd hF
   obtain ⟨b25, o26, c27, hc28, ha29, hi30⟩ := idxR r7 hx24
   refine dq J (fun _ _ => Q_idx hi30 Tryz.underlying23 ty3 J J) J J <| dq (v := iV x24) J (fun _ hw => Q_ld (show cellsAt _ _ _ [iV x24] from (show _ = [_] from hc28) ▸ (ha29.up hw.view)) ty3 J (fun _ => J) J J) J J ?_
   refine d1 (de rfl (E_bslice (xs := [.tmp 23]) (vs := [iV x24]) H Tryz.underlying23 ty3 (by decide) (cs := [iV x24]) rfl (sz_cons rfl sz_nil) rfl (by simp) (by simp) J J) J J ?_)
   rintro _ wd31 ⟨b32, rfl, H⟩
   refine ⟨H.okS (by simp), ?_⟩
   obtain ⟨q33, hq33, hF⟩ := bnd hF
   refine db J (E_call fn82 J (c_82_1 H gle  r6 r7 (show rdL (eI .i64) ρ ([x24]) ([iV x24]) from ⟨([iV x24]), _, J, J, rdL.nil⟩) hq33)) J J ?_
   rintro _ wd34 ⟨v35, c36, b37, v38, c39, x40, x41, rfl, rfl, r42, r43, H⟩
   try dsimp only at hF
   refine H.okF <| dq J (fun _ _ => Q_assign J) J J <| DL_nil <| x_then <| C_ret ?_
   replace H := H.e3.e0
   obtain rfl := oi hF
   exact fn_ret (l := [.tmp 4]) (vs := [pV b37 0]) J J J ⟨b37, v38, c39, x41, J, J, r43, H⟩
theorem c_35 {N : Nat} {C : Cx} {w : World} {ρ : View} {hs : List Hl} {gV : Nat → Value} {v1 : Value} {v2 : Value} {x3 : (List ((List Int) × (Int × Int × Int × Int) × Int × Int))} {x4 : (List Int)} {x5 : Int} (H : Hp C w ρ (hs)) (gle : GErrs ρ 394 errIds gV) (r6 : RdSl ρ (eP (eL (eI .i64)) (eP (eP (eI .u64) (eP (eI .u64) (eP (eI .u64) (eI .u64)))) (eP (eI .i64) (eI .i64)))) v1 x3) (r7 : RdSl ρ (eI .i64) v2 x4) {r : (List Int)} (hF : F_81 N x3 x4 x5 = some r) :
  Calls Tryz.prog 35 [.agg #[v1, v2], iV x5].toArray w (Rets (fun v w' => (∃ (b8 : Nat) (v9 : Value) (c10 : (List Value)) (x11 : (List Int)), x11 = r ∧ pV b8 0 = v ∧ rdL (eI .u64) ρ x11 c10 ∧ Hp C w' ρ (Box b8 [v9, iV (x3.length : Int)] :: Arr v9 1 c10 :: hs)))) := by
 unfold F_81 at hF
 have h0 : Tryz.f35.body = some _ := rfl
 refine fn_calls' Tryz.func35 h0 (n := 12) rfl (by simp) <| sr <| ne (E_box H (vs := [v1, v2]) J J) J J ?_
 rintro _ wd12 ⟨b13, rfl, H⟩
 refine qa J J <| C_seq <| sr <| nq (v := .agg #[v1, v2]) (Q_ldB (k := 0) (cs := [v1, v2]) H.ok J ty25 J J J (fun h => nomatch h) J) J J ?_
 obtain ⟨q14, hq14, hF⟩ := bnd hF
 refine ne (E_call fn18 J (c_18 H gle  r6 r7 hq14)) J J ?_
 rintro _ wd15 ⟨x16, rfl, rfl, H⟩
 try dsimp only at hF
 refine nq (Q_not J) J J <| WL_nil <| x_then ?_
 refine C_cond J (fun hb => ?_) (fun hb => ?_)
 ·replace hF := itT hb hF
  refine sr <| qa J J <| C_ret <| x_then_ret ?_
  cases hF
 ·replace hF := itF hb hF
  refine C_skip <| xs <| nq (v := .agg #[v1, v2]) (Q_ldB (k := 0) (cs := [v1, v2]) H.ok rfl ty25 J J rfl (fun h => nomatch h) J) J J <| nq (v := .agg #[v1, v2]) (Q_buildS st135.choose_spec (ps := [(0, [v1, v2])]) rfl ⟨rfl, rfl, by simp, trivial⟩ J) J J <| qm J J ?_
  obtain ⟨q17, hq17, hF⟩ := bnd hF
  refine ne (E_call fn84 J (c_84 H gle  r6 r7 hq17)) J J ?_
  rintro _ wd18 ⟨b19, v20, c21, x22, rfl, rfl, r23, H⟩
  try dsimp only at hF
  refine qa J J <| C_ret ?_
  replace H := H.e2
  obtain rfl := oi hF
  exact fn_ret (l := [.tmp 4]) (vs := [pV b19 0]) J J J ⟨b19, v20, c21, x22, J, J, r23, H⟩
theorem c_39 {N : Nat} {C : Cx} {w : World} {ρ : View} {hs : List Hl} {gV : Nat → Value} {v1 : Value} {v2 : Value} {v3 : Value} {x4 : (List ((List Int) × (Int × Int × Int × Int) × Int × Int))} {x5 : (List Int)} {x6 : (List Bool)} (H : Hp C w ρ (hs)) (_gle : GErrs ρ 394 errIds gV) (r7 : RdSl ρ (eP (eL (eI .i64)) (eP (eP (eI .u64) (eP (eI .u64) (eP (eI .u64) (eI .u64)))) (eP (eI .i64) (eI .i64)))) v1 x4) (_r6 : RdSl ρ (eI .i64) v2 x5) (r8 : RdSl ρ eB v3 x6) {r : (List Bool)} (hF : F_3 N x4 x5 x6 = some r) :
  Calls Tryz.prog 39 [.agg #[v1, v2], v3].toArray w (Rets (fun v w' => (∃ (v9 : Value) (c10 : (List Value)) (x11 : (List Bool)), x11 = r ∧ v9 = v ∧ rdL eB ρ x11 c10 ∧ Hp C w' ρ (Arr v9 1 c10 :: hs)))) := by
 unfold F_3 at hF
 have h0 : Tryz.f39.body = some _ := rfl
 refine fn_calls' Tryz.func39 h0 (n := 47) rfl (by simp) <| sr <| ne (E_box H (vs := [v1, v2]) J J) J J ?_
 rintro _ wd12 ⟨b13, rfl, H⟩
 refine qa J J <| sr <| ne (E_bslice0 H Tryz.underlying65 ty4) J J ?_
 rintro _ wd14 ⟨b15, rfl, H⟩
 refine qm J J ?_
 obtain ⟨x16, hx16, hF⟩ := bnd hF
 obtain ⟨ha33273a, ha33273b⟩ := app_some hx16
 obtain ⟨c17, r18, hs19⟩ := Src.ofRd H.ok r8
 have r20 : rdL eB ρ x16 (([]) ++ c17) := ha33273b ▸ rdL.app rdL.nil r18
 refine ne (E_append (k := 0) H rfl Tryz.underlying65 ty4 rfl (by decide) (by decide) J rfl hs19 (rdL.one r18) (app_fit rdL.nil r18 ha33273a)) J J ?_
 rintro v21 wd22 ⟨H, hc23⟩
 dsimp only [List.set] at H
 refine qa J J <| C_seq <| sr <| qa J J ?_
 obtain ⟨o24, ho24, hF⟩ := bnd hF
 refine C_cutQ (fun a w' => ∃ (c25 : (List Value)) (x26 : (List Bool)), x26 = o24 ∧ rdL eB ρ x26 c25 ∧ Fr 47 a [(5, v21)] ∧ Hp C w' ρ (Arr v21 1 c25 :: hs)) ?_ ?_
 ·refine C_block ?_
  replace H := H.f1
  refine C_iter (f := fun s => F_60 N x4 s.1 s.2) ho24 (fun s a w' => ∃ (c27 : (List Value)) (x28 : (List Bool)) (x29 : Bool), (x28, x29) = s ∧ rdL eB ρ x28 c27 ∧ Fr 47 a [(2, pV b13 0), (5, v21), (6, .bool x29)] ∧ Hp C w' ρ (Box b13 [v1, v2] :: Arr v21 1 c27 :: hs)) ?_ ?_
  ·exact fun a hf => ⟨(([]) ++ c17), x16, true, J, r20, hf.sub ⟨J, J, J, trivial⟩, H⟩
  ·rintro s o30 a wd31 ⟨c27, x28, x29, rfl, r32, hf, H⟩ hB33 hO34
   replace hB33 : F_60 N x4 x28 x29 = some o30 := hB33
   unfold F_60 at hB33
   refine CW.at hf <| C_seq <| sr <| qm J J <| WL_nil <| x_then ?_
   refine C_cond J (fun hb => ?_) (fun hb => ?_)
   ·replace hB33 := itT hb hB33
    refine C_skip <| x_then <| C_block <| sr <| qa J J <| sr <| nq (v := pV b13 0) (Q_fld Tryz.underlying29 rfl ty27 (by decide) J J) J J <| nq (v := v1) (Q_ldB (k := 0) (cs := [v1]) H.ok rfl ty27 J J rfl (fun _ => J) J) J J <| nq (Q_len Tryz.underlying27 rfl r7) J J <| qm J J ?_
    refine WL_nil <| x_then ?_
    obtain ⟨o35, ho35, hB33⟩ := bnd hB33
    refine C_cutQ (fun a w' => ∃ (c36 : (List Value)) (x37 : (List Bool)) (x38 : Bool), (x37, x38) = o35 ∧ rdL eB ρ x37 c36 ∧ Fr 47 a [(2, pV b13 0), (5, v21), (6, .bool x38)] ∧ Hp C w' ρ (Box b13 [v1, v2] :: Arr v21 1 c36 :: hs)) ?_ ?_
    ·refine C_block ?_
     refine C_iter (f := fun s => F_48 N x4 s.1 s.2.1 s.2.2) ho35 (fun s a w' => ∃ (c39 : (List Value)) (x40 : Int) (x41 : (List Bool)) (x42 : Bool), (x40, x41, x42) = s ∧ rdL eB ρ x41 c39 ∧ Fr 47 a [(2, pV b13 0), (5, v21), (6, .bool x42), (16, v1), (17, iV (x4.length : Int)), (18, iV x40)] ∧ Hp C w' ρ (Box b13 [v1, v2] :: Arr v21 1 c39 :: hs)) ?_ ?_
     ·exact fun a hf => ⟨c27, 0, x28, false, J, r32, hf.sub ⟨J, J, J, J, J, J, trivial⟩, H⟩
     ·rintro s o43 a wd44 ⟨c39, x40, x41, x42, rfl, r45, hf, H⟩ hB46 hO47
      replace hB46 : F_48 N x4 x40 x41 x42 = some o43 := hB46
      unfold F_48 at hB46
      refine CW.at hf <| sr <| nq (Q_lss J J) J J <| WL_nil <| x_then <| C_seq ?_
      refine C_cond J (fun hb => ?_) (fun hb => ?_)
      ·replace hB46 := itT hb hB46
       refine C_skip <| x_then <| C_seq <| C_block <| sr <| qm J J ?_
       obtain ⟨x48, hx48, hB46⟩ := bnd hB46
       obtain ⟨b49, o50, c51, hc52, ha53, hi54⟩ := idxR r7 hx48
       refine nq (Q_idx hi54 Tryz.underlying27 ty126 J J) J J ?_
       obtain ⟨c55, c56, he57, hc58, hc59⟩ := (id hc52)
       obtain ⟨v60, he61, r62⟩ := hc58
       obtain ⟨c63, c64, he65, hc66, hc67⟩ := hc59
       obtain ⟨c68, c69, he70, hc71, hc72⟩ := hc66
       obtain ⟨c73, c74, he75, hc76, hc77⟩ := hc72
       obtain ⟨c78, c79, he80, hc81, hc82⟩ := hc77
       obtain ⟨c83, c84, he85, hc86, hc87⟩ := hc67
       refine nq (v := .agg #[v60, uV x48.2.1.1, uV x48.2.1.2.1, uV x48.2.1.2.2.1, uV x48.2.1.2.2.2, iV x48.2.2.1, iV x48.2.2.2]) (Q_ld (show cellsAt _ _ _ [v60, uV x48.2.1.1, uV x48.2.1.2.1, uV x48.2.1.2.2.1, uV x48.2.1.2.2.2, iV x48.2.2.1, iV x48.2.2.2] from cellsAt.cg (cat2 he57 he61 (cat2 he65 (cat2 he70 (rdI hc71) (cat2 he75 (rdI hc76) (cat2 he80 (rdI hc81) (rdI hc82)))) (cat2 he85 (rdI hc86) (rdI hc87)))) (ha53.up H.ok.view)) ty126 J (fun h => nomatch h) J J) J J <| ne (E_alloc H ty126 (zs := [.slice none 0 0, uV 0, uV 0, uV 0, uV 0, iV 0, iV 0]) J) J J ?_
       rintro _ wd88 ⟨b89, rfl, H⟩
       refine nq (Q_assign J) J J <| ne (E_stB (k := 0) (cs := [v60, uV x48.2.1.1, uV x48.2.1.2.1, uV x48.2.1.2.2.1, uV x48.2.1.2.2.2, iV x48.2.2.1, iV x48.2.2.2]) (vs' := [v60, uV x48.2.1.1, uV x48.2.1.2.1, uV x48.2.1.2.2.1, uV x48.2.1.2.2.2, iV x48.2.2.1, iV x48.2.2.2]) H rfl ty126 J J J rfl (one_cons (RdSl.one r62) (one_cons rfl (one_cons rfl (one_cons rfl (one_cons rfl (one_cons rfl (one_cons rfl one_nil))))))) (by simp) J) J J ?_
       rintro _ wd90 H
       dsimp only [List.set] at H
       refine WL_nil <| xs <| nq (v := pV b89 0) (Q_fld Tryz.underlying126 rfl ty23 (by decide) J J) J J <| nq (v := v60) (Q_ldB (k := 0) (cs := [v60]) H.ok rfl ty23 J J rfl (fun _ => J) J) J J <| nq (Q_len Tryz.underlying23 rfl r62) J J <| qm J J <| WL_nil <| x_then ?_
       obtain ⟨o91, ho91, hB46⟩ := bnd hB46
       refine C_cutQ (fun a w' => ∃ (c92 : (List Value)) (x93 : (List Bool)) (x94 : Bool), (x93, x94) = o91 ∧ rdL eB ρ x93 c92 ∧ Fr 47 a [(2, pV b13 0), (5, v21), (6, .bool x94), (16, v1), (17, iV (x4.length : Int)), (18, iV x40)] ∧ Hp C w' ρ (Box b13 [v1, v2] :: Arr v21 1 c92 :: hs)) ?_ ?_
       ·refine C_block ?_
        replace H := H.e0
        refine C_iter (f := fun s => F_49 N x40 x48 s.1 s.2.1 s.2.2) ho91 (fun s a w' => ∃ (c95 : (List Value)) (x96 : Int) (x97 : (List Bool)) (x98 : Bool), (x96, x97, x98) = s ∧ rdL eB ρ x97 c95 ∧ Fr 47 a [(2, pV b13 0), (5, v21), (6, .bool x98), (7, iV x40), (16, v1), (17, iV (x4.length : Int)), (18, iV x40), (24, v60), (25, iV (x48.1.length : Int)), (26, iV x96)] ∧ Hp C w' ρ (Box b13 [v1, v2] :: Arr v21 1 c95 :: hs)) ?_ ?_
        ·exact fun a hf => ⟨c39, 0, x41, x42, J, r45, hf.sub ⟨J, J, J, J, J, J, J, J, J, J, trivial⟩, H⟩
        ·rintro s o99 a wd100 ⟨c95, x96, x97, x98, rfl, r101, hf, H⟩ hB102 hO103
         replace hB102 : F_49 N x40 x48 x96 x97 x98 = some o99 := hB102
         unfold F_49 at hB102
         refine CW.at hf <| sr <| nq (Q_lss J J) J J <| WL_nil <| x_then <| C_seq ?_
         refine C_cond J (fun hb => ?_) (fun hb => ?_)
         ·replace hB102 := itT hb hB102
          refine C_skip <| x_then ?_
          obtain ⟨o104, ho104, hB102⟩ := bnd hB102
          refine C_cut (fun a w' => ∃ (c105 : (List Value)) (x106 : (List Bool)) (x107 : Bool), (x106, x107) = o104 ∧ rdL eB ρ x106 c105 ∧ Fr 47 a [(2, pV b13 0), (5, v21), (6, .bool x107), (7, iV x40), (16, v1), (17, iV (x4.length : Int)), (18, iV x40), (24, v60), (25, iV (x48.1.length : Int)), (26, iV x96)] ∧ Hp C w' ρ (Box b13 [v1, v2] :: Arr v21 1 c105 :: hs)) ?_ ?_
          ·refine C_block <| C_seq <| R_nd ?_
           obtain ⟨x108, hx108, ho104⟩ := bnd ho104
           obtain ⟨b109, o110, c111, hc112, ha113, hi114⟩ := idxR r62 hx108
           refine nq (Q_idx hi114 Tryz.underlying23 ty3 J J) J J <| nq (v := iV x108) (Q_ld (show cellsAt _ _ _ [iV x108] from (show _ = [_] from hc112) ▸ (ha113.up H.ok.view)) ty3 J (fun _ => J) J J) J J <| qa J J ?_
           obtain ⟨o115, ho115, ho104⟩ := bnd ho104
           refine C_cut (fun a w' => ∃ (x116 : Bool), x116 = o115 ∧ Fr 47 a [(2, pV b13 0), (5, v21), (6, .bool x98), (7, iV x40), (10, iV x108), (16, v1), (17, iV (x4.length : Int)), (18, iV x40), (24, v60), (25, iV (x48.1.length : Int)), (26, iV x96), (40, .bool x116)] ∧ Hp C w' ρ (Box b13 [v1, v2] :: Arr v21 1 c95 :: hs)) ?_ ?_
           ·refine R_nd <| qm J J <| qm J J ?_
            obtain ⟨x117, hx117, ho115⟩ := bnd ho115
            obtain ⟨b118, o119, hi120, hc121, ha122⟩ := arr_at (hs := [Arr v21 1 c95]) (k := 0) (by decide) (H.okS (by simp)) rfl r101 hx117
            refine nq (Q_idx hi120 Tryz.underlying65 ty4 J J) J J <| nq (v := .bool x117) (Q_ld (show cellsAt _ _ _ [.bool x117] from (show _ = [_] from hc121) ▸ (ha122 _ (Ok.subS (by simp) H.ok))) ty4 rfl (fun _ => J) J J) J J <| qm J J ?_
            rcases Bool.eq_false_or_eq_true x117 with hb | hb
            ·rw [hb]
             replace ho115 := itT hb ho115
             refine gq (Q_move J) J J J <| gq (Q_move J) J J J ?_
             obtain ⟨x123, hx123, ho115⟩ := bnd ho115
             obtain ⟨b124, o125, hi126, hc127, ha128⟩ := arr_at (hs := [Arr v21 1 c95]) (k := 0) (by decide) (H.okS (by simp)) rfl r101 hx123
             refine gq (Q_idx hi126 Tryz.underlying65 ty4 J J) J J J <| gq (v := .bool x123) (Q_ld (show cellsAt _ _ _ [.bool x123] from (show _ = [_] from hc127) ▸ (ha128 _ (Ok.subS (by simp) H.ok))) ty4 rfl (fun _ => J) J J) J J J <| gq (Q_not J) J J J <| nq (Q_pickT J J) J J <| WL_nil ?_
             obtain rfl := oi ho115
             refine x_A fun a hf => ⟨!x123, J, hf.sub ⟨J, J, J, J, J, J, J, J, J, J, J, J, trivial⟩, H⟩
            ·rw [hb]
             replace ho115 := itF hb ho115
             refine gs J J J J <| gs J J J J <| gs J J J J <| gs J J J J <| gs J J J J <| nq (Q_pickF J J) J J <| WL_nil ?_
             obtain rfl := oi ho115
             refine x_A fun a hf => ⟨false, J, hf.sub ⟨J, J, J, J, J, J, J, J, J, J, J, J, trivial⟩, H⟩
           ·rintro a wd129 ⟨x116, rfl, hf, H⟩
            try dsimp only at ho104
            refine CW.at hf ?_
            obtain ⟨o130, ho130, ho104⟩ := bnd ho104
            refine C_cutQ (fun a w' => ∃ (c131 : (List Value)) (x132 : (List Bool)) (x133 : Bool), (x132, x133) = o130 ∧ rdL eB ρ x132 c131 ∧ Fr 47 a [(2, pV b13 0), (5, v21), (6, .bool x133), (7, iV x40), (16, v1), (17, iV (x4.length : Int)), (18, iV x40), (24, v60), (25, iV (x48.1.length : Int)), (26, iV x96)] ∧ Hp C w' ρ (Box b13 [v1, v2] :: Arr v21 1 c131 :: hs)) ?_ ?_
            ·refine C_cond J (fun hb => ?_) (fun hb => ?_)
             ·replace ho130 := itT hb ho130
              refine sr <| qm J J <| qm J J ?_
              obtain ⟨x134, hx134, ho130⟩ := bnd ho130
              obtain ⟨b135, o136, hi137, hc138, ha139⟩ := arr_at (hs := [Arr v21 1 c95]) (k := 0) (by decide) (H.okS (by simp)) rfl r101 hx134
              refine nq (Q_idx hi137 Tryz.underlying65 ty4 J J) J J ?_
              obtain ⟨x140, hx140, ho130⟩ := bnd ho130
              obtain ⟨hs66514a, hs66514b, hs66514c⟩ := setI_some hx140
              have r141 : rdL eB ρ x140 (setC c95 (x108.toNat * 1 + 0) [.bool true]) := hs66514c ▸ rdL.set r101 hs66514b (rfl)
              refine ne (E_stA (k := 1) (j := 0) (c := [.bool true]) H rfl ty4 hi137 J J J rfl (one_cons rfl one_nil) (by decide)) J J ?_
              rintro _ wd142 H
              dsimp only [List.set] at H
              refine WL_nil <| x_then <| R_nd <| nq (Q_assign J) J J <| WL_nil ?_
              obtain rfl := oi ho130
              refine x_A fun a hf => ⟨(setC c95 (x108.toNat * 1 + 0) [.bool true]), x140, true, J, r141, hf.sub ⟨J, J, J, J, J, J, J, J, J, J, trivial⟩, H⟩
             ·replace ho130 := itF hb ho130
              refine C_skip ?_
              obtain rfl := oi ho130
              refine x_A fun a hf => ⟨c95, x97, x98, J, r101, hf.sub ⟨J, J, J, J, J, J, J, J, J, J, trivial⟩, H⟩
            ·rintro a wd143 ⟨c131, x132, x133, rfl, r144, hf, H⟩
             try dsimp only at ho104
             refine XX.at hf <| x_block ?_
             obtain rfl := oi ho104
             refine x_A fun a hf => ⟨c131, x132, x133, J, r144, hf.sub ⟨J, J, J, J, J, J, J, J, J, J, trivial⟩, H⟩
          ·rintro a wd145 ⟨c105, x106, x107, rfl, r146, hf, H⟩
           try dsimp only at hB102
           refine CW.at hf <| R_nd <| nq (Q_add J J) J J <| qm J J <| WL_nil ?_
           obtain rfl := oi hB102
           refine x_A fun a hf => ⟨_, J, c105, w64 (x96 + 1), x106, x107, J, r146, hf.sub ⟨J, J, J, J, J, J, J, J, J, J, trivial⟩, H⟩
         ·replace hB102 := itF hb hB102
          refine C_exit <| x_then_exit <| x_then_exit <| x_block_exit ?_
          obtain rfl := oi hB102
          obtain rfl := hO103 _ rfl
          refine x_A fun a hf => ⟨c95, x97, x98, J, r101, hf.sub ⟨J, J, J, J, J, J, trivial⟩, H⟩
       ·rintro a wd147 ⟨c92, x93, x94, rfl, r148, hf, H⟩
        try dsimp only at hB46
        refine XX.at hf <| x_block <| x_then <| R_nd <| nq (Q_add J J) J J <| qm J J <| WL_nil ?_
        obtain rfl := oi hB46
        refine x_A fun a hf => ⟨_, J, c92, w64 (x40 + 1), x93, x94, J, r148, hf.sub ⟨J, J, J, J, J, J, trivial⟩, H⟩
      ·replace hB46 := itF hb hB46
       refine C_exit <| x_then_exit <| x_then_exit <| x_block_exit ?_
       obtain rfl := oi hB46
       obtain rfl := hO47 _ rfl
       refine x_A fun a hf => ⟨c39, x41, x42, J, r45, hf.sub ⟨J, J, J, trivial⟩, H⟩
    ·rintro a wd149 ⟨c36, x37, x38, rfl, r150, hf, H⟩
     try dsimp only at hB33
     refine XX.at hf <| x_block ?_
     obtain rfl := oi hB33
     refine x_A fun a hf => ⟨_, J, c36, x37, x38, J, r150, hf.sub ⟨J, J, J, trivial⟩, H⟩
   ·replace hB33 := itF hb hB33
    refine C_exit <| x_then_exit <| x_then_exit <| x_block_exit ?_
    replace H := H.e0
    obtain rfl := oi hB33
    obtain rfl := hO34 _ rfl
    refine x_A fun a hf => ⟨c27, x28, J, r32, hf.sub ⟨J, trivial⟩, H⟩
 ·rintro a wd151 ⟨c25, x26, rfl, r152, hf, H⟩
  try dsimp only at hF
  refine XX.at hf <| xs <| qm J J <| qa J J <| C_ret ?_
  obtain rfl := oi hF
  exact fn_ret (l := [.tmp 4]) (vs := [v21]) J J J ⟨v21, c25, x26, J, J, r152, H⟩
theorem c_40 {N : Nat} {C : Cx} {w : World} {ρ : View} {hs : List Hl} {gV : Nat → Value} {v1 : Value} {v2 : Value} {v3 : Value} {x4 : (List ((List Int) × (Int × Int × Int × Int) × Int × Int))} {x5 : (List Int)} {x6 : (List Bool)} (H : Hp C w ρ (hs)) (_gle : GErrs ρ 394 errIds gV) (r7 : RdSl ρ (eP (eL (eI .i64)) (eP (eP (eI .u64) (eP (eI .u64) (eP (eI .u64) (eI .u64)))) (eP (eI .i64) (eI .i64)))) v1 x4) (_r6 : RdSl ρ (eI .i64) v2 x5) (r8 : RdSl ρ eB v3 x6) {r : Int} (hF : F_20 N x4 x5 x6 = some r) :
  Calls Tryz.prog 40 [.agg #[v1, v2], v3].toArray w (Rets (fun v w' => (∃ (x9 : Int), x9 = r ∧ iV x9 = v ∧ Hp C w' ρ (hs)))) := by
 unfold F_20 at hF
 have h0 : Tryz.f40.body = some _ := rfl
 refine fn_calls' Tryz.func40 h0 (n := 39) rfl (by simp) <| sr <| ne (E_box H (vs := [v1, v2]) J J) J J ?_
 rintro _ wd10 ⟨b11, rfl, H⟩
 refine qa J J <| sr <| qa J J <| C_seq <| sr <| nq (v := pV b11 0) (Q_fld Tryz.underlying29 rfl ty27 (by decide) J J) J J <| nq (v := v1) (Q_ldB (k := 0) (cs := [v1]) H.ok rfl ty27 J J rfl (fun _ => J) J) J J <| nq (Q_len Tryz.underlying27 rfl r7) J J ?_
 refine qm J J <| WL_nil <| x_then ?_
 obtain ⟨o12, ho12, hF⟩ := bnd hF
 refine C_cutQ (fun a w' => ∃ (x13 : Int), x13 = o12 ∧ Fr 39 a [(5, iV x13)] ∧ Hp C w' ρ (hs)) ?_ ?_
 ·refine C_block ?_
  replace H := H.e0
  refine C_iter (f := fun s => F_50 N x4 x6 s.1 s.2) ho12 (fun s a w' => ∃ (x14 : Int) (x15 : Int), (x14, x15) = s ∧ Fr 39 a [(1, v3), (5, iV x15), (9, v1), (10, iV (x4.length : Int)), (11, iV x14)] ∧ Hp C w' ρ (hs)) ?_ ?_
  ·exact fun a hf => ⟨0, (-1), J, hf.sub ⟨J, J, J, J, J, trivial⟩, H⟩
  ·rintro s o16 a wd17 ⟨x14, x15, rfl, hf, H⟩ hB18 hO19
   replace hB18 : F_50 N x4 x6 x14 x15 = some o16 := hB18
   unfold F_50 at hB18
   refine CW.at hf <| sr <| nq (Q_lss J J) J J <| WL_nil <| x_then <| C_seq ?_
   refine C_cond J (fun hb => ?_) (fun hb => ?_)
   ·replace hB18 := itT hb hB18
    refine C_skip <| x_then ?_
    obtain ⟨o20, ho20, hB18⟩ := bnd hB18
    refine C_cut (fun a w' => ∃ (x21 : Int), x21 = o20 ∧ Fr 39 a [(1, v3), (5, iV x21), (9, v1), (10, iV (x4.length : Int)), (11, iV x14)] ∧ Hp C w' ρ (hs)) ?_ ?_
    ·refine C_block <| sr <| qm J J ?_
     obtain ⟨x22, hx22, ho20⟩ := bnd ho20
     obtain ⟨b23, o24, c25, hc26, ha27, hi28⟩ := idxR r7 hx22
     refine nq (Q_idx hi28 Tryz.underlying27 ty126 J J) J J ?_
     obtain ⟨c29, c30, he31, hc32, hc33⟩ := (id hc26)
     obtain ⟨v34, he35, r36⟩ := hc32
     obtain ⟨c37, c38, he39, hc40, hc41⟩ := hc33
     obtain ⟨c42, c43, he44, hc45, hc46⟩ := hc40
     obtain ⟨c47, c48, he49, hc50, hc51⟩ := hc46
     obtain ⟨c52, c53, he54, hc55, hc56⟩ := hc51
     obtain ⟨c57, c58, he59, hc60, hc61⟩ := hc41
     refine nq (v := .agg #[v34, uV x22.2.1.1, uV x22.2.1.2.1, uV x22.2.1.2.2.1, uV x22.2.1.2.2.2, iV x22.2.2.1, iV x22.2.2.2]) (Q_ld (show cellsAt _ _ _ [v34, uV x22.2.1.1, uV x22.2.1.2.1, uV x22.2.1.2.2.1, uV x22.2.1.2.2.2, iV x22.2.2.1, iV x22.2.2.2] from cellsAt.cg (cat2 he31 he35 (cat2 he39 (cat2 he44 (rdI hc45) (cat2 he49 (rdI hc50) (cat2 he54 (rdI hc55) (rdI hc56)))) (cat2 he59 (rdI hc60) (rdI hc61)))) (ha27.up H.ok.view)) ty126 J (fun h => nomatch h) J J) J J <| ne (E_alloc H ty126 (zs := [.slice none 0 0, uV 0, uV 0, uV 0, uV 0, iV 0, iV 0]) J) J J ?_
     rintro _ wd62 ⟨b63, rfl, H⟩
     refine nq (Q_assign J) J J <| ne (E_stB (k := 0) (cs := [v34, uV x22.2.1.1, uV x22.2.1.2.1, uV x22.2.1.2.2.1, uV x22.2.1.2.2.2, iV x22.2.2.1, iV x22.2.2.2]) (vs' := [v34, uV x22.2.1.1, uV x22.2.1.2.1, uV x22.2.1.2.2.1, uV x22.2.1.2.2.2, iV x22.2.2.1, iV x22.2.2.2]) H rfl ty126 J J J rfl (one_cons (RdSl.one r36) (one_cons rfl (one_cons rfl (one_cons rfl (one_cons rfl (one_cons rfl (one_cons rfl one_nil))))))) (by simp) J) J J ?_
     rintro _ wd64 H
     dsimp only [List.set] at H
     refine WL_nil <| x_then ?_
     obtain ⟨o65, ho65, ho20⟩ := bnd ho20
     refine C_cut (fun a w' => ∃ (x66 : Bool), x66 = o65 ∧ Fr 39 a [(1, v3), (5, iV x15), (7, pV b63 0), (9, v1), (10, iV (x4.length : Int)), (11, iV x14), (34, .bool x66)] ∧ Hp C w' ρ (Box b63 [v34, uV x22.2.1.1, uV x22.2.1.2.1, uV x22.2.1.2.2.1, uV x22.2.1.2.2.2, iV x22.2.2.1, iV x22.2.2.2] :: hs)) ?_ ?_
     ·refine R_nd <| qm J J <| qm J J ?_
      obtain ⟨x67, hx67, ho65⟩ := bnd ho65
      obtain ⟨b68, o69, c70, hc71, ha72, hi73⟩ := idxR r8 hx67
      refine nq (Q_idx hi73 Tryz.underlying65 ty4 J J) J J <| nq (v := .bool x67) (Q_ld (show cellsAt _ _ _ [.bool x67] from (show _ = [_] from hc71) ▸ (ha72.up H.ok.view)) ty4 J (fun _ => J) J J) J J <| qm J J ?_
      rcases Bool.eq_false_or_eq_true x67 with hb | hb
      ·rw [hb]
       replace ho65 := itT hb ho65
       refine gq (v := pV b63 6) (Q_fld Tryz.underlying126 rfl ty3 (by decide) J J) J J J <| gq (v := iV x22.2.2.2) (Q_ldB (k := 0) (cs := [iV x22.2.2.2]) H.ok rfl ty3 J J rfl (fun _ => J) J) J J J <| gq (Q_geq J J) J J J <| nq (Q_pickT J J) J J <| qm J J ?_
       rcases Bool.eq_false_or_eq_true (decide (x22.2.2.2 ≥ 0)) with hb | hb
       ·rw [hb]
        replace ho65 := itT hb ho65
        refine gq (Q_move J) J J J <| gq (Q_lss J J) J J J <| gq (Q_move J) J J J ?_
        rcases Bool.eq_false_or_eq_true (decide (x15 < 0)) with hb | hb
        ·rw [hb]
         replace ho65 := itT hb ho65
         refine gs J J J J <| gs J J J J <| gs J J J J <| gs J J J J <| gq (Q_pickT J J) J J J <| nq (Q_pickT J J) J J <| WL_nil ?_
         obtain rfl := oi ho65
         refine x_A fun a hf => ⟨true, J, hf.sub ⟨J, J, J, J, J, J, J, trivial⟩, H⟩
        ·rw [hb]
         replace ho65 := itF hb ho65
         refine gq (v := pV b63 6) (Q_fld Tryz.underlying126 rfl ty3 (by decide) J J) J J J <| gq (v := iV x22.2.2.2) (Q_ldB (k := 0) (cs := [iV x22.2.2.2]) H.ok rfl ty3 J J rfl (fun _ => J) J) J J J <| gq (Q_move J) J J J <| gq (Q_lss J J) J J J <| gq (Q_pickF J J) J J J <| nq (Q_pickT J J) J J <| WL_nil ?_
         obtain rfl := oi ho65
         refine x_A fun a hf => ⟨decide (x22.2.2.2 < x15), J, hf.sub ⟨J, J, J, J, J, J, J, trivial⟩, H⟩
       ·rw [hb]
        replace ho65 := itF hb ho65
        refine gs J J J J <| gs J J J J <| gs J J J J <| gsu J ⟨_, _, J, J, J⟩ J <| gsu J ⟨_, _, J, J, J⟩ J <| gsu J ⟨_, _, J, J, J⟩ J <| gsu J ⟨_, _, J, J, J⟩ J <| gs J J J J <| nq (Q_pickF J J) J J <| WL_nil ?_
        obtain rfl := oi ho65
        refine x_A fun a hf => ⟨false, J, hf.sub ⟨J, J, J, J, J, J, J, trivial⟩, H⟩
      ·rw [hb]
       replace ho65 := itF hb ho65
       refine gs J J J J <| gs J J J J <| gs J J J J <| nq (Q_pickF J J) J J <| qm J J <| gs J J J J <| gs J J J J <| gs J J J J <| gsu J ⟨_, _, J, J, J⟩ J <| gsu J ⟨_, _, J, J, J⟩ J <| gsu J ⟨_, _, J, J, J⟩ J <| gsu J ⟨_, _, J, J, J⟩ J <| gs J J J J <| nq (Q_pickF J J) J J ?_
       refine WL_nil ?_
       obtain rfl := oi ho65
       refine x_A fun a hf => ⟨false, J, hf.sub ⟨J, J, J, J, J, J, J, trivial⟩, H⟩
     ·rintro a wd74 ⟨x66, rfl, hf, H⟩
      try dsimp only at ho20
      refine CW.at hf ?_
      obtain ⟨o75, ho75, ho20⟩ := bnd ho20
      refine C_cutQ (fun a w' => ∃ (x76 : Int), x76 = o75 ∧ Fr 39 a [(1, v3), (5, iV x76), (9, v1), (10, iV (x4.length : Int)), (11, iV x14)] ∧ Hp C w' ρ (hs)) ?_ ?_
      ·refine C_cond J (fun hb => ?_) (fun hb => ?_)
       ·replace ho75 := itT hb ho75
        refine R_nd <| nq (v := pV b63 6) (Q_fld Tryz.underlying126 rfl ty3 (by decide) J J) J J <| nq (v := iV x22.2.2.2) (Q_ldB (k := 0) (cs := [iV x22.2.2.2]) H.ok rfl ty3 J J rfl (fun _ => J) J) J J <| nq (Q_assign J) J J <| WL_nil ?_
        replace H := H.e0
        obtain rfl := oi ho75
        refine x_A fun a hf => ⟨x22.2.2.2, J, hf.sub ⟨J, J, J, J, J, trivial⟩, H⟩
       ·replace ho75 := itF hb ho75
        refine C_skip ?_
        replace H := H.e0
        obtain rfl := oi ho75
        refine x_A fun a hf => ⟨x15, J, hf.sub ⟨J, J, J, J, J, trivial⟩, H⟩
      ·rintro a wd77 ⟨x76, rfl, hf, H⟩
       try dsimp only at ho20
       refine XX.at hf <| x_block ?_
       obtain rfl := oi ho20
       refine x_A fun a hf => ⟨x76, J, hf.sub ⟨J, J, J, J, J, trivial⟩, H⟩
    ·rintro a wd78 ⟨x21, rfl, hf, H⟩
     try dsimp only at hB18
     refine CW.at hf <| R_nd <| nq (Q_add J J) J J <| qm J J <| WL_nil ?_
     obtain rfl := oi hB18
     refine x_A fun a hf => ⟨_, J, w64 (x14 + 1), x21, J, hf.sub ⟨J, J, J, J, J, trivial⟩, H⟩
   ·replace hB18 := itF hb hB18
    refine C_exit <| x_then_exit <| x_then_exit <| x_block_exit ?_
    obtain rfl := oi hB18
    obtain rfl := hO19 _ rfl
    refine x_A fun a hf => ⟨x15, J, hf.sub ⟨J, trivial⟩, H⟩
 ·rintro a wd79 ⟨x13, rfl, hf, H⟩
  try dsimp only at hF
  refine XX.at hf <| xs <| qm J J <| qa J J <| C_ret ?_
  obtain rfl := oi hF
  exact fn_ret (l := [.tmp 4]) (vs := [iV x13]) J J J ⟨x13, J, J, H⟩
theorem c_41 {N : Nat} {C : Cx} {w : World} {ρ : View} {hs : List Hl} {gV : Nat → Value} {v1 : Value} {v2 : Value} {x3 : (List ((List Int) × (Int × Int × Int × Int) × Int × Int))} {x4 : (List Int)} {x5 : Int} (H : Hp C w ρ (hs)) (gle : GErrs ρ 394 errIds gV) (r6 : RdSl ρ (eP (eL (eI .i64)) (eP (eP (eI .u64) (eP (eI .u64) (eP (eI .u64) (eI .u64)))) (eP (eI .i64) (eI .i64)))) v1 x3) (r7 : RdSl ρ (eI .i64) v2 x4) {r : (List Bool)} (hF : F_71 N x3 x4 x5 = some r) :
  Calls Tryz.prog 41 [.agg #[v1, v2], iV x5].toArray w (Rets (fun v w' => (∃ (v8 : Value) (c9 : (List Value)) (x10 : (List Bool)), x10 = r ∧ v8 = v ∧ rdL eB ρ x10 c9 ∧ Hp C w' ρ (Arr v8 1 c9 :: hs)))) := by
 unfold F_71 at hF
 have h0 : Tryz.f41.body = some _ := rfl
 refine fn_calls' Tryz.func41 h0 (n := 29) rfl (by simp) <| sr <| ne (E_box H (vs := [v1, v2]) J J) J J ?_
 rintro _ wd11 ⟨b12, rfl, H⟩
 refine qa J J <| sr <| nq (v := pV b12 0) (Q_fld Tryz.underlying29 rfl ty27 (by decide) J J) J J <| nq (v := v1) (Q_ldB (k := 0) (cs := [v1]) H.ok rfl ty27 J J rfl (fun _ => J) J) J J <| nq (Q_len Tryz.underlying27 rfl r6) J J ?_
 obtain ⟨x13, hx13, hF⟩ := bnd hF
 obtain ⟨hm73a, hm73b, hm73c⟩ := mk_some hx13
 refine ne (E_make H Tryz.underlying65 ty4 (zs := [.bool false]) J rfl (by decide) (by decide) rfl hm73a hm73b) J J ?_
 rintro _ wd14 ⟨b15, rfl, H⟩
 refine qa J J <| C_seq ?_
 obtain ⟨o16, ho16, hF⟩ := bnd hF
 refine C_cut (fun a w' => ∃ (x17 : Bool), x17 = o16 ∧ Fr 29 a [(1, iV x5), (2, pV b12 0), (5, (.slice (some ⟨b15, 0, none⟩) (x3.length : Int).toNat (x3.length : Int).toNat)), (18, .bool x17)] ∧ Hp C w' ρ (Box b12 [v1, v2] :: Arr (.slice (some ⟨b15, 0, none⟩) (x3.length : Int).toNat (x3.length : Int).toNat) 1 (repC (x3.length : Int).toNat [.bool false]) :: hs)) ?_ ?_
 ·refine R_nd <| qm J J <| nq (Q_geq J J) J J <| qm J J ?_
  rcases Bool.eq_false_or_eq_true (decide (x5 ≥ 0)) with hb | hb
  ·rw [hb]
   replace ho16 := itT hb ho16
   refine gq (Q_move J) J J J <| gq (v := pV b12 1) (Q_fld Tryz.underlying29 rfl ty23 (by decide) J J) J J J <| gq (v := v2) (Q_ldB (k := 1) (cs := [v2]) H.ok rfl ty23 J J rfl (fun _ => J) J) J J J <| gq (Q_len Tryz.underlying23 rfl r7) J J J <| gq (Q_lss J J) J J J <| nq (Q_pickT J J) J J <| WL_nil ?_
   replace H := H.f1
   obtain rfl := oi ho16
   refine x_A fun a hf => ⟨decide (x5 < (x4.length : Int)), J, hf.sub ⟨J, J, J, J, trivial⟩, H⟩
  ·rw [hb]
   replace ho16 := itF hb ho16
   refine gs J J J J <| gs J J J J <| gs J J J J <| gs J J J J <| gs J J J J <| nq (Q_pickF J J) J J <| WL_nil ?_
   replace H := H.f1
   obtain rfl := oi ho16
   refine x_A fun a hf => ⟨false, J, hf.sub ⟨J, J, J, J, trivial⟩, H⟩
 ·rintro a wd18 ⟨x17, rfl, hf, H⟩
  try dsimp only at hF
  refine CW.at hf ?_
  obtain ⟨o19, ho19, hF⟩ := bnd hF
  refine C_cutQ (fun a w' => ∃ (c20 : (List Value)) (x21 : (List Bool)), x21 = o19 ∧ rdL eB ρ x21 c20 ∧ Fr 29 a [(2, pV b12 0), (5, (.slice (some ⟨b15, 0, none⟩) (x3.length : Int).toNat (x3.length : Int).toNat))] ∧ Hp C w' ρ (Box b12 [v1, v2] :: Arr (.slice (some ⟨b15, 0, none⟩) (x3.length : Int).toNat (x3.length : Int).toNat) 1 c20 :: hs)) ?_ ?_
  ·refine C_cond J (fun hb => ?_) (fun hb => ?_)
   ·replace ho19 := itT hb ho19
    refine R_nd <| qm J J <| nq (v := pV b12 1) (Q_fld Tryz.underlying29 rfl ty23 (by decide) J J) J J <| nq (v := v2) (Q_ldB (k := 0) (cs := [v2]) H.ok rfl ty23 J J rfl (fun _ => J) J) J J <| qm J J ?_
    obtain ⟨x22, hx22, ho19⟩ := bnd ho19
    obtain ⟨b23, o24, c25, hc26, ha27, hi28⟩ := idxR r7 hx22
    refine nq (Q_idx hi28 Tryz.underlying23 ty3 J J) J J <| nq (v := iV x22) (Q_ld (show cellsAt _ _ _ [iV x22] from (show _ = [_] from hc26) ▸ (ha27.up H.ok.view)) ty3 J (fun _ => J) J J) J J ?_
    obtain ⟨x29, hx29, ho19⟩ := bnd ho19
    obtain ⟨b30, o31, hi32, hc33, ha34⟩ := arr_at (en := eB) (hs := [Arr (.slice (some ⟨b15, 0, none⟩) (x3.length : Int).toNat (x3.length : Int).toNat) 1 (repC (x3.length : Int).toNat [.bool false])]) (k := 0) (by decide) (H.okS (by simp)) rfl (hm73c ▸ rdL_rep (e := eB) (ρ := ρ) (rfl) _) hx29
    refine nq (Q_idx hi32 Tryz.underlying65 ty4 J J) J J ?_
    obtain ⟨x35, hx35, ho19⟩ := bnd ho19
    obtain ⟨hs115a, hs115b, hs115c⟩ := setI_some hx35
    have r36 : rdL eB ρ x35 (setC (repC (x3.length : Int).toNat [.bool false]) (x22.toNat * 1 + 0) [.bool true]) := hs115c ▸ rdL.set (hm73c ▸ rdL_rep (e := eB) (ρ := ρ) (rfl) _) hs115b (rfl)
    refine ne (E_stA (k := 1) (j := 0) (c := [.bool true]) H rfl ty4 hi32 J J J rfl (one_cons rfl one_nil) (by decide)) J J ?_
    rintro _ wd37 H
    dsimp only [List.set] at H
    refine WL_nil ?_
    obtain rfl := oi ho19
    refine x_A fun a hf => ⟨(setC (repC (x3.length : Int).toNat [.bool false]) (x22.toNat * 1 + 0) [.bool true]), x35, J, r36, hf.sub ⟨J, J, trivial⟩, H⟩
   ·replace ho19 := itF hb ho19
    refine C_skip ?_
    obtain rfl := oi ho19
    refine x_A fun a hf => ⟨(repC (x3.length : Int).toNat [.bool false]), x13, J, (hm73c ▸ rdL_rep (e := eB) (ρ := ρ) (J) _), hf.sub ⟨J, J, trivial⟩, H⟩
  ·rintro a wd38 ⟨c20, x21, rfl, r39, hf, H⟩
   try dsimp only at hF
   refine XX.at hf <| xs <| nq (v := .agg #[v1, v2]) (Q_ldB (k := 0) (cs := [v1, v2]) H.ok J ty29 J J J (fun h => nomatch h) J) J J <| qm J J ?_
   replace H := H.f1
   obtain ⟨q40, hq40, hF⟩ := bnd hF
   obtain ⟨C', ρ', hl41, HA, hL, hback⟩ := Hp.lend (A := []) (L := [Arr (.slice (some ⟨b15, 0, none⟩) (x3.length : Int).toNat (x3.length : Int).toNat) 1 c20]) (F := Box b12 [v1, v2] :: hs) H
   refine ne (E_call fn39 rfl (c_39 HA (gle.up hl41)  (r6.up hl41) (r7.up hl41) (arr_rd (by decide) hl41 (hL (Arr (.slice (some ⟨b15, 0, none⟩) (x3.length : Int).toNat (x3.length : Int).toNat) 1 c20) (by simp)) r39) hq40)) J J ?_
   rintro _ wd42 ⟨v43, c44, x45, rfl, rfl, r46, H⟩
   try dsimp only at hF
   replace H := hback H
   replace r46 := rdL.flat (ρ := ρ') (ρ' := ρ) flat_B r46
   dsimp only [List.cons_append, List.nil_append] at H
   refine qa J J <| C_ret ?_
   replace H := H.e2.e1
   obtain rfl := oi hF
   exact fn_ret (l := [.tmp 4]) (vs := [v43]) J J J ⟨v43, c44, x45, J, J, r46, H⟩
theorem c_133 {N : Nat} {C : Cx} {w : World} {ρ : View} {hs : List Hl} {gV : Nat → Value} {x1 : Int} {x2 : Int} {x3 : Int} {x4 : Int} {x5 : Int} (H : Hp C w ρ (hs)) (_gle : GErrs ρ 394 errIds gV) {r : Bool} (hF : F_75 N x1 x2 x3 x4 x5 = some r) :
  Calls Tryz.prog 133 [.agg #[uV x1, uV x2, uV x3, uV x4], .int .u8 x5].toArray w (Rets (fun v w' => (∃ (x6 : Bool), x6 = r ∧ .bool x6 = v ∧ Hp C w' ρ (hs)))) := by
 unfold F_75 at hF
 have h0 : Tryz.f133.body = some _ := rfl
 refine fn_calls' Tryz.func133 h0 (n := 14) rfl (by simp) <| sr <| ne (E_box H (vs := [uV x1, uV x2, uV x3, uV x4]) J J) J J ?_
 rintro _ wd7 ⟨b8, rfl, H⟩
 refine qa J J <| sr <| qm J J <| nq (Q_quo J rfl (by decide)) J J ?_
 obtain ⟨x9, hx9, hF⟩ := bnd hF
 have hn10 := idx_lt (N := 4) (xs := [x1, x2, x3, x4]) rfl hx9
 refine nq (v := .pointer (some ⟨b8, 0 + (IntKind.wrap .u8 (x5.tdiv 64)).toNat * 1, none⟩)) (Q_idxA hn10.1 hn10.2 Tryz.underlying39 ty37 J J) J J <| nq (v := uV x9) (Q_ldX (j := 0) (o := 0) (k := .u64) (xs := [x1, x2, x3, x4]) H.ok rfl ty37 J rfl hx9) J J <| qm J J <| nq (Q_rem J rfl (by decide)) J J ?_
 obtain ⟨x11, hx11, hF⟩ := bnd hF
 refine nq (Q_shr J J (nn_some hx11)) J J <| nq (Q_and J J) J J <| nq (Q_eql J J) J J <| qa J J <| C_ret ?_
 replace H := H.e0
 obtain rfl := oi hF
 exact fn_ret (l := [.tmp 4]) (vs := [.bool ((iand .u64 (shrI .u64 x9 (x5.tmod 64)) 1) == 1)]) J J J ⟨(iand .u64 (shrI .u64 x9 (x5.tmod 64)) 1) == 1, J, J, H⟩
theorem c_42 {N : Nat} {C : Cx} {w : World} {ρ : View} {hs : List Hl} {gV : Nat → Value} {v1 : Value} {v2 : Value} {v3 : Value} {x4 : (List ((List Int) × (Int × Int × Int × Int) × Int × Int))} {x5 : (List Int)} {x6 : (List Bool)} {x7 : Int} (H : Hp C w ρ (hs)) (gle : GErrs ρ 394 errIds gV) (r8 : RdSl ρ (eP (eL (eI .i64)) (eP (eP (eI .u64) (eP (eI .u64) (eP (eI .u64) (eI .u64)))) (eP (eI .i64) (eI .i64)))) v1 x4) (r9 : RdSl ρ (eI .i64) v2 x5) (r10 : RdSl ρ eB v3 x6) {r : (List Bool)} (hF : F_21 N x4 x5 x6 x7 = some r) :
  Calls Tryz.prog 42 [.agg #[v1, v2], v3, .int .u8 x7].toArray w (Rets (fun v w' => (∃ (v11 : Value) (c12 : (List Value)) (x13 : (List Bool)), x13 = r ∧ v11 = v ∧ rdL eB ρ x13 c12 ∧ Hp C w' ρ (Arr v11 1 c12 :: hs)))) := by
 unfold F_21 at hF
 have h0 : Tryz.f42.body = some _ := rfl
 refine fn_calls' Tryz.func42 h0 (n := 51) rfl (by simp) <| sr <| ne (E_box H (vs := [v1, v2]) J J) J J ?_
 rintro _ wd14 ⟨b15, rfl, H⟩
 refine qa J J <| sr <| nq (v := pV b15 0) (Q_fld Tryz.underlying29 rfl ty27 (by decide) J J) J J <| nq (v := v1) (Q_ldB (k := 0) (cs := [v1]) H.ok rfl ty27 J J rfl (fun _ => J) J) J J <| nq (Q_len Tryz.underlying27 rfl r8) J J ?_
 obtain ⟨x16, hx16, hF⟩ := bnd hF
 obtain ⟨hm1215a, hm1215b, hm1215c⟩ := mk_some hx16
 refine ne (E_make H Tryz.underlying65 ty4 (zs := [.bool false]) J rfl (by decide) (by decide) rfl hm1215a hm1215b) J J ?_
 rintro _ wd17 ⟨b18, rfl, H⟩
 refine qa J J <| C_seq <| sr <| nq (v := pV b15 0) (Q_fld Tryz.underlying29 rfl ty27 (by decide) J J) J J <| nq (v := v1) (Q_ldB (k := 1) (cs := [v1]) H.ok rfl ty27 J J rfl (fun _ => J) J) J J <| nq (Q_len Tryz.underlying27 rfl r8) J J <| qm J J <| WL_nil <| x_then ?_
 obtain ⟨o19, ho19, hF⟩ := bnd hF
 refine C_cutQ (fun a w' => ∃ (c20 : (List Value)) (x21 : (List Bool)), x21 = o19 ∧ rdL eB ρ x21 c20 ∧ Fr 51 a [(3, pV b15 0), (7, (.slice (some ⟨b18, 0, none⟩) (x4.length : Int).toNat (x4.length : Int).toNat))] ∧ Hp C w' ρ (Box b15 [v1, v2] :: Arr (.slice (some ⟨b18, 0, none⟩) (x4.length : Int).toNat (x4.length : Int).toNat) 1 c20 :: hs)) ?_ ?_
 ·refine C_block ?_
  replace H := H.f1
  refine C_iter (f := fun s => F_51 N x4 x6 x7 s.1 s.2) ho19 (fun s a w' => ∃ (c22 : (List Value)) (x23 : Int) (x24 : (List Bool)), (x23, x24) = s ∧ rdL eB ρ x24 c22 ∧ Fr 51 a [(1, v3), (2, .int .u8 x7), (3, pV b15 0), (7, (.slice (some ⟨b18, 0, none⟩) (x4.length : Int).toNat (x4.length : Int).toNat)), (15, v1), (16, iV (x4.length : Int)), (17, iV x23)] ∧ Hp C w' ρ (Box b15 [v1, v2] :: Arr (.slice (some ⟨b18, 0, none⟩) (x4.length : Int).toNat (x4.length : Int).toNat) 1 c22 :: hs)) ?_ ?_
  ·exact fun a hf => ⟨(repC (x4.length : Int).toNat [.bool false]), 0, x16, J, (hm1215c ▸ rdL_rep (e := eB) (ρ := ρ) (J) _), hf.sub ⟨J, J, J, J, J, J, J, trivial⟩, H⟩
  ·rintro s o25 a wd26 ⟨c22, x23, x24, rfl, r27, hf, H⟩ hB28 hO29
   replace hB28 : F_51 N x4 x6 x7 x23 x24 = some o25 := hB28
   unfold F_51 at hB28
   refine CW.at hf <| sr <| nq (Q_lss J J) J J <| WL_nil <| x_then <| C_seq ?_
   refine C_cond J (fun hb => ?_) (fun hb => ?_)
   ·replace hB28 := itT hb hB28
    refine C_skip <| x_then ?_
    obtain ⟨o30, ho30, hB28⟩ := bnd hB28
    refine C_cut (fun a w' => ∃ (c31 : (List Value)) (x32 : (List Bool)), x32 = o30 ∧ rdL eB ρ x32 c31 ∧ Fr 51 a [(1, v3), (2, .int .u8 x7), (3, pV b15 0), (7, (.slice (some ⟨b18, 0, none⟩) (x4.length : Int).toNat (x4.length : Int).toNat)), (15, v1), (16, iV (x4.length : Int)), (17, iV x23)] ∧ Hp C w' ρ (Box b15 [v1, v2] :: Arr (.slice (some ⟨b18, 0, none⟩) (x4.length : Int).toNat (x4.length : Int).toNat) 1 c31 :: hs)) ?_ ?_
    ·refine C_block <| sr <| qm J J ?_
     obtain ⟨x33, hx33, ho30⟩ := bnd ho30
     obtain ⟨b34, o35, c36, hc37, ha38, hi39⟩ := idxR r8 hx33
     refine nq (Q_idx hi39 Tryz.underlying27 ty126 J J) J J ?_
     obtain ⟨c40, c41, he42, hc43, hc44⟩ := (id hc37)
     obtain ⟨v45, he46, r47⟩ := hc43
     obtain ⟨c48, c49, he50, hc51, hc52⟩ := hc44
     obtain ⟨c53, c54, he55, hc56, hc57⟩ := hc51
     obtain ⟨c58, c59, he60, hc61, hc62⟩ := hc57
     obtain ⟨c63, c64, he65, hc66, hc67⟩ := hc62
     obtain ⟨c68, c69, he70, hc71, hc72⟩ := hc52
     refine nq (v := .agg #[v45, uV x33.2.1.1, uV x33.2.1.2.1, uV x33.2.1.2.2.1, uV x33.2.1.2.2.2, iV x33.2.2.1, iV x33.2.2.2]) (Q_ld (show cellsAt _ _ _ [v45, uV x33.2.1.1, uV x33.2.1.2.1, uV x33.2.1.2.2.1, uV x33.2.1.2.2.2, iV x33.2.2.1, iV x33.2.2.2] from cellsAt.cg (cat2 he42 he46 (cat2 he50 (cat2 he55 (rdI hc56) (cat2 he60 (rdI hc61) (cat2 he65 (rdI hc66) (rdI hc67)))) (cat2 he70 (rdI hc71) (rdI hc72)))) (ha38.up H.ok.view)) ty126 J (fun h => nomatch h) J J) J J <| ne (E_alloc H ty126 (zs := [.slice none 0 0, uV 0, uV 0, uV 0, uV 0, iV 0, iV 0]) J) J J ?_
     rintro _ wd73 ⟨b74, rfl, H⟩
     refine nq (Q_assign J) J J <| ne (E_stB (k := 0) (cs := [v45, uV x33.2.1.1, uV x33.2.1.2.1, uV x33.2.1.2.2.1, uV x33.2.1.2.2.2, iV x33.2.2.1, iV x33.2.2.2]) (vs' := [v45, uV x33.2.1.1, uV x33.2.1.2.1, uV x33.2.1.2.2.1, uV x33.2.1.2.2.2, iV x33.2.2.1, iV x33.2.2.2]) H rfl ty126 J J J rfl (one_cons (RdSl.one r47) (one_cons rfl (one_cons rfl (one_cons rfl (one_cons rfl (one_cons rfl (one_cons rfl one_nil))))))) (by simp) J) J J ?_
     rintro _ wd75 H
     dsimp only [List.set] at H
     refine WL_nil <| x_then ?_
     obtain ⟨o76, ho76, ho30⟩ := bnd ho30
     refine C_cut (fun a w' => ∃ (x77 : Bool), x77 = o76 ∧ Fr 51 a [(1, v3), (2, .int .u8 x7), (3, pV b15 0), (7, (.slice (some ⟨b18, 0, none⟩) (x4.length : Int).toNat (x4.length : Int).toNat)), (9, pV b74 0), (15, v1), (16, iV (x4.length : Int)), (17, iV x23), (42, .bool x77)] ∧ Hp C w' ρ (Box b15 [v1, v2] :: Arr (.slice (some ⟨b18, 0, none⟩) (x4.length : Int).toNat (x4.length : Int).toNat) 1 c22 :: Box b74 [v45, uV x33.2.1.1, uV x33.2.1.2.1, uV x33.2.1.2.2.1, uV x33.2.1.2.2.2, iV x33.2.2.1, iV x33.2.2.2] :: hs)) ?_ ?_
     ·refine R_nd <| qm J J <| qm J J ?_
      obtain ⟨x78, hx78, ho76⟩ := bnd ho76
      obtain ⟨b79, o80, c81, hc82, ha83, hi84⟩ := idxR r10 hx78
      refine nq (Q_idx hi84 Tryz.underlying65 ty4 J J) J J <| nq (v := .bool x78) (Q_ld (show cellsAt _ _ _ [.bool x78] from (show _ = [_] from hc82) ▸ (ha83.up H.ok.view)) ty4 J (fun _ => J) J J) J J <| qm J J ?_
      rcases Bool.eq_false_or_eq_true x78 with hb | hb
      ·rw [hb]
       replace ho76 := itT hb ho76
       refine gq (v := pV b74 5) (Q_fld Tryz.underlying126 rfl ty3 (by decide) J J) J J J <| gq (v := iV x33.2.2.1) (Q_ldB (k := 0) (cs := [iV x33.2.2.1]) H.ok rfl ty3 J J rfl (fun _ => J) J) J J J <| gq (Q_geq J J) J J J <| nq (Q_pickT J J) J J <| qm J J ?_
       rcases Bool.eq_false_or_eq_true (decide (x33.2.2.1 ≥ 0)) with hb | hb
       ·rw [hb]
        replace ho76 := itT hb ho76
        refine gq (Q_move J) J J J <| gq (Q_quo J rfl (by decide)) J J J <| gq (v := pV b74 1) (Q_fld Tryz.underlying126 rfl ty38 (by decide) J J) J J J ?_
        obtain ⟨x85, hx85, ho76⟩ := bnd ho76
        have hn86 := idx_lt (N := 4) (xs := [x33.2.1.1, x33.2.1.2.1, x33.2.1.2.2.1, x33.2.1.2.2.2]) rfl hx85
        refine gq (v := .pointer (some ⟨b74, 1 + (IntKind.wrap .u8 (x7.tdiv 64)).toNat * 1, none⟩)) (Q_idxA hn86.1 hn86.2 Tryz.underlying38 ty37 J J) J J J <| gq (v := uV x85) (Q_ldX (j := 0) (o := 1) (k := .u64) (xs := [x33.2.1.1, x33.2.1.2.1, x33.2.1.2.2.1, x33.2.1.2.2.2]) H.ok rfl ty37 J rfl hx85) J J J <| gq (Q_move J) J J J <| gq (Q_rem J rfl (by decide)) J J J ?_
        obtain ⟨x87, hx87, ho76⟩ := bnd ho76
        refine gq (Q_shr J rfl (nn_some hx87)) J J J <| gq (Q_rem J rfl (by decide)) J J J <| gq (Q_eql J J) J J J <| nq (Q_pickT J J) J J <| WL_nil ?_
        replace H := H.f2.f2
        obtain rfl := oi ho76
        refine x_A fun a hf => ⟨((shrI .u64 x85 (x7.tmod 64)).tmod 2) == 1, J, hf.sub ⟨J, J, J, J, J, J, J, J, J, trivial⟩, H⟩
       ·rw [hb]
        replace ho76 := itF hb ho76
        refine gs J J J J <| gs J J J J <| gs J J J J <| gs J J J J <| gs J J J J <| gs J J J J <| gs J J J J <| gs J J J J <| gs J J J J <| gs J J J J <| nq (Q_pickF J J) J J <| WL_nil ?_
        replace H := H.f2.f2
        obtain rfl := oi ho76
        refine x_A fun a hf => ⟨false, J, hf.sub ⟨J, J, J, J, J, J, J, J, J, trivial⟩, H⟩
      ·rw [hb]
       replace ho76 := itF hb ho76
       refine gs J J J J <| gs J J J J <| gs J J J J <| nq (Q_pickF J J) J J <| qm J J <| gs J J J J <| gs J J J J <| gs J J J J <| gs J J J J <| gs J J J J <| gs J J J J <| gs J J J J <| gs J J J J <| gs J J J J ?_
       refine gs J J J J <| nq (Q_pickF J J) J J <| WL_nil ?_
       replace H := H.f2.f2
       obtain rfl := oi ho76
       refine x_A fun a hf => ⟨false, J, hf.sub ⟨J, J, J, J, J, J, J, J, J, trivial⟩, H⟩
     ·rintro a wd88 ⟨x77, rfl, hf, H⟩
      try dsimp only at ho30
      refine CW.at hf ?_
      obtain ⟨o89, ho89, ho30⟩ := bnd ho30
      refine C_cutQ (fun a w' => ∃ (c90 : (List Value)) (x91 : (List Bool)), x91 = o89 ∧ rdL eB ρ x91 c90 ∧ Fr 51 a [(1, v3), (2, .int .u8 x7), (3, pV b15 0), (7, (.slice (some ⟨b18, 0, none⟩) (x4.length : Int).toNat (x4.length : Int).toNat)), (15, v1), (16, iV (x4.length : Int)), (17, iV x23)] ∧ Hp C w' ρ (Box b15 [v1, v2] :: Arr (.slice (some ⟨b18, 0, none⟩) (x4.length : Int).toNat (x4.length : Int).toNat) 1 c90 :: hs)) ?_ ?_
      ·refine C_cond J (fun hb => ?_) (fun hb => ?_)
       ·replace ho89 := itT hb ho89
        refine R_nd <| qm J J <| nq (v := pV b74 5) (Q_fld Tryz.underlying126 rfl ty3 (by decide) J J) J J <| nq (v := iV x33.2.2.1) (Q_ldB (k := 2) (cs := [iV x33.2.2.1]) H.ok rfl ty3 J J rfl (fun _ => J) J) J J ?_
        obtain ⟨x92, hx92, ho89⟩ := bnd ho89
        obtain ⟨b93, o94, hi95, hc96, ha97⟩ := arr_at (hs := [Arr (.slice (some ⟨b18, 0, none⟩) (x4.length : Int).toNat (x4.length : Int).toNat) 1 c22]) (k := 0) (by decide) (H.okS (by simp)) rfl r27 hx92
        refine nq (Q_idx hi95 Tryz.underlying65 ty4 J J) J J ?_
        obtain ⟨x98, hx98, ho89⟩ := bnd ho89
        obtain ⟨hs2394a, hs2394b, hs2394c⟩ := setI_some hx98
        have r99 : rdL eB ρ x98 (setC c22 (x33.2.2.1.toNat * 1 + 0) [.bool true]) := hs2394c ▸ rdL.set r27 hs2394b (rfl)
        refine ne (E_stA (k := 1) (j := 0) (c := [.bool true]) H rfl ty4 hi95 J J J rfl (one_cons rfl one_nil) (by decide)) J J ?_
        rintro _ wd100 H
        dsimp only [List.set] at H
        refine WL_nil ?_
        replace H := H.e2
        obtain rfl := oi ho89
        refine x_A fun a hf => ⟨(setC c22 (x33.2.2.1.toNat * 1 + 0) [.bool true]), x98, J, r99, hf.sub ⟨J, J, J, J, J, J, J, trivial⟩, H⟩
       ·replace ho89 := itF hb ho89
        refine C_skip ?_
        replace H := H.e2
        obtain rfl := oi ho89
        refine x_A fun a hf => ⟨c22, x24, J, r27, hf.sub ⟨J, J, J, J, J, J, J, trivial⟩, H⟩
      ·rintro a wd101 ⟨c90, x91, rfl, r102, hf, H⟩
       try dsimp only at ho30
       refine XX.at hf <| x_block ?_
       obtain rfl := oi ho30
       refine x_A fun a hf => ⟨c90, x91, J, r102, hf.sub ⟨J, J, J, J, J, J, J, trivial⟩, H⟩
    ·rintro a wd103 ⟨c31, x32, rfl, r104, hf, H⟩
     try dsimp only at hB28
     refine CW.at hf <| R_nd <| nq (Q_add J J) J J <| qm J J <| WL_nil ?_
     obtain rfl := oi hB28
     refine x_A fun a hf => ⟨_, J, c31, w64 (x23 + 1), x32, J, r104, hf.sub ⟨J, J, J, J, J, J, J, trivial⟩, H⟩
   ·replace hB28 := itF hb hB28
    refine C_exit <| x_then_exit <| x_then_exit <| x_block_exit ?_
    obtain rfl := oi hB28
    obtain rfl := hO29 _ rfl
    refine x_A fun a hf => ⟨c22, x24, J, r27, hf.sub ⟨J, J, trivial⟩, H⟩
 ·rintro a wd105 ⟨c20, x21, rfl, r106, hf, H⟩
  try dsimp only at hF
  refine XX.at hf <| xs <| nq (v := .agg #[v1, v2]) (Q_ldB (k := 0) (cs := [v1, v2]) H.ok J ty29 J J J (fun h => nomatch h) J) J J <| qm J J ?_
  replace H := H.f1
  obtain ⟨q107, hq107, hF⟩ := bnd hF
  obtain ⟨C', ρ', hl108, HA, hL, hback⟩ := Hp.lend (A := []) (L := [Arr (.slice (some ⟨b18, 0, none⟩) (x4.length : Int).toNat (x4.length : Int).toNat) 1 c20]) (F := Box b15 [v1, v2] :: hs) H
  refine ne (E_call fn39 rfl (c_39 HA (gle.up hl108)  (r8.up hl108) (r9.up hl108) (arr_rd (by decide) hl108 (hL (Arr (.slice (some ⟨b18, 0, none⟩) (x4.length : Int).toNat (x4.length : Int).toNat) 1 c20) (by simp)) r106) hq107)) J J ?_
  rintro _ wd109 ⟨v110, c111, x112, rfl, rfl, r113, H⟩
  try dsimp only at hF
  replace H := hback H
  replace r113 := rdL.flat (ρ := ρ') (ρ' := ρ) flat_B r113
  dsimp only [List.cons_append, List.nil_append] at H
  refine qa J J <| C_ret ?_
  replace H := H.e2.e1
  obtain rfl := oi hF
  exact fn_ret (l := [.tmp 6]) (vs := [v110]) J J J ⟨v110, c111, x112, J, J, r113, H⟩
theorem c_24 {N : Nat} {C : Cx} {w : World} {ρ : View} {hs : List Hl} {gV : Nat → Value} {v1 : Value} {v2 : Value} {v3 : Value} {x4 : (List ((List Int) × (Int × Int × Int × Int) × Int × Int))} {x5 : (List Int)} {x6 : Int} {x7 : (List Int)} (H : Hp C w ρ (hs)) (gle : GErrs ρ 394 errIds gV) (r8 : RdSl ρ (eP (eL (eI .i64)) (eP (eP (eI .u64) (eP (eI .u64) (eP (eI .u64) (eI .u64)))) (eP (eI .i64) (eI .i64)))) v1 x4) (r9 : RdSl ρ (eI .i64) v2 x5) (r10 : RdSl ρ (eI .u8) v3 x7) {r : (List Int)} (hF : F_23 N x4 x5 x6 x7 = some r) :
  Calls Tryz.prog 24 [.agg #[v1, v2], iV x6, v3].toArray w (Rets (fun v w' => (∃ (v11 : Value) (c12 : (List Value)) (x13 : (List Int)), x13 = r ∧ v11 = v ∧ rdL (eI .i64) ρ x13 c12 ∧ Hp C w' ρ (Arr v11 1 c12 :: hs)))) := by
 unfold F_23 at hF
 have h0 : Tryz.f24.body = some _ := rfl
 refine fn_calls' Tryz.func24 h0 (n := 36) rfl (by simp) <| sr <| ne (E_box H (vs := [v1, v2]) J J) J J ?_
 rintro _ wd14 ⟨b15, rfl, H⟩
 refine qa J J <| sr <| nq (v := .agg #[v1, v2]) (Q_ldB (k := 0) (cs := [v1, v2]) H.ok J ty29 J J J (fun h => nomatch h) J) J J <| qm J J ?_
 obtain ⟨q16, hq16, hF⟩ := bnd hF
 refine ne (E_call fn41 J (c_41 H gle  r8 r9 hq16)) J J ?_
 rintro _ wd17 ⟨v18, c19, x20, rfl, rfl, r21, H⟩
 try dsimp only at hF
 refine qa J J <| sr <| nq (v := .agg #[v1, v2]) (Q_ldB (k := 1) (cs := [v1, v2]) H.ok J ty29 J J J (fun h => nomatch h) J) J J <| qm J J ?_
 obtain ⟨q22, hq22, hF⟩ := bnd hF
 obtain ⟨C', ρ', hl23, HA, hL, hback⟩ := Hp.lend (A := []) (L := [Arr v18 1 c19]) (F := Box b15 [v1, v2] :: hs) H
 refine ne (E_call fn40 rfl (c_40 HA (gle.up hl23)  (r8.up hl23) (r9.up hl23) (arr_rd (by decide) hl23 (hL (Arr v18 1 c19) (by simp)) r21) hq22)) J J ?_
 rintro _ wd24 ⟨x25, rfl, rfl, H⟩
 try dsimp only at hF
 replace H := hback H
 dsimp only [List.cons_append, List.nil_append] at H
 refine ne (E_bslice (xs := [.tmp 16]) (vs := [iV x25]) H Tryz.underlying23 ty3 (by decide) (cs := [iV x25]) rfl (sz_cons rfl sz_nil) rfl (by simp) (by simp) J J) J J ?_
 rintro _ wd26 ⟨b27, rfl, H⟩
 refine qa J J <| C_seq <| sr <| qm J J <| nq (Q_len Tryz.underlying42 J r10) J J <| qm J J <| WL_nil <| x_then ?_
 obtain ⟨o28, ho28, hF⟩ := bnd hF
 refine C_cutQ (fun a w' => ∃ (v29 : Value) (c30 : (List Value)) (x31 : (List Int)), x31 = o28 ∧ rdL (eI .i64) ρ x31 c30 ∧ Fr 36 a [(8, v29)] ∧ Hp C w' ρ (Arr v29 1 c30 :: hs)) ?_ ?_
 ·refine C_block ?_
  replace H := H.f1.f2
  refine C_iter (f := fun s => F_52 N x4 x5 x7 s.1 s.2.1 s.2.2) ho28 (fun s a w' => ∃ (v32 : Value) (c33 : (List Value)) (v34 : Value) (c35 : (List Value)) (x36 : Int) (x37 : (List Bool)) (x38 : (List Int)), (x36, x37, x38) = s ∧ rdL eB ρ x37 c33 ∧ rdL (eI .i64) ρ x38 c35 ∧ Fr 36 a [(3, pV b15 0), (7, v32), (8, v34), (18, v3), (19, iV (x7.length : Int)), (20, iV x36)] ∧ Hp C w' ρ (Box b15 [v1, v2] :: Arr v32 1 c33 :: Arr v34 1 c35 :: hs)) ?_ ?_
  ·exact fun a hf => ⟨v18, c19, (.slice (some ⟨b27, 0, none⟩) 1 1), [iV x25], 0, x20, [x25], J, r21, (show rdL (eI .i64) ρ ([x25]) ([iV x25]) from ⟨([iV x25]), _, J, J, rdL.nil⟩), hf.sub ⟨J, J, J, J, J, J, trivial⟩, H⟩
  ·rintro s o39 a wd40 ⟨v32, c33, v34, c35, x36, x37, x38, rfl, r41, r42, hf, H⟩ hB43 hO44
   replace hB43 : F_52 N x4 x5 x7 x36 x37 x38 = some o39 := hB43
   unfold F_52 at hB43
   refine CW.at hf <| sr <| nq (Q_lss J J) J J <| WL_nil <| x_then <| C_seq ?_
   refine C_cond J (fun hb => ?_) (fun hb => ?_)
   ·replace hB43 := itT hb hB43
    refine C_skip <| x_then <| C_seq <| C_block <| C_seq <| R_nd ?_
    obtain ⟨x45, hx45, hB43⟩ := bnd hB43
    obtain ⟨b46, o47, c48, hc49, ha50, hi51⟩ := idxR r10 hx45
    refine nq (Q_idx hi51 Tryz.underlying42 ty5 J J) J J <| nq (v := .int .u8 x45) (Q_ld (show cellsAt _ _ _ [.int .u8 x45] from (show _ = [_] from hc49) ▸ (ha50.up H.ok.view)) ty5 J (fun _ => J) J J) J J <| qa J J <| sr <| nq (v := .agg #[v1, v2]) (Q_ldB (k := 0) (cs := [v1, v2]) H.ok J ty29 J J J (fun h => nomatch h) J) J J <| qm J J <| qm J J ?_
    replace H := H.f1
    obtain ⟨q52, hq52, hB43⟩ := bnd hB43
    obtain ⟨C', ρ', hl53, HA, hL, hback⟩ := Hp.lend (A := []) (L := [Arr v32 1 c33]) (F := Box b15 [v1, v2] :: Arr v34 1 c35 :: hs) H
    refine ne (E_call fn42 rfl (c_42 HA (gle.up hl53)  (r8.up hl53) (r9.up hl53) (arr_rd (by decide) hl53 (hL (Arr v32 1 c33) (by simp)) r41) hq52)) J J ?_
    rintro _ wd54 ⟨v55, c56, x57, rfl, rfl, r58, H⟩
    try dsimp only at hB43
    replace H := hback H
    replace r58 := rdL.flat (ρ := ρ') (ρ' := ρ) flat_B r58
    dsimp only [List.cons_append, List.nil_append] at H
    refine qa J J <| R_nd <| qm J J <| nq (v := .agg #[v1, v2]) (Q_ldB (k := 2) (cs := [v1, v2]) H.ok J ty29 J J J (fun h => nomatch h) J) J J <| qm J J ?_
    obtain ⟨q59, hq59, hB43⟩ := bnd hB43
    obtain ⟨C', ρ', hl60, HA, hL, hback⟩ := Hp.lend (A := []) (L := [Arr v55 1 c56]) (F := Arr v32 1 c33 :: Box b15 [v1, v2] :: Arr v34 1 c35 :: hs) H
    refine ne (E_call fn40 rfl (c_40 HA (gle.up hl60)  (r8.up hl60) (r9.up hl60) (arr_rd (by decide) hl60 (hL (Arr v55 1 c56) (by simp)) r58) hq59)) J J ?_
    rintro _ wd61 ⟨x62, rfl, rfl, H⟩
    try dsimp only at hB43
    replace H := hback H
    dsimp only [List.cons_append, List.nil_append] at H
    refine ne (E_bslice (xs := [.tmp 31]) (vs := [iV x62]) H Tryz.underlying23 ty3 (by decide) (cs := [iV x62]) rfl (sz_cons rfl sz_nil) rfl (by simp) (by simp) J J) J J ?_
    rintro _ wd63 ⟨b64, rfl, H⟩
    obtain ⟨x65, hx65, hB43⟩ := bnd hB43
    obtain ⟨ha489a, ha489b⟩ := app_some hx65
    have r66 : rdL (eI .i64) ρ x65 (c35 ++ ([iV x62])) := ha489b ▸ rdL.app r42 (show rdL (eI .i64) ρ ([x62]) ([iV x62]) from ⟨([iV x62]), _, rfl, rfl, rdL.nil⟩)
    refine ne (E_append (k := 4) H rfl Tryz.underlying23 ty3 rfl (by decide) (by decide) J rfl (Src.ofArr (k := 0) H.ok rfl) (rdL.one (show rdL (eI .i64) ρ ([x62]) ([iV x62]) from ⟨([iV x62]), _, rfl, rfl, rdL.nil⟩)) (app_fit r42 (show rdL (eI .i64) ρ ([x62]) ([iV x62]) from ⟨([iV x62]), _, rfl, rfl, rdL.nil⟩) ha489a)) J J ?_
    rintro v67 wd68 ⟨H, hc69⟩
    dsimp only [List.set] at H
    refine nq (Q_assign J) J J <| WL_nil <| x_block <| x_then <| R_nd <| nq (Q_add J J) J J <| qm J J <| WL_nil ?_
    replace H := H.e2.e0.f1
    obtain rfl := oi hB43
    refine x_A fun a hf => ⟨_, J, v55, c56, v67, (c35 ++ ([iV x62])), w64 (x36 + 1), x57, x65, J, r58, r66, hf.sub ⟨J, J, J, J, J, J, trivial⟩, H⟩
   ·replace hB43 := itF hb hB43
    refine C_exit <| x_then_exit <| x_then_exit <| x_block_exit ?_
    replace H := H.e1.e0
    obtain rfl := oi hB43
    obtain rfl := hO44 _ rfl
    refine x_A fun a hf => ⟨v34, c35, x38, J, r42, hf.sub ⟨J, trivial⟩, H⟩
 ·rintro a wd70 ⟨v29, c30, x31, rfl, r71, hf, H⟩
  try dsimp only at hF
  refine XX.at hf <| xs <| qm J J <| qa J J <| C_ret ?_
  obtain rfl := oi hF
  exact fn_ret (l := [.tmp 6]) (vs := [v29]) J J J ⟨v29, c30, x31, J, J, r71, H⟩
theorem c_134 {N : Nat} {C : Cx} {w : World} {ρ : View} {hs : List Hl} {gV : Nat → Value} {x1 : Int} {x2 : Int} {x3 : Int} {x4 : Int} (H : Hp C w ρ (hs)) (_gle : GErrs ρ 394 errIds gV) {r : (Int × Int × Int × Int)} (hF : F_16 N x1 x2 x3 x4 = some r) :
  Calls Tryz.prog 134 [.agg #[uV x1, uV x2, uV x3, uV x4]].toArray w (Rets (fun v w' => (∃ (x5 : Int) (x6 : Int) (x7 : Int) (x8 : Int), (x5, x6, x7, x8) = r ∧ .agg #[uV x5, uV x6, uV x7, uV x8] = v ∧ Hp C w' ρ (hs)))) := by
 unfold F_16 at hF
 have h0 : Tryz.f134.body = some _ := rfl
 refine fn_calls' Tryz.func134 h0 (n := 15) rfl (by simp) <| sr <| ne (E_box H (vs := [uV x1, uV x2, uV x3, uV x4]) J J) J J ?_
 rintro _ wd9 ⟨b10, rfl, H⟩
 refine ne (E_alloc H ty39 (zs := [uV 0, uV 0, uV 0, uV 0]) J) J J ?_
 rintro _ wd11 ⟨b12, rfl, H⟩
 refine WL_nil <| x_then <| C_seq <| sr <| qm J J <| WL_nil <| x_then ?_
 obtain ⟨o13, ho13, hF⟩ := bnd hF
 refine C_cutQ (fun a w' => ∃ (x14 : Int) (x15 : Int) (x16 : Int) (x17 : Int), (x14, x15, x16, x17) = o13 ∧ Fr 15 a [(1, pV b10 0), (2, pV b12 0)] ∧ Hp C w' ρ (Box b10 [uV x14, uV x15, uV x16, uV x17] :: Box b12 [uV 0, uV 0, uV 0, uV 0] :: hs)) ?_ ?_
 ·refine C_block ?_
  replace H := H.f1
  refine C_iter (f := fun s => F_41 N s.1 s.2.1 s.2.2.1 s.2.2.2.1 s.2.2.2.2) ho13 (fun s a w' => ∃ (x18 : Int) (x19 : Int) (x20 : Int) (x21 : Int) (x22 : Int), (x18, x19, x20, x21, x22) = s ∧ Fr 15 a [(1, pV b10 0), (2, pV b12 0), (4, iV x22)] ∧ Hp C w' ρ (Box b10 [uV x18, uV x19, uV x20, uV x21] :: Box b12 [uV 0, uV 0, uV 0, uV 0] :: hs)) ?_ ?_
  ·exact fun a hf => ⟨x1, x2, x3, x4, 0, J, hf.sub ⟨J, J, J, trivial⟩, H⟩
  ·rintro s o23 a wd24 ⟨x18, x19, x20, x21, x22, rfl, hf, H⟩ hB25 hO26
   replace hB25 : F_41 N x18 x19 x20 x21 x22 = some o23 := hB25
   unfold F_41 at hB25
   refine CW.at hf <| sr <| nq (Q_lss J J) J J <| WL_nil <| x_then <| C_seq ?_
   refine C_cond J (fun hb => ?_) (fun hb => ?_)
   ·replace hB25 := itT hb hB25
    refine C_skip <| x_then <| C_seq <| C_block <| sr <| qm J J <| qa J J <| R_nd <| qm J J <| qm J J ?_
    obtain ⟨x27, hx27, hB25⟩ := bnd hB25
    have hn28 := idx_lt (N := 4) (xs := [x18, x19, x20, x21]) rfl hx27
    refine nq (v := .pointer (some ⟨b10, 0 + x22.toNat * 1, none⟩)) (Q_idxA hn28.1 hn28.2 Tryz.underlying39 ty37 J J) J J <| nq (v := uV x27) (Q_ldX (j := 0) (o := 0) (k := .u64) (xs := [x18, x19, x20, x21]) H.ok J ty37 J J hx27) J J <| nq (v := uV (inv .u64 x27)) (Q_inv J) J J ?_
    obtain ⟨x29, hx29, hB25⟩ := bnd hB25
    have hn30 := idx_lt (N := 4) (xs := [x18, x19, x20, x21]) rfl hx29
    refine nq (v := .pointer (some ⟨b10, 0 + x22.toNat * 1, none⟩)) (Q_idxA hn30.1 hn30.2 Tryz.underlying39 ty37 J J) J J ?_
    obtain ⟨x31, hx31, hB25⟩ := bnd hB25
    refine ne (E_stX (j := 0) (o := 0) (N := 4) (k := .u64) (xs := [x18, x19, x20, x21]) (vs' := [uV (x31.getD 0 0), uV (x31.getD 1 0), uV (x31.getD 2 0), uV (x31.getD 3 0)]) H rfl ty37 J J J rfl hx31 (by simp) J) J J ?_
    rintro _ wd32 H
    dsimp only [List.set] at H
    refine WL_nil <| x_block <| x_then <| R_nd <| nq (Q_add J J) J J <| qm J J <| WL_nil ?_
    obtain rfl := oi hB25
    refine x_A fun a hf => ⟨_, J, x31.getD 0 0, x31.getD 1 0, x31.getD 2 0, x31.getD 3 0, w64 (x22 + 1), J, hf.sub ⟨J, J, J, trivial⟩, H⟩
   ·replace hB25 := itF hb hB25
    refine C_exit <| x_then_exit <| x_then_exit <| x_block_exit ?_
    obtain rfl := oi hB25
    obtain rfl := hO26 _ rfl
    refine x_A fun a hf => ⟨x18, x19, x20, x21, J, hf.sub ⟨J, J, trivial⟩, H⟩
 ·rintro a wd33 ⟨x14, x15, x16, x17, rfl, hf, H⟩
  try dsimp only at hF
  refine XX.at hf <| xs <| nq (v := .agg #[uV x14, uV x15, uV x16, uV x17]) (Q_ldB (k := 0) (cs := [uV x14, uV x15, uV x16, uV x17]) H.ok rfl ty39 J J rfl (fun h => nomatch h) J) J J <| ne (E_stB (k := 1) (cs := [uV x14, uV x15, uV x16, uV x17]) (vs' := [uV x14, uV x15, uV x16, uV x17]) H rfl ty39 J J J rfl (one_cons rfl (one_cons rfl (one_cons rfl (one_cons rfl one_nil)))) (by simp) J) J J ?_
  rintro _ wd34 H
  dsimp only [List.set] at H
  refine WL_nil <| x_then <| C_ret ?_
  have hRV : RV Tryz.prog wd34 [(2, pV b12 0)] [.cell 2 39] [.agg #[uV x14, uV x15, uV x16, uV x17]] := ⟨⟨_, rfl, run_ldv ty39 rfl (fun h => nomatch h) (box_at (H.ok.get (k := 1) rfl) 0 4)⟩, trivial⟩
  replace H := H.e1.e0
  obtain rfl := oi hF
  exact fn_retV (rs := [.cell 2 39]) (vs := [.agg #[uV x14, uV x15, uV x16, uV x17]]) J hRV ⟨x14, x15, x16, x17, J, J, H⟩
theorem c_88 {N : Nat} {C : Cx} {w : World} {ρ : View} {hs : List Hl} {gV : Nat → Value} (H : Hp C w ρ (hs)) (gle : GErrs ρ 394 errIds gV) {r : (Int × Int × Int × Int)} (hF : F_89 N = some r) :
  Calls Tryz.prog 88 [].toArray w (Rets (fun v w' => (∃ (x1 : Int) (x2 : Int) (x3 : Int) (x4 : Int), (x1, x2, x3, x4) = r ∧ .agg #[uV x1, uV x2, uV x3, uV x4] = v ∧ Hp C w' ρ (hs)))) := by
 unfold F_89 at hF
 have h0 : Tryz.f88.body = some _ := rfl
 refine fn_calls' Tryz.func88 h0 (n := 3) rfl (by simp) <| sr <| ne (E_alloc H ty39 (zs := [uV 0, uV 0, uV 0, uV 0]) J) J J ?_
 rintro _ wd5 ⟨b6, rfl, H⟩
 refine WL_nil <| xs <| nq (v := .agg #[uV 0, uV 0, uV 0, uV 0]) (Q_build0 (zs := [uV 0, uV 0, uV 0, uV 0]) ty39 Tryz.underlying39 ty37 J) J J ?_
 obtain ⟨q7, hq7, hF⟩ := bnd hF
 refine ne (E_call fn134 J (c_134 H gle   hq7)) J J ?_
 rintro _ wd8 ⟨x9, x10, x11, x12, rfl, rfl, H⟩
 try dsimp only at hF
 refine ne (E_stB (k := 0) (cs := [uV x9, uV x10, uV x11, uV x12]) (vs' := [uV x9, uV x10, uV x11, uV x12]) H rfl ty39 J J J rfl (one_cons rfl (one_cons rfl (one_cons rfl (one_cons rfl one_nil)))) (by simp) J) J J ?_
 rintro _ wd13 H
 dsimp only [List.set] at H
 refine WL_nil <| x_then <| C_ret ?_
 have hRV : RV Tryz.prog wd13 [(0, pV b6 0)] [.cell 0 39] [.agg #[uV x9, uV x10, uV x11, uV x12]] := ⟨⟨_, rfl, run_ldv ty39 rfl (fun h => nomatch h) (box_at (H.ok.get (k := 0) rfl) 0 4)⟩, trivial⟩
 replace H := H.e0
 obtain rfl := oi hF
 exact fn_retV (rs := [.cell 0 39]) (vs := [.agg #[uV x9, uV x10, uV x11, uV x12]]) J hRV ⟨x9, x10, x11, x12, J, J, H⟩
theorem c_89 {N : Nat} {C : Cx} {w : World} {ρ : View} {hs : List Hl} {gV : Nat → Value} {x1 : Int} {x2 : Int} {x3 : Int} {x4 : Int} {x5 : Int} {x6 : Int} {x7 : Int} {x8 : Int} (H : Hp C w ρ (hs)) (_gle : GErrs ρ 394 errIds gV) {r : (Int × Int × Int × Int)} (hF : F_13 N x1 x2 x3 x4 x5 x6 x7 x8 = some r) :
  Calls Tryz.prog 89 [.agg #[uV x1, uV x2, uV x3, uV x4], .agg #[uV x5, uV x6, uV x7, uV x8]].toArray w (Rets (fun v w' => (∃ (x9 : Int) (x10 : Int) (x11 : Int) (x12 : Int), (x9, x10, x11, x12) = r ∧ .agg #[uV x9, uV x10, uV x11, uV x12] = v ∧ Hp C w' ρ (hs)))) := by
 unfold F_13 at hF
 have h0 : Tryz.f89.body = some _ := rfl
 refine fn_calls' Tryz.func89 h0 (n := 19) rfl (by simp) <| sr <| ne (E_box H (vs := [uV x1, uV x2, uV x3, uV x4]) J J) J J ?_
 rintro _ wd13 ⟨b14, rfl, H⟩
 refine ne (E_box H (vs := [uV x5, uV x6, uV x7, uV x8]) J J) J J ?_
 rintro _ wd15 ⟨b16, rfl, H⟩
 refine ne (E_alloc H ty39 (zs := [uV 0, uV 0, uV 0, uV 0]) J) J J ?_
 rintro _ wd17 ⟨b18, rfl, H⟩
 refine WL_nil <| x_then <| C_seq <| sr <| qm J J <| WL_nil <| x_then ?_
 obtain ⟨o19, ho19, hF⟩ := bnd hF
 refine C_cutQ (fun a w' => ∃ (x20 : Int) (x21 : Int) (x22 : Int) (x23 : Int), (x20, x21, x22, x23) = o19 ∧ Fr 19 a [(2, pV b14 0), (4, pV b18 0)] ∧ Hp C w' ρ (Box b14 [uV x20, uV x21, uV x22, uV x23] :: Box b18 [uV 0, uV 0, uV 0, uV 0] :: hs)) ?_ ?_
 ·refine C_block ?_
  replace H := H.f1.f2
  refine C_iter (f := fun s => F_39 N x5 x6 x7 x8 s.1 s.2.1 s.2.2.1 s.2.2.2.1 s.2.2.2.2) ho19 (fun s a w' => ∃ (x24 : Int) (x25 : Int) (x26 : Int) (x27 : Int) (x28 : Int), (x24, x25, x26, x27, x28) = s ∧ Fr 19 a [(2, pV b14 0), (3, pV b16 0), (4, pV b18 0), (6, iV x28)] ∧ Hp C w' ρ (Box b14 [uV x24, uV x25, uV x26, uV x27] :: Box b16 [uV x5, uV x6, uV x7, uV x8] :: Box b18 [uV 0, uV 0, uV 0, uV 0] :: hs)) ?_ ?_
  ·exact fun a hf => ⟨x1, x2, x3, x4, 0, J, hf.sub ⟨J, J, J, J, trivial⟩, H⟩
  ·rintro s o29 a wd30 ⟨x24, x25, x26, x27, x28, rfl, hf, H⟩ hB31 hO32
   replace hB31 : F_39 N x5 x6 x7 x8 x24 x25 x26 x27 x28 = some o29 := hB31
   unfold F_39 at hB31
   refine CW.at hf <| sr <| nq (Q_lss J J) J J <| WL_nil <| x_then <| C_seq ?_
   refine C_cond J (fun hb => ?_) (fun hb => ?_)
   ·replace hB31 := itT hb hB31
    refine C_skip <| x_then <| C_seq <| C_block <| sr <| qm J J <| qa J J ?_
    obtain ⟨o33, ho33, hB31⟩ := bnd hB31
    refine C_cutQ (fun a w' => ∃ (x34 : Int) (x35 : Int) (x36 : Int) (x37 : Int), (x34, x35, x36, x37) = o33 ∧ Fr 19 a [(2, pV b14 0), (3, pV b16 0), (4, pV b18 0), (6, iV x28)] ∧ Hp C w' ρ (Box b14 [uV x34, uV x35, uV x36, uV x37] :: Box b16 [uV x5, uV x6, uV x7, uV x8] :: Box b18 [uV 0, uV 0, uV 0, uV 0] :: hs)) ?_ ?_
    ·refine H.dr (.take 0 (.take 1 (.take 2 (.take 3 (.take 4 (.take 5 (.take 6 (.take 7 (.bar 8 none .done))))))))) (some 8) hm0 (by kernel_rfl) ?_
     replace H := H.drew
     refine dq J (fun _ _ => Q_move J) J J ?_
     obtain ⟨x38, hx38, ho33⟩ := bnd ho33
     have hn39 := idx_lt (N := 4) (xs := [x24, x25, x26, x27]) rfl hx38
     refine dq (v := .pointer (some ⟨b14, 0 + x28.toNat * 1, none⟩)) J (fun _ _ => Q_idxA hn39.1 hn39.2 Tryz.underlying39 ty37 J J) J J <| dq (v := uV x38) J (fun _ hw => Q_ldX (j := 0) (o := 0) (k := .u64) (xs := [x24, x25, x26, x27]) hw J ty37 J J hx38) J J <| dq J (fun _ _ => Q_move J) J J ?_
     obtain ⟨x40, hx40, ho33⟩ := bnd ho33
     have hn41 := idx_lt (N := 4) (xs := [x5, x6, x7, x8]) rfl hx40
     refine dq (v := .pointer (some ⟨b16, 0 + x28.toNat * 1, none⟩)) J (fun _ _ => Q_idxA hn41.1 hn41.2 Tryz.underlying39 ty37 J J) J J <| dq (v := uV x40) J (fun _ hw => Q_ldX (j := 1) (o := 0) (k := .u64) (xs := [x5, x6, x7, x8]) hw J ty37 J J hx40) J J <| dq J (fun _ _ => Q_and J J) J J ?_
     obtain ⟨x42, hx42, ho33⟩ := bnd ho33
     have hn43 := idx_lt (N := 4) (xs := [x24, x25, x26, x27]) rfl hx42
     refine dq (v := .pointer (some ⟨b14, 0 + x28.toNat * 1, none⟩)) J (fun _ _ => Q_idxA hn43.1 hn43.2 Tryz.underlying39 ty37 J J) J J ?_
     obtain ⟨x44, hx44, ho33⟩ := bnd ho33
     refine db rfl (E_stX (j := 0) (o := 0) (N := 4) (k := .u64) (xs := [x24, x25, x26, x27]) (vs' := [uV (x44.getD 0 0), uV (x44.getD 1 0), uV (x44.getD 2 0), uV (x44.getD 3 0)]) H rfl ty37 J J J rfl hx44 (by simp) J) J J ?_
     rintro _ wd45 H
     dsimp only [List.set] at H
     refine H.okF <| DL_nil ?_
     obtain rfl := oi ho33
     refine x_A fun a hf => ⟨x44.getD 0 0, x44.getD 1 0, x44.getD 2 0, x44.getD 3 0, J, hf.sub ⟨J, J, J, J, trivial⟩, H⟩
    ·rintro a wd46 ⟨x34, x35, x36, x37, rfl, hf, H⟩
     try dsimp only at hB31
     refine XX.at hf <| x_block <| x_then <| R_nd <| nq (Q_add J J) J J <| qm J J <| WL_nil ?_
     obtain rfl := oi hB31
     refine x_A fun a hf => ⟨_, J, x34, x35, x36, x37, w64 (x28 + 1), J, hf.sub ⟨J, J, J, J, trivial⟩, H⟩
   ·replace hB31 := itF hb hB31
    refine C_exit <| x_then_exit <| x_then_exit <| x_block_exit ?_
    replace H := H.e1
    obtain rfl := oi hB31
    obtain rfl := hO32 _ rfl
    refine x_A fun a hf => ⟨x24, x25, x26, x27, J, hf.sub ⟨J, J, trivial⟩, H⟩
 ·rintro a wd47 ⟨x20, x21, x22, x23, rfl, hf, H⟩
  try dsimp only at hF
  refine XX.at hf <| xs <| nq (v := .agg #[uV x20, uV x21, uV x22, uV x23]) (Q_ldB (k := 0) (cs := [uV x20, uV x21, uV x22, uV x23]) H.ok rfl ty39 J J rfl (fun h => nomatch h) J) J J <| ne (E_stB (k := 1) (cs := [uV x20, uV x21, uV x22, uV x23]) (vs' := [uV x20, uV x21, uV x22, uV x23]) H rfl ty39 J J J rfl (one_cons rfl (one_cons rfl (one_cons rfl (one_cons rfl one_nil)))) (by simp) J) J J ?_
  rintro _ wd48 H
  dsimp only [List.set] at H
  refine WL_nil <| x_then <| C_ret ?_
  have hRV : RV Tryz.prog wd48 [(4, pV b18 0)] [.cell 4 39] [.agg #[uV x20, uV x21, uV x22, uV x23]] := ⟨⟨_, rfl, run_ldv ty39 rfl (fun h => nomatch h) (box_at (H.ok.get (k := 1) rfl) 0 4)⟩, trivial⟩
  replace H := H.e1.e0
  obtain rfl := oi hF
  exact fn_retV (rs := [.cell 4 39]) (vs := [.agg #[uV x20, uV x21, uV x22, uV x23]]) J hRV ⟨x20, x21, x22, x23, J, J, H⟩
theorem c_90 {N : Nat} {C : Cx} {w : World} {ρ : View} {hs : List Hl} {gV : Nat → Value} {x1 : Int} {x2 : Int} {x3 : Int} {x4 : Int} {x5 : Int} {x6 : Int} {x7 : Int} {x8 : Int} (H : Hp C w ρ (hs)) (gle : GErrs ρ 394 errIds gV) {r : (Int × Int × Int × Int)} (hF : F_90 N x1 x2 x3 x4 x5 x6 x7 x8 = some r) :
  Calls Tryz.prog 90 [.agg #[uV x1, uV x2, uV x3, uV x4], .agg #[uV x5, uV x6, uV x7, uV x8]].toArray w (Rets (fun v w' => (∃ (x9 : Int) (x10 : Int) (x11 : Int) (x12 : Int), (x9, x10, x11, x12) = r ∧ .agg #[uV x9, uV x10, uV x11, uV x12] = v ∧ Hp C w' ρ (hs)))) := by
 unfold F_90 at hF
 have h0 : Tryz.f90.body = some _ := rfl
 refine fn_calls' Tryz.func90 h0 (n := 9) rfl (by simp) <| sr <| ne (E_box H (vs := [uV x1, uV x2, uV x3, uV x4]) J J) J J ?_
 rintro _ wd13 ⟨b14, rfl, H⟩
 refine ne (E_box H (vs := [uV x5, uV x6, uV x7, uV x8]) J J) J J ?_
 rintro _ wd15 ⟨b16, rfl, H⟩
 refine ne (E_alloc H ty39 (zs := [uV 0, uV 0, uV 0, uV 0]) J) J J ?_
 rintro _ wd17 ⟨b18, rfl, H⟩
 refine WL_nil <| x_then ?_
 obtain ⟨o19, ho19, hF⟩ := bnd hF
 refine C_cut (fun a w' => ∃ (x20 : Int) (x21 : Int) (x22 : Int) (x23 : Int), (x20, x21, x22, x23) = o19 ∧ Fr 9 a [(4, pV b18 0)] ∧ Hp C w' ρ (Box b18 [uV x20, uV x21, uV x22, uV x23] :: hs)) ?_ ?_
 ·refine R_dr (.take 0 (.take 1 (.one 2 (.bar 3 (some 4) (.bar 4 none .done))))) (some 3) (S := fun w' => Ok w' ρ [Box b18 [uV 0, uV 0, uV 0, uV 0], Box b16 [uV x5, uV x6, uV x7, uV x8], Box b14 [uV x1, uV x2, uV x3, uV x4]]) hm0 (by kernel_rfl) (H.drew.okS (by simp)) ?_
  replace H := H.drew
  refine dq (v := .agg #[uV x1, uV x2, uV x3, uV x4]) J (fun _ hw => Q_ldB (k := 2) (cs := [uV x1, uV x2, uV x3, uV x4]) hw J ty39 J J J (fun h => nomatch h) J) J J <| dq (v := .agg #[uV x5, uV x6, uV x7, uV x8]) J (fun _ hw => Q_ldB (k := 1) (cs := [uV x5, uV x6, uV x7, uV x8]) hw J ty39 J J J (fun h => nomatch h) J) J J ?_
  obtain ⟨q24, hq24, ho19⟩ := bnd ho19
  refine d1 (de J (E_call fn134 J (c_134 H gle   hq24)) J J ?_)
  rintro _ wd25 ⟨x26, x27, x28, x29, rfl, rfl, H⟩
  try dsimp only at ho19
  refine ⟨H.okS (by simp), ?_⟩
  obtain ⟨q30, hq30, ho19⟩ := bnd ho19
  refine db J (E_call fn89 J (c_89 H gle   hq30)) J J ?_
  rintro _ wd31 ⟨x32, x33, x34, x35, rfl, rfl, H⟩
  try dsimp only at ho19
  refine H.okF <| db rfl (E_stB (k := 0) (cs := [uV x32, uV x33, uV x34, uV x35]) (vs' := [uV x32, uV x33, uV x34, uV x35]) H rfl ty39 J J J rfl (one_cons rfl (one_cons rfl (one_cons rfl (one_cons rfl one_nil)))) (by simp) J) J J ?_
  rintro _ wd36 H
  dsimp only [List.set] at H
  refine H.okF <| DL_nil ?_
  replace H := H.e2.e1
  obtain rfl := oi ho19
  refine x_A fun a hf => ⟨x32, x33, x34, x35, J, hf.sub ⟨J, trivial⟩, H⟩
 ·rintro a wd37 ⟨x20, x21, x22, x23, rfl, hf, H⟩
  try dsimp only at hF
  refine CW.at hf <| C_ret ?_
  have hRV : RV Tryz.prog wd37 [(4, pV b18 0)] [.cell 4 39] [.agg #[uV x20, uV x21, uV x22, uV x23]] := ⟨⟨_, rfl, run_ldv ty39 rfl (fun h => nomatch h) (box_at (H.ok.get (k := 0) rfl) 0 4)⟩, trivial⟩
  replace H := H.e0
  obtain rfl := oi hF
  exact fn_retV (rs := [.cell 4 39]) (vs := [.agg #[uV x20, uV x21, uV x22, uV x23]]) J hRV ⟨x20, x21, x22, x23, J, J, H⟩
theorem c_169 {N : Nat} {C : Cx} {w : World} {ρ : View} {hs : List Hl} {gV : Nat → Value} {x1 : Int} {x2 : Int} {x3 : Int} {x4 : Int} (H : Hp C w ρ (hs)) (_gle : GErrs ρ 394 errIds gV) {r : Unit} (hF : F_4 N x1 x2 x3 x4 = some r) :
  Calls Tryz.prog 169 [.agg #[uV x1, uV x2, uV x3, uV x4]].toArray w (Rets (fun v w' => (∃ (b5 : Nat), () = r ∧ .func (.func 197) #[] [pV b5 0].toArray = v ∧ Hp C w' ρ (Box b5 [uV x1, uV x2, uV x3, uV x4] :: hs)))) := by
 unfold F_4 at hF
 have h0 : Tryz.f169.body = some _ := rfl
 refine fn_calls' Tryz.func169 h0 (n := 4) rfl (by simp) <| sr <| ne (E_box H (vs := [uV x1, uV x2, uV x3, uV x4]) J J) J J ?_
 rintro _ wd6 ⟨b7, rfl, H⟩
 refine qa J J <| sr <| nq (v := .func (.func 197) #[] [pV b7 0].toArray) (Q_func J) J J <| qa J J <| C_ret ?_
 obtain rfl := oi hF
 exact fn_ret (l := [.tmp 2]) (vs := [.func (.func 197) #[] [pV b7 0].toArray]) J J J ⟨b7, J, J, H⟩
theorem c_197 {N : Nat} {C : Cx} {w : World} {ρ : View} {hs : List Hl} {gV : Nat → Value} {σ : Type} {I : View → σ → Hl → Prop} {l : Nat} {rec : Bool → σ → Loop} {A0 : Hl} {b1 : Nat} {Y : Int → σ → Option (σ × Bool)} {s0 : σ} {x2 : Int} {x3 : Int} {x4 : Int} {x5 : Int} (H : Hp C w ρ (Yd l (rec true s0) A0 :: Box b1 [uV x2, uV x3, uV x4, uV x5] :: hs)) (gle : GErrs ρ 394 errIds gV) (gl18 : GTab ρ 18 .u8 tab_math_bits_deBruijn64tab) (hY : YC Tryz.prog l rec I (fun _ x args => args = #[iV x]) Y ρ) (hI0 : I ρ s0 A0) (_hImono : ∀ {ρ1 ρ2 : View} {s : σ} {A : Hl}, View.le ρ1 ρ2 → I ρ1 s A → I ρ2 s A) {r : (σ × Bool)} (hF : F_9 N Y s0 x2 x3 x4 x5 = some r) :
  Calls Tryz.prog 197 [.func (.yield l) #[] #[], pV b1 0].toArray w (Rets (fun v w' => (∃ (ρ' : View) (A6 : Hl) (x7 : σ) (x8 : Bool), (x7, x8) = r ∧ .tuple [].toArray = v ∧ View.le ρ ρ' ∧ I ρ' x7 A6 ∧ Hp C w' ρ' (Yd l (rec x8 x7) A6 :: hs)))) := by
 unfold F_9 at hF
 have h0 : Tryz.f197.body = some _ := rfl
 refine fn_calls' Tryz.func197 h0 (n := 25) rfl (by simp) <| sr <| nq (v := .agg #[uV x2, uV x3, uV x4, uV x5]) (Q_ldB (k := 1) (cs := [uV x2, uV x3, uV x4, uV x5]) H.ok rfl ty39 J J rfl (fun h => nomatch h) J) J J <| qm J J <| WL_nil <| x_then ?_
 obtain ⟨o9, ho9, hF⟩ := bnd hF
 refine C_cutQ (fun a w' => ∃ (ρ' : View) (A10 : Hl) (x11 : σ), View.le ρ ρ' ∧ .inl x11 = o9 ∧ I ρ' x11 A10 ∧ Fr 25 a [] ∧ Hp C w' ρ' (Yd l (rec true x11) A10 :: Box b1 [uV x2, uV x3, uV x4, uV x5] :: hs)) ?_ ?_
 ·refine C_block ?_
  refine C_iter (f := fun s => F_43 N Y x2 x3 x4 x5 s.1 s.2) ho9 (fun s a w' => ∃ (ρ' : View) (A12 : Hl) (x13 : σ) (x14 : Int), View.le ρ ρ' ∧ (x13, x14) = s ∧ I ρ' x13 A12 ∧ Fr 25 a [(0, .func (.yield l) #[] #[]), (5, .agg #[uV x2, uV x3, uV x4, uV x5]), (6, iV x14)] ∧ Hp C w' ρ' (Yd l (rec true x13) A12 :: Box b1 [uV x2, uV x3, uV x4, uV x5] :: hs)) ?_ ?_
  ·exact fun a hf => ⟨ρ, A0, s0, 0, (View.le_refl _), J, hI0, hf.sub ⟨J, J, J, trivial⟩, H⟩
  ·rintro s o15 a wd16 ⟨ρ, A12, x13, x14, lw17, rfl, hI18, hf, H⟩ hB19 hO20
   replace hB19 : F_43 N Y x2 x3 x4 x5 x13 x14 = some o15 := hB19
   unfold F_43 at hB19
   refine CW.at hf ?_
   replace gle := GErrs.up lw17 gle
   replace gl18 := GTab.up lw17 gl18
   refine sr <| nq (Q_lss J J) J J <| WL_nil <| x_then <| C_seq ?_
   refine C_cond J (fun hb => ?_) (fun hb => ?_)
   ·replace hB19 := itT hb hB19
    refine C_skip <| x_then <| C_seq <| C_block <| sr <| qm J J ?_
    obtain ⟨x21, hx21, hB19⟩ := bnd hB19
    refine nq (v := uV x21) (Q_ixI (xs := [x2, x3, x4, x5]) (rdL_ints .u64 ρ [x2, x3, x4, x5]) J hx21 Tryz.underlying39 J J ty37 J) J J <| nq (Q_assign J) J J <| qa J J ?_
    obtain ⟨o22, ho22, hB19⟩ := bnd hB19
    refine C_cutQ (fun a w' => ∃ (ρ' : View) (A23 : Hl) (x24 : σ), View.le ρ ρ' ∧ .inl x24 = o22 ∧ I ρ' x24 A23 ∧ Fr 25 a [(0, .func (.yield l) #[] #[]), (5, .agg #[uV x2, uV x3, uV x4, uV x5]), (6, iV x14)] ∧ Hp C w' ρ' (Yd l (rec true x24) A23 :: Box b1 [uV x2, uV x3, uV x4, uV x5] :: hs)) ?_ ?_
    ·refine C_block ?_
     refine C_iter (f := fun s => F_64 N Y x14 s.1 s.2) ho22 (fun s a w' => ∃ (ρ' : View) (A25 : Hl) (x26 : σ) (x27 : Int), View.le ρ ρ' ∧ (x26, x27) = s ∧ I ρ' x26 A25 ∧ Fr 25 a [(0, .func (.yield l) #[] #[]), (3, iV x14), (4, uV x27), (5, .agg #[uV x2, uV x3, uV x4, uV x5]), (6, iV x14)] ∧ Hp C w' ρ' (Yd l (rec true x26) A25 :: Box b1 [uV x2, uV x3, uV x4, uV x5] :: hs)) ?_ ?_
     ·exact fun a hf => ⟨ρ, A12, x13, x21, (View.le_refl _), J, hI18, hf.sub ⟨J, J, J, J, J, trivial⟩, H⟩
     ·rintro s o28 a wd29 ⟨ρ, A25, x26, x27, lw30, rfl, hI31, hf, H⟩ hB32 hO33
      replace hB32 : F_64 N Y x14 x26 x27 = some o28 := hB32
      unfold F_64 at hB32
      refine CW.at hf ?_
      replace gle := GErrs.up lw30 gle
      replace gl18 := GTab.up lw30 gl18
      refine C_seq <| sr <| qm J J <| nq (Q_neq J J) J J <| WL_nil <| x_then ?_
      refine C_cond J (fun hb => ?_) (fun hb => ?_)
      ·replace hB32 := itT hb hB32
       refine C_skip <| x_then <| C_seq <| C_block <| sr <| qm J J <| qm J J <| nq (Q_mul J J) J J <| qm J J ?_
       obtain ⟨q34, hq34, hB32⟩ := bnd hB32
       refine ne (E_call fn132 J (c_132 H gle gl18  hq34)) J J ?_
       rintro _ wd35 ⟨x36, rfl, rfl, H⟩
       try dsimp only at hB32
       refine nq (Q_add J J) J J ?_
       obtain ⟨q37, hq37, hB32⟩ := bnd hB32
       refine neI (E_yield (x := (w64 ((w64 (64 * x14)) + x36))) (vs := [iV (w64 ((w64 (64 * x14)) + x36))]) hY (View.le_trans lw17 lw30) hI31 H J hq37 J J) J J ?_
       rintro _ wd38 ⟨rfl, ρ, A39, lw40, hI41, H⟩
       replace gle := GErrs.up lw40 gle
       replace gl18 := GTab.up lw40 gl18
       refine nq (Q_not J) J J <| WL_nil <| x_then ?_
       refine C_cond J (fun hb => ?_) (fun hb => ?_)
       ·replace hB32 := itT hb hB32
        replace hb : q37.2 = false := bnT hb
        rw [hb] at H
        refine C_ret <| x_block_ret <| x_then_ret <| x_then_ret <| x_block_ret <| x_then_ret <| x_block_ret <| x_then_ret <| x_then_ret <| x_block_ret <| x_then_ret ?_
        replace H := H.e1
        obtain rfl := oi hB32
        obtain rfl := hO33 _ rfl
        obtain rfl := oi (show some _ = some _ from hB19)
        obtain rfl := hO20 _ rfl
        obtain rfl := oi (show some _ = some _ from hF)
        exact fn_ret (l := []) (vs := []) J J J ⟨ρ, A39, q37.1, false, J, J, (View.le_trans lw17 (View.le_trans lw30 lw40)), hI41, H⟩
       ·replace hB32 := itF hb hB32
        replace hb : q37.2 = true := bnF hb
        rw [hb] at H
        refine C_skip <| x_block <| x_then <| R_nd <| qm J J <| qm J J <| nq (Q_sub J J) J J <| nq (Q_and J J) J J <| nq (Q_assign J) J J <| WL_nil ?_
        obtain rfl := oi hB32
        refine x_A fun a hf => ⟨_, J, ρ, A39, q37.1, iand .u64 x27 (IntKind.wrap .u64 (x27 - 1)), (View.le_trans lw30 lw40), J, hI41, hf.sub ⟨J, J, J, J, J, trivial⟩, H⟩
      ·replace hB32 := itF hb hB32
       refine C_exit <| x_then_exit <| x_then_exit <| x_block_exit ?_
       obtain rfl := oi hB32
       obtain rfl := hO33 _ rfl
       refine x_A fun a hf => ⟨ρ, A25, x26, lw30, J, hI31, hf.sub ⟨J, J, J, trivial⟩, H⟩
    ·rintro a wd42 ⟨ρ, A23, x24, lw43, rfl, hI44, hf, H⟩
     try dsimp only at hB19
     replace gle := GErrs.up lw43 gle
     replace gl18 := GTab.up lw43 gl18
     refine XX.at hf <| x_block <| x_then <| R_nd <| nq (Q_add J J) J J <| qm J J <| WL_nil ?_
     obtain rfl := oi hB19
     refine x_A fun a hf => ⟨_, J, ρ, A23, x24, w64 (x14 + 1), (View.le_trans lw17 lw43), J, hI44, hf.sub ⟨J, J, J, trivial⟩, H⟩
   ·replace hB19 := itF hb hB19
    refine C_exit <| x_then_exit <| x_then_exit <| x_block_exit ?_
    obtain rfl := oi hB19
    obtain rfl := hO20 _ rfl
    refine x_A fun a hf => ⟨ρ, A12, x13, lw17, J, hI18, hf.sub trivial, H⟩
 ·rintro a wd45 ⟨ρ, A10, x11, lw46, rfl, hI47, hf, H⟩
  try dsimp only at hF
  replace gle := GErrs.up lw46 gle
  replace gl18 := GTab.up lw46 gl18
  refine XX.at hf ?_
  replace H := H.e1
  obtain rfl := oi hF
  exact fn_end (l := []) (vs := []) J J J ⟨ρ, A10, x11, true, J, J, lw46, hI47, H⟩
end Go.Proofs.YtealkahefalaeaaGreatDoor
