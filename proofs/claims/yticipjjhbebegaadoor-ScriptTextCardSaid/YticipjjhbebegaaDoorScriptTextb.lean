/-
  The walks of the law ScriptText, printed by my program, part 2: each function of the code computes its pure function.
-/
import Derived.Test.YticipjjhbebegaaDoorScriptTexta
import Derived.Test.YticipjjhbebegaaDoorScriptTextP1
namespace Go.Proofs.YticipjjhbebegaaDoor
open Go Go.Eng
set_option maxRecDepth 100000
theorem c_26_1 {N : Nat} {C : Cx} {w : World} {ρ : View} {hs : List Hl} {x1 : Int} (H : Hp C w ρ (hs)) {gV : Nat → Value} (_gle : GErrs ρ 137 errIds gV) {r : (ByteArray × ByteArray)} (hF : F_dofferref36_Form_1 N x1 = some r) :
  Calls Tryd.prog 26 [.int .i64 x1].toArray w (Rets (fun v w' => (∃ (x117 : ByteArray) (x118 : ByteArray), (x117, x118) = r ∧ .tuple [.string x117, .string x118].toArray = v ∧ Hp C w' ρ (hs)))) := by
 unfold F_dofferref36_Form_1 at hF
 have h0 : Tryd.f26.body = some _ := rfl
 refine fn_calls' Tryd.func26 h0 (n := 20) rfl (by simp) <| C_seq <| R_nd <| nq (Q_assign rfl) rfl rfl <| nq (Q_assign rfl) rfl rfl <| WL_nil <| x_then <| C_seq ?_
 obtain ⟨o120, ho120, hF⟩ := bnd hF
 refine C_cut (fun a w' => ∃ (x119 : Bool), x119 = o120 ∧ Fr 20 a [(0, .int .i64 x1), (9, .bool x119)] ∧ Hp C w' ρ (hs)) ?_ ?_
 ·refine R_nd <| nq (Q_move rfl) rfl rfl <| nq (Q_lss rfl rfl) rfl rfl <| nq (Q_move rfl) rfl rfl ?_
  rcases Bool.eq_false_or_eq_true (decide (x1 < 1)) with hb | hb
  ·rw [hb]
   replace ho120 := itT hb ho120
   refine gs rfl rfl rfl rfl <| gs rfl rfl rfl rfl <| nq (Q_pickT rfl rfl) rfl rfl <| WL_nil ?_
   obtain rfl := Option.some.inj ho120
   refine x_A fun a hf => ⟨true, rfl, hf.sub ⟨rfl, rfl, trivial⟩, H⟩
  ·rw [hb]
   replace ho120 := itF hb ho120
   refine gq (Q_move rfl) rfl rfl rfl <| gq (Q_gtr rfl rfl) rfl rfl rfl <| nq (Q_pickF rfl rfl) rfl rfl <| WL_nil ?_
   obtain rfl := Option.some.inj ho120
   refine x_A fun a hf => ⟨decide (x1 > 7), rfl, hf.sub ⟨rfl, rfl, trivial⟩, H⟩
 ·rintro a wd121 ⟨x119, rfl, hf, H⟩
  try dsimp only at hF
  refine CW.at hf ?_
  refine C_cond rfl (fun hb => ?_) (fun hb => ?_)
  ·replace hF := itT hb hF
   refine C_seq <| R_nd <| nq (Q_assign rfl) rfl rfl <| nq (Q_assign rfl) rfl rfl <| WL_nil <| x_then <| C_ret <| x_then_ret ?_
   obtain rfl := Option.some.inj hF
   exact fn_ret (l := [.tmp 2, .tmp 3]) (vs := [.string ByteArray.empty, .string ByteArray.empty]) rfl rfl rfl ⟨ByteArray.empty, ByteArray.empty, rfl, rfl, H⟩
  ·replace hF := itF hb hF
   refine C_skip <| x_then ?_
   obtain ⟨o178, ho178, hF⟩ := bnd hF
   refine C_cut (fun a w' => ∃ (x176 : ByteArray) (x177 : ByteArray), (x176, x177) = o178 ∧ Fr 20 a [(2, .string x176), (3, .string x177)] ∧ Hp C w' ρ (hs)) ?_ ?_
   ·refine R_dr (.take 1 (.take 2 (.take 6 (.take 7 (.two 0 5 (.take 3 (.two 4 5 (.take 10 (.one 5 (.take 8 (.one 9 (.take 11 .done))))) (.take 8 (.two 4 9 (.take 10 (.one 9 (.take 11 .done))) (.one 4 (.take 10 (.take 11 .done))))))) (.take 8 (.two 0 9 (.take 3 (.two 4 9 (.take 10 (.one 9 (.take 11 .done))) (.one 4 (.take 10 (.take 11 .done))))) (.one 0 (.take 3 (.one 4 (.take 10 (.take 11 .done)))))))))))) (fun w' => Ok w' ρ []) (by kernel_rfl) (by kernel_rfl) (by kernel_rfl) (H.drew.okS (by simp)) ?_
    replace H := H.drew
    refine dq rfl (fun _ _ => Q_move rfl) rfl rfl <| dq rfl (fun _ _ => Q_sub rfl rfl) rfl rfl <| dq rfl (fun _ _ => Q_move rfl) rfl rfl <| dq rfl (fun _ _ => Q_sub rfl rfl) rfl rfl ?_
    refine d2 ?_ ?_
    ·refine de rfl (E_bslice (xs := [.const (.string ⟨#[111, 112, 101, 110]⟩), .const (.string ⟨#[102, 101, 101, 100]⟩), .const (.string ⟨#[99, 108, 111, 115, 101]⟩), .const (.string ⟨#[105, 110, 115, 116, 97, 108, 108]⟩), .const (.string ⟨#[100, 114, 97, 105, 110]⟩), .const (.string ⟨#[116, 105, 99, 107]⟩), .const (.string ⟨#[101, 110, 100]⟩)]) (vs := [.string (⟨#[111, 112, 101, 110]⟩ : ByteArray), .string (⟨#[102, 101, 101, 100]⟩ : ByteArray), .string (⟨#[99, 108, 111, 115, 101]⟩ : ByteArray), .string (⟨#[105, 110, 115, 116, 97, 108, 108]⟩ : ByteArray), .string (⟨#[100, 114, 97, 105, 110]⟩ : ByteArray), .string (⟨#[116, 105, 99, 107]⟩ : ByteArray), .string (⟨#[101, 110, 100]⟩ : ByteArray)]) H Tryd.underlying32 ty9 (by decide) (cs := [.string (⟨#[111, 112, 101, 110]⟩ : ByteArray), .string (⟨#[102, 101, 101, 100]⟩ : ByteArray), .string (⟨#[99, 108, 111, 115, 101]⟩ : ByteArray), .string (⟨#[105, 110, 115, 116, 97, 108, 108]⟩ : ByteArray), .string (⟨#[100, 114, 97, 105, 110]⟩ : ByteArray), .string (⟨#[116, 105, 99, 107]⟩ : ByteArray), .string (⟨#[101, 110, 100]⟩ : ByteArray)]) rfl (sz_cons rfl (sz_cons rfl (sz_cons rfl (sz_cons rfl (sz_cons rfl (sz_cons rfl (sz_cons rfl sz_nil))))))) rfl (by simp) (by simp) rfl rfl) rfl rfl ?_
     rintro _ wd180 ⟨b179, rfl, H⟩
     refine ⟨H.okS (by simp), ?_⟩
     obtain ⟨x181, hx181, ho178⟩ := bnd ho178
     obtain ⟨b182, o183, hi187, hc185, ha186⟩ := arr_at (en := eS) (hs := [Arr (.slice (some ⟨b179, 0, none⟩) 7 7) 1 ([.string (⟨#[111, 112, 101, 110]⟩ : ByteArray), .string (⟨#[102, 101, 101, 100]⟩ : ByteArray), .string (⟨#[99, 108, 111, 115, 101]⟩ : ByteArray), .string (⟨#[105, 110, 115, 116, 97, 108, 108]⟩ : ByteArray), .string (⟨#[100, 114, 97, 105, 110]⟩ : ByteArray), .string (⟨#[116, 105, 99, 107]⟩ : ByteArray), .string (⟨#[101, 110, 100]⟩ : ByteArray)])]) (k := 0) (by decide) (H.okS (by simp)) rfl (show rdL eS ρ ([(⟨#[111, 112, 101, 110]⟩ : ByteArray), (⟨#[102, 101, 101, 100]⟩ : ByteArray), (⟨#[99, 108, 111, 115, 101]⟩ : ByteArray), (⟨#[105, 110, 115, 116, 97, 108, 108]⟩ : ByteArray), (⟨#[100, 114, 97, 105, 110]⟩ : ByteArray), (⟨#[116, 105, 99, 107]⟩ : ByteArray), (⟨#[101, 110, 100]⟩ : ByteArray)]) ([.string (⟨#[111, 112, 101, 110]⟩ : ByteArray), .string (⟨#[102, 101, 101, 100]⟩ : ByteArray), .string (⟨#[99, 108, 111, 115, 101]⟩ : ByteArray), .string (⟨#[105, 110, 115, 116, 97, 108, 108]⟩ : ByteArray), .string (⟨#[100, 114, 97, 105, 110]⟩ : ByteArray), .string (⟨#[116, 105, 99, 107]⟩ : ByteArray), .string (⟨#[101, 110, 100]⟩ : ByteArray)]) from ⟨([.string (⟨#[111, 112, 101, 110]⟩ : ByteArray)]), _, rfl, rfl, ⟨([.string (⟨#[102, 101, 101, 100]⟩ : ByteArray)]), _, rfl, rfl, ⟨([.string (⟨#[99, 108, 111, 115, 101]⟩ : ByteArray)]), _, rfl, rfl, ⟨([.string (⟨#[105, 110, 115, 116, 97, 108, 108]⟩ : ByteArray)]), _, rfl, rfl, ⟨([.string (⟨#[100, 114, 97, 105, 110]⟩ : ByteArray)]), _, rfl, rfl, ⟨([.string (⟨#[116, 105, 99, 107]⟩ : ByteArray)]), _, rfl, rfl, ⟨([.string (⟨#[101, 110, 100]⟩ : ByteArray)]), _, rfl, rfl, rdL.nil⟩⟩⟩⟩⟩⟩⟩) hx181
     refine dq rfl (fun _ _ => Q_idx hi187 Tryd.underlying32 ty9 rfl rfl) rfl rfl ?_
     refine d2 ?_ ?_
     ·refine de rfl (Eff.quiet (v := .string x181) (Q_ld (show cellsAt _ _ _ [.string x181] from (show _ = [_] from hc185) ▸ (ha186 _ (Ok.subS (by simp) H.ok))) ty9 rfl (fun _ => rfl) rfl rfl)) rfl rfl ?_
      rintro _ _ ⟨rfl, rfl⟩
      refine ⟨H.okS (by simp), ?_⟩
      refine dq rfl (fun _ _ => Q_assign rfl) rfl rfl ?_
      refine d1 (de rfl (E_bslice (xs := [.const (.string ⟨#[]⟩), .const (.string ⟨#[110, 98]⟩), .const (.string ⟨#[110]⟩), .const (.string ⟨#[110, 98]⟩), .const (.string ⟨#[110, 109]⟩), .const (.string ⟨#[]⟩), .const (.string ⟨#[110, 109]⟩)]) (vs := [.string ByteArray.empty, .string (⟨#[110, 98]⟩ : ByteArray), .string (⟨#[110]⟩ : ByteArray), .string (⟨#[110, 98]⟩ : ByteArray), .string (⟨#[110, 109]⟩ : ByteArray), .string ByteArray.empty, .string (⟨#[110, 109]⟩ : ByteArray)]) H Tryd.underlying32 ty9 (by decide) (cs := [.string ByteArray.empty, .string (⟨#[110, 98]⟩ : ByteArray), .string (⟨#[110]⟩ : ByteArray), .string (⟨#[110, 98]⟩ : ByteArray), .string (⟨#[110, 109]⟩ : ByteArray), .string ByteArray.empty, .string (⟨#[110, 109]⟩ : ByteArray)]) rfl (sz_cons rfl (sz_cons rfl (sz_cons rfl (sz_cons rfl (sz_cons rfl (sz_cons rfl (sz_cons rfl sz_nil))))))) rfl (by simp) (by simp) rfl rfl) rfl rfl ?_)
      rintro _ wd189 ⟨b188, rfl, H⟩
      refine ⟨H.okS (by simp), ?_⟩
      obtain ⟨x190, hx190, ho178⟩ := bnd ho178
      obtain ⟨b191, o192, hi196, hc194, ha195⟩ := arr_at (en := eS) (hs := [Arr (.slice (some ⟨b188, 0, none⟩) 7 7) 1 ([.string ByteArray.empty, .string (⟨#[110, 98]⟩ : ByteArray), .string (⟨#[110]⟩ : ByteArray), .string (⟨#[110, 98]⟩ : ByteArray), .string (⟨#[110, 109]⟩ : ByteArray), .string ByteArray.empty, .string (⟨#[110, 109]⟩ : ByteArray)])]) (k := 0) (by decide) (H.okS (by simp)) rfl (show rdL eS ρ ([ByteArray.empty, (⟨#[110, 98]⟩ : ByteArray), (⟨#[110]⟩ : ByteArray), (⟨#[110, 98]⟩ : ByteArray), (⟨#[110, 109]⟩ : ByteArray), ByteArray.empty, (⟨#[110, 109]⟩ : ByteArray)]) ([.string ByteArray.empty, .string (⟨#[110, 98]⟩ : ByteArray), .string (⟨#[110]⟩ : ByteArray), .string (⟨#[110, 98]⟩ : ByteArray), .string (⟨#[110, 109]⟩ : ByteArray), .string ByteArray.empty, .string (⟨#[110, 109]⟩ : ByteArray)]) from ⟨([.string ByteArray.empty]), _, rfl, rfl, ⟨([.string (⟨#[110, 98]⟩ : ByteArray)]), _, rfl, rfl, ⟨([.string (⟨#[110]⟩ : ByteArray)]), _, rfl, rfl, ⟨([.string (⟨#[110, 98]⟩ : ByteArray)]), _, rfl, rfl, ⟨([.string (⟨#[110, 109]⟩ : ByteArray)]), _, rfl, rfl, ⟨([.string ByteArray.empty]), _, rfl, rfl, ⟨([.string (⟨#[110, 109]⟩ : ByteArray)]), _, rfl, rfl, rdL.nil⟩⟩⟩⟩⟩⟩⟩) hx190
      refine dq rfl (fun _ _ => Q_idx hi196 Tryd.underlying32 ty9 rfl rfl) rfl rfl ?_
      refine d1 (de rfl (Eff.quiet (v := .string x190) (Q_ld (show cellsAt _ _ _ [.string x190] from (show _ = [_] from hc194) ▸ (ha195 _ (Ok.subS (by simp) H.ok))) ty9 rfl (fun _ => rfl) rfl rfl)) rfl rfl ?_)
      rintro _ _ ⟨rfl, rfl⟩
      refine ⟨H.okS (by simp), ?_⟩
      refine dq rfl (fun _ _ => Q_assign rfl) rfl rfl <| DL_nil ?_
      replace H := H.drop 0 rfl
      dsimp only [List.eraseIdx] at H
      replace H := H.drop 0 rfl
      dsimp only [List.eraseIdx] at H
      obtain rfl := Option.some.inj ho178
      refine x_A fun a hf => ⟨x181, x190, rfl, hf.sub ⟨rfl, rfl, trivial⟩, H⟩
     ·refine de rfl (E_bslice (xs := [.const (.string ⟨#[]⟩), .const (.string ⟨#[110, 98]⟩), .const (.string ⟨#[110]⟩), .const (.string ⟨#[110, 98]⟩), .const (.string ⟨#[110, 109]⟩), .const (.string ⟨#[]⟩), .const (.string ⟨#[110, 109]⟩)]) (vs := [.string ByteArray.empty, .string (⟨#[110, 98]⟩ : ByteArray), .string (⟨#[110]⟩ : ByteArray), .string (⟨#[110, 98]⟩ : ByteArray), .string (⟨#[110, 109]⟩ : ByteArray), .string ByteArray.empty, .string (⟨#[110, 109]⟩ : ByteArray)]) H Tryd.underlying32 ty9 (by decide) (cs := [.string ByteArray.empty, .string (⟨#[110, 98]⟩ : ByteArray), .string (⟨#[110]⟩ : ByteArray), .string (⟨#[110, 98]⟩ : ByteArray), .string (⟨#[110, 109]⟩ : ByteArray), .string ByteArray.empty, .string (⟨#[110, 109]⟩ : ByteArray)]) rfl (sz_cons rfl (sz_cons rfl (sz_cons rfl (sz_cons rfl (sz_cons rfl (sz_cons rfl (sz_cons rfl sz_nil))))))) rfl (by simp) (by simp) rfl rfl) rfl rfl ?_
      rintro _ wd198 ⟨b197, rfl, H⟩
      refine ⟨H.okS (by simp), ?_⟩
      obtain ⟨x199, hx199, ho178⟩ := bnd ho178
      obtain ⟨b200, o201, hi205, hc203, ha204⟩ := arr_at (en := eS) (hs := [Arr (.slice (some ⟨b197, 0, none⟩) 7 7) 1 ([.string ByteArray.empty, .string (⟨#[110, 98]⟩ : ByteArray), .string (⟨#[110]⟩ : ByteArray), .string (⟨#[110, 98]⟩ : ByteArray), .string (⟨#[110, 109]⟩ : ByteArray), .string ByteArray.empty, .string (⟨#[110, 109]⟩ : ByteArray)])]) (k := 0) (by decide) (H.okS (by simp)) rfl (show rdL eS ρ ([ByteArray.empty, (⟨#[110, 98]⟩ : ByteArray), (⟨#[110]⟩ : ByteArray), (⟨#[110, 98]⟩ : ByteArray), (⟨#[110, 109]⟩ : ByteArray), ByteArray.empty, (⟨#[110, 109]⟩ : ByteArray)]) ([.string ByteArray.empty, .string (⟨#[110, 98]⟩ : ByteArray), .string (⟨#[110]⟩ : ByteArray), .string (⟨#[110, 98]⟩ : ByteArray), .string (⟨#[110, 109]⟩ : ByteArray), .string ByteArray.empty, .string (⟨#[110, 109]⟩ : ByteArray)]) from ⟨([.string ByteArray.empty]), _, rfl, rfl, ⟨([.string (⟨#[110, 98]⟩ : ByteArray)]), _, rfl, rfl, ⟨([.string (⟨#[110]⟩ : ByteArray)]), _, rfl, rfl, ⟨([.string (⟨#[110, 98]⟩ : ByteArray)]), _, rfl, rfl, ⟨([.string (⟨#[110, 109]⟩ : ByteArray)]), _, rfl, rfl, ⟨([.string ByteArray.empty]), _, rfl, rfl, ⟨([.string (⟨#[110, 109]⟩ : ByteArray)]), _, rfl, rfl, rdL.nil⟩⟩⟩⟩⟩⟩⟩) hx199
      refine dq rfl (fun _ _ => Q_idx hi205 Tryd.underlying32 ty9 rfl rfl) rfl rfl ?_
      refine d2 ?_ ?_
      ·refine de rfl (Eff.quiet (v := .string x181) (Q_ld (show cellsAt _ _ _ [.string x181] from (show _ = [_] from hc185) ▸ (ha186 _ (Ok.subS (by simp) H.ok))) ty9 rfl (fun _ => rfl) rfl rfl)) rfl rfl ?_
       rintro _ _ ⟨rfl, rfl⟩
       refine ⟨H.okS (by simp), ?_⟩
       refine dq rfl (fun _ _ => Q_assign rfl) rfl rfl ?_
       refine d1 (de rfl (Eff.quiet (v := .string x199) (Q_ld (show cellsAt _ _ _ [.string x199] from (show _ = [_] from hc203) ▸ (ha204 _ (Ok.subS (by simp) H.ok))) ty9 rfl (fun _ => rfl) rfl rfl)) rfl rfl ?_)
       rintro _ _ ⟨rfl, rfl⟩
       refine ⟨H.okS (by simp), ?_⟩
       refine dq rfl (fun _ _ => Q_assign rfl) rfl rfl <| DL_nil ?_
       replace H := H.drop 0 rfl
       dsimp only [List.eraseIdx] at H
       replace H := H.drop 0 rfl
       dsimp only [List.eraseIdx] at H
       obtain rfl := Option.some.inj ho178
       refine x_A fun a hf => ⟨x181, x199, rfl, hf.sub ⟨rfl, rfl, trivial⟩, H⟩
      ·refine de rfl (Eff.quiet (v := .string x199) (Q_ld (show cellsAt _ _ _ [.string x199] from (show _ = [_] from hc203) ▸ (ha204 _ (Ok.subS (by simp) H.ok))) ty9 rfl (fun _ => rfl) rfl rfl)) rfl rfl ?_
       rintro _ _ ⟨rfl, rfl⟩
       refine ⟨H.okS (by simp), ?_⟩
       refine d1 (de rfl (Eff.quiet (v := .string x181) (Q_ld (show cellsAt _ _ _ [.string x181] from (show _ = [_] from hc185) ▸ (ha186 _ (Ok.subS (by simp) H.ok))) ty9 rfl (fun _ => rfl) rfl rfl)) rfl rfl ?_)
       rintro _ _ ⟨rfl, rfl⟩
       refine ⟨H.okS (by simp), ?_⟩
       refine dq rfl (fun _ _ => Q_assign rfl) rfl rfl <| dq rfl (fun _ _ => Q_assign rfl) rfl rfl <| DL_nil ?_
       replace H := H.drop 0 rfl
       dsimp only [List.eraseIdx] at H
       replace H := H.drop 0 rfl
       dsimp only [List.eraseIdx] at H
       obtain rfl := Option.some.inj ho178
       refine x_A fun a hf => ⟨x181, x199, rfl, hf.sub ⟨rfl, rfl, trivial⟩, H⟩
    ·refine de rfl (E_bslice (xs := [.const (.string ⟨#[]⟩), .const (.string ⟨#[110, 98]⟩), .const (.string ⟨#[110]⟩), .const (.string ⟨#[110, 98]⟩), .const (.string ⟨#[110, 109]⟩), .const (.string ⟨#[]⟩), .const (.string ⟨#[110, 109]⟩)]) (vs := [.string ByteArray.empty, .string (⟨#[110, 98]⟩ : ByteArray), .string (⟨#[110]⟩ : ByteArray), .string (⟨#[110, 98]⟩ : ByteArray), .string (⟨#[110, 109]⟩ : ByteArray), .string ByteArray.empty, .string (⟨#[110, 109]⟩ : ByteArray)]) H Tryd.underlying32 ty9 (by decide) (cs := [.string ByteArray.empty, .string (⟨#[110, 98]⟩ : ByteArray), .string (⟨#[110]⟩ : ByteArray), .string (⟨#[110, 98]⟩ : ByteArray), .string (⟨#[110, 109]⟩ : ByteArray), .string ByteArray.empty, .string (⟨#[110, 109]⟩ : ByteArray)]) rfl (sz_cons rfl (sz_cons rfl (sz_cons rfl (sz_cons rfl (sz_cons rfl (sz_cons rfl (sz_cons rfl sz_nil))))))) rfl (by simp) (by simp) rfl rfl) rfl rfl ?_
     rintro _ wd207 ⟨b206, rfl, H⟩
     refine ⟨H.okS (by simp), ?_⟩
     obtain ⟨x208, hx208, ho178⟩ := bnd ho178
     obtain ⟨x209, hx209, ho178⟩ := bnd ho178
     obtain ⟨b210, o211, hi215, hc213, ha214⟩ := arr_at (en := eS) (hs := [Arr (.slice (some ⟨b206, 0, none⟩) 7 7) 1 ([.string ByteArray.empty, .string (⟨#[110, 98]⟩ : ByteArray), .string (⟨#[110]⟩ : ByteArray), .string (⟨#[110, 98]⟩ : ByteArray), .string (⟨#[110, 109]⟩ : ByteArray), .string ByteArray.empty, .string (⟨#[110, 109]⟩ : ByteArray)])]) (k := 0) (by decide) (H.okS (by simp)) rfl (show rdL eS ρ ([ByteArray.empty, (⟨#[110, 98]⟩ : ByteArray), (⟨#[110]⟩ : ByteArray), (⟨#[110, 98]⟩ : ByteArray), (⟨#[110, 109]⟩ : ByteArray), ByteArray.empty, (⟨#[110, 109]⟩ : ByteArray)]) ([.string ByteArray.empty, .string (⟨#[110, 98]⟩ : ByteArray), .string (⟨#[110]⟩ : ByteArray), .string (⟨#[110, 98]⟩ : ByteArray), .string (⟨#[110, 109]⟩ : ByteArray), .string ByteArray.empty, .string (⟨#[110, 109]⟩ : ByteArray)]) from ⟨([.string ByteArray.empty]), _, rfl, rfl, ⟨([.string (⟨#[110, 98]⟩ : ByteArray)]), _, rfl, rfl, ⟨([.string (⟨#[110]⟩ : ByteArray)]), _, rfl, rfl, ⟨([.string (⟨#[110, 98]⟩ : ByteArray)]), _, rfl, rfl, ⟨([.string (⟨#[110, 109]⟩ : ByteArray)]), _, rfl, rfl, ⟨([.string ByteArray.empty]), _, rfl, rfl, ⟨([.string (⟨#[110, 109]⟩ : ByteArray)]), _, rfl, rfl, rdL.nil⟩⟩⟩⟩⟩⟩⟩) hx209
     refine dq rfl (fun _ _ => Q_idx hi215 Tryd.underlying32 ty9 rfl rfl) rfl rfl ?_
     refine d2 ?_ ?_
     ·refine de rfl (E_bslice (xs := [.const (.string ⟨#[111, 112, 101, 110]⟩), .const (.string ⟨#[102, 101, 101, 100]⟩), .const (.string ⟨#[99, 108, 111, 115, 101]⟩), .const (.string ⟨#[105, 110, 115, 116, 97, 108, 108]⟩), .const (.string ⟨#[100, 114, 97, 105, 110]⟩), .const (.string ⟨#[116, 105, 99, 107]⟩), .const (.string ⟨#[101, 110, 100]⟩)]) (vs := [.string (⟨#[111, 112, 101, 110]⟩ : ByteArray), .string (⟨#[102, 101, 101, 100]⟩ : ByteArray), .string (⟨#[99, 108, 111, 115, 101]⟩ : ByteArray), .string (⟨#[105, 110, 115, 116, 97, 108, 108]⟩ : ByteArray), .string (⟨#[100, 114, 97, 105, 110]⟩ : ByteArray), .string (⟨#[116, 105, 99, 107]⟩ : ByteArray), .string (⟨#[101, 110, 100]⟩ : ByteArray)]) H Tryd.underlying32 ty9 (by decide) (cs := [.string (⟨#[111, 112, 101, 110]⟩ : ByteArray), .string (⟨#[102, 101, 101, 100]⟩ : ByteArray), .string (⟨#[99, 108, 111, 115, 101]⟩ : ByteArray), .string (⟨#[105, 110, 115, 116, 97, 108, 108]⟩ : ByteArray), .string (⟨#[100, 114, 97, 105, 110]⟩ : ByteArray), .string (⟨#[116, 105, 99, 107]⟩ : ByteArray), .string (⟨#[101, 110, 100]⟩ : ByteArray)]) rfl (sz_cons rfl (sz_cons rfl (sz_cons rfl (sz_cons rfl (sz_cons rfl (sz_cons rfl (sz_cons rfl sz_nil))))))) rfl (by simp) (by simp) rfl rfl) rfl rfl ?_
      rintro _ wd217 ⟨b216, rfl, H⟩
      refine ⟨H.okS (by simp), ?_⟩
      obtain ⟨b218, o219, hi223, hc221, ha222⟩ := arr_at (en := eS) (hs := [Arr (.slice (some ⟨b216, 0, none⟩) 7 7) 1 ([.string (⟨#[111, 112, 101, 110]⟩ : ByteArray), .string (⟨#[102, 101, 101, 100]⟩ : ByteArray), .string (⟨#[99, 108, 111, 115, 101]⟩ : ByteArray), .string (⟨#[105, 110, 115, 116, 97, 108, 108]⟩ : ByteArray), .string (⟨#[100, 114, 97, 105, 110]⟩ : ByteArray), .string (⟨#[116, 105, 99, 107]⟩ : ByteArray), .string (⟨#[101, 110, 100]⟩ : ByteArray)])]) (k := 0) (by decide) (H.okS (by simp)) rfl (show rdL eS ρ ([(⟨#[111, 112, 101, 110]⟩ : ByteArray), (⟨#[102, 101, 101, 100]⟩ : ByteArray), (⟨#[99, 108, 111, 115, 101]⟩ : ByteArray), (⟨#[105, 110, 115, 116, 97, 108, 108]⟩ : ByteArray), (⟨#[100, 114, 97, 105, 110]⟩ : ByteArray), (⟨#[116, 105, 99, 107]⟩ : ByteArray), (⟨#[101, 110, 100]⟩ : ByteArray)]) ([.string (⟨#[111, 112, 101, 110]⟩ : ByteArray), .string (⟨#[102, 101, 101, 100]⟩ : ByteArray), .string (⟨#[99, 108, 111, 115, 101]⟩ : ByteArray), .string (⟨#[105, 110, 115, 116, 97, 108, 108]⟩ : ByteArray), .string (⟨#[100, 114, 97, 105, 110]⟩ : ByteArray), .string (⟨#[116, 105, 99, 107]⟩ : ByteArray), .string (⟨#[101, 110, 100]⟩ : ByteArray)]) from ⟨([.string (⟨#[111, 112, 101, 110]⟩ : ByteArray)]), _, rfl, rfl, ⟨([.string (⟨#[102, 101, 101, 100]⟩ : ByteArray)]), _, rfl, rfl, ⟨([.string (⟨#[99, 108, 111, 115, 101]⟩ : ByteArray)]), _, rfl, rfl, ⟨([.string (⟨#[105, 110, 115, 116, 97, 108, 108]⟩ : ByteArray)]), _, rfl, rfl, ⟨([.string (⟨#[100, 114, 97, 105, 110]⟩ : ByteArray)]), _, rfl, rfl, ⟨([.string (⟨#[116, 105, 99, 107]⟩ : ByteArray)]), _, rfl, rfl, ⟨([.string (⟨#[101, 110, 100]⟩ : ByteArray)]), _, rfl, rfl, rdL.nil⟩⟩⟩⟩⟩⟩⟩) hx208
      refine dq rfl (fun _ _ => Q_idx hi223 Tryd.underlying32 ty9 rfl rfl) rfl rfl ?_
      refine d2 ?_ ?_
      ·refine de rfl (Eff.quiet (v := .string x208) (Q_ld (show cellsAt _ _ _ [.string x208] from (show _ = [_] from hc221) ▸ (ha222 _ (Ok.subS (by simp) H.ok))) ty9 rfl (fun _ => rfl) rfl rfl)) rfl rfl ?_
       rintro _ _ ⟨rfl, rfl⟩
       refine ⟨H.okS (by simp), ?_⟩
       refine dq rfl (fun _ _ => Q_assign rfl) rfl rfl ?_
       refine d1 (de rfl (Eff.quiet (v := .string x209) (Q_ld (show cellsAt _ _ _ [.string x209] from (show _ = [_] from hc213) ▸ (ha214 _ (Ok.subS (by simp) H.ok))) ty9 rfl (fun _ => rfl) rfl rfl)) rfl rfl ?_)
       rintro _ _ ⟨rfl, rfl⟩
       refine ⟨H.okS (by simp), ?_⟩
       refine dq rfl (fun _ _ => Q_assign rfl) rfl rfl <| DL_nil ?_
       replace H := H.drop 0 rfl
       dsimp only [List.eraseIdx] at H
       replace H := H.drop 0 rfl
       dsimp only [List.eraseIdx] at H
       obtain rfl := Option.some.inj ho178
       refine x_A fun a hf => ⟨x208, x209, rfl, hf.sub ⟨rfl, rfl, trivial⟩, H⟩
      ·refine de rfl (Eff.quiet (v := .string x209) (Q_ld (show cellsAt _ _ _ [.string x209] from (show _ = [_] from hc213) ▸ (ha214 _ (Ok.subS (by simp) H.ok))) ty9 rfl (fun _ => rfl) rfl rfl)) rfl rfl ?_
       rintro _ _ ⟨rfl, rfl⟩
       refine ⟨H.okS (by simp), ?_⟩
       refine d1 (de rfl (Eff.quiet (v := .string x208) (Q_ld (show cellsAt _ _ _ [.string x208] from (show _ = [_] from hc221) ▸ (ha222 _ (Ok.subS (by simp) H.ok))) ty9 rfl (fun _ => rfl) rfl rfl)) rfl rfl ?_)
       rintro _ _ ⟨rfl, rfl⟩
       refine ⟨H.okS (by simp), ?_⟩
       refine dq rfl (fun _ _ => Q_assign rfl) rfl rfl <| dq rfl (fun _ _ => Q_assign rfl) rfl rfl <| DL_nil ?_
       replace H := H.drop 0 rfl
       dsimp only [List.eraseIdx] at H
       replace H := H.drop 0 rfl
       dsimp only [List.eraseIdx] at H
       obtain rfl := Option.some.inj ho178
       refine x_A fun a hf => ⟨x208, x209, rfl, hf.sub ⟨rfl, rfl, trivial⟩, H⟩
     ·refine de rfl (Eff.quiet (v := .string x209) (Q_ld (show cellsAt _ _ _ [.string x209] from (show _ = [_] from hc213) ▸ (ha214 _ (Ok.subS (by simp) H.ok))) ty9 rfl (fun _ => rfl) rfl rfl)) rfl rfl ?_
      rintro _ _ ⟨rfl, rfl⟩
      refine ⟨H.okS (by simp), ?_⟩
      refine d1 (de rfl (E_bslice (xs := [.const (.string ⟨#[111, 112, 101, 110]⟩), .const (.string ⟨#[102, 101, 101, 100]⟩), .const (.string ⟨#[99, 108, 111, 115, 101]⟩), .const (.string ⟨#[105, 110, 115, 116, 97, 108, 108]⟩), .const (.string ⟨#[100, 114, 97, 105, 110]⟩), .const (.string ⟨#[116, 105, 99, 107]⟩), .const (.string ⟨#[101, 110, 100]⟩)]) (vs := [.string (⟨#[111, 112, 101, 110]⟩ : ByteArray), .string (⟨#[102, 101, 101, 100]⟩ : ByteArray), .string (⟨#[99, 108, 111, 115, 101]⟩ : ByteArray), .string (⟨#[105, 110, 115, 116, 97, 108, 108]⟩ : ByteArray), .string (⟨#[100, 114, 97, 105, 110]⟩ : ByteArray), .string (⟨#[116, 105, 99, 107]⟩ : ByteArray), .string (⟨#[101, 110, 100]⟩ : ByteArray)]) H Tryd.underlying32 ty9 (by decide) (cs := [.string (⟨#[111, 112, 101, 110]⟩ : ByteArray), .string (⟨#[102, 101, 101, 100]⟩ : ByteArray), .string (⟨#[99, 108, 111, 115, 101]⟩ : ByteArray), .string (⟨#[105, 110, 115, 116, 97, 108, 108]⟩ : ByteArray), .string (⟨#[100, 114, 97, 105, 110]⟩ : ByteArray), .string (⟨#[116, 105, 99, 107]⟩ : ByteArray), .string (⟨#[101, 110, 100]⟩ : ByteArray)]) rfl (sz_cons rfl (sz_cons rfl (sz_cons rfl (sz_cons rfl (sz_cons rfl (sz_cons rfl (sz_cons rfl sz_nil))))))) rfl (by simp) (by simp) rfl rfl) rfl rfl ?_)
      rintro _ wd225 ⟨b224, rfl, H⟩
      refine ⟨H.okS (by simp), ?_⟩
      obtain ⟨b226, o227, hi231, hc229, ha230⟩ := arr_at (en := eS) (hs := [Arr (.slice (some ⟨b224, 0, none⟩) 7 7) 1 ([.string (⟨#[111, 112, 101, 110]⟩ : ByteArray), .string (⟨#[102, 101, 101, 100]⟩ : ByteArray), .string (⟨#[99, 108, 111, 115, 101]⟩ : ByteArray), .string (⟨#[105, 110, 115, 116, 97, 108, 108]⟩ : ByteArray), .string (⟨#[100, 114, 97, 105, 110]⟩ : ByteArray), .string (⟨#[116, 105, 99, 107]⟩ : ByteArray), .string (⟨#[101, 110, 100]⟩ : ByteArray)])]) (k := 0) (by decide) (H.okS (by simp)) rfl (show rdL eS ρ ([(⟨#[111, 112, 101, 110]⟩ : ByteArray), (⟨#[102, 101, 101, 100]⟩ : ByteArray), (⟨#[99, 108, 111, 115, 101]⟩ : ByteArray), (⟨#[105, 110, 115, 116, 97, 108, 108]⟩ : ByteArray), (⟨#[100, 114, 97, 105, 110]⟩ : ByteArray), (⟨#[116, 105, 99, 107]⟩ : ByteArray), (⟨#[101, 110, 100]⟩ : ByteArray)]) ([.string (⟨#[111, 112, 101, 110]⟩ : ByteArray), .string (⟨#[102, 101, 101, 100]⟩ : ByteArray), .string (⟨#[99, 108, 111, 115, 101]⟩ : ByteArray), .string (⟨#[105, 110, 115, 116, 97, 108, 108]⟩ : ByteArray), .string (⟨#[100, 114, 97, 105, 110]⟩ : ByteArray), .string (⟨#[116, 105, 99, 107]⟩ : ByteArray), .string (⟨#[101, 110, 100]⟩ : ByteArray)]) from ⟨([.string (⟨#[111, 112, 101, 110]⟩ : ByteArray)]), _, rfl, rfl, ⟨([.string (⟨#[102, 101, 101, 100]⟩ : ByteArray)]), _, rfl, rfl, ⟨([.string (⟨#[99, 108, 111, 115, 101]⟩ : ByteArray)]), _, rfl, rfl, ⟨([.string (⟨#[105, 110, 115, 116, 97, 108, 108]⟩ : ByteArray)]), _, rfl, rfl, ⟨([.string (⟨#[100, 114, 97, 105, 110]⟩ : ByteArray)]), _, rfl, rfl, ⟨([.string (⟨#[116, 105, 99, 107]⟩ : ByteArray)]), _, rfl, rfl, ⟨([.string (⟨#[101, 110, 100]⟩ : ByteArray)]), _, rfl, rfl, rdL.nil⟩⟩⟩⟩⟩⟩⟩) hx208
      refine dq rfl (fun _ _ => Q_idx hi231 Tryd.underlying32 ty9 rfl rfl) rfl rfl ?_
      refine d1 (de rfl (Eff.quiet (v := .string x208) (Q_ld (show cellsAt _ _ _ [.string x208] from (show _ = [_] from hc229) ▸ (ha230 _ (Ok.subS (by simp) H.ok))) ty9 rfl (fun _ => rfl) rfl rfl)) rfl rfl ?_)
      rintro _ _ ⟨rfl, rfl⟩
      refine ⟨H.okS (by simp), ?_⟩
      refine dq rfl (fun _ _ => Q_assign rfl) rfl rfl <| dq rfl (fun _ _ => Q_assign rfl) rfl rfl <| DL_nil ?_
      replace H := H.drop 0 rfl
      dsimp only [List.eraseIdx] at H
      replace H := H.drop 0 rfl
      dsimp only [List.eraseIdx] at H
      obtain rfl := Option.some.inj ho178
      refine x_A fun a hf => ⟨x208, x209, rfl, hf.sub ⟨rfl, rfl, trivial⟩, H⟩
   ·rintro a wd232 ⟨x176, x177, rfl, hf, H⟩
    try dsimp only at hF
    refine CW.at hf <| C_ret ?_
    obtain rfl := Option.some.inj hF
    exact fn_ret (l := [.tmp 2, .tmp 3]) (vs := [.string x176, .string x177]) rfl rfl rfl ⟨x176, x177, rfl, rfl, H⟩
theorem c_13 {N : Nat} {C : Cx} {w : World} {ρ : View} {hs : List Hl} {x1 : ByteArray} (H : Hp C w ρ (hs)) {gV : Nat → Value} (gle : GErrs ρ 137 errIds gV) {r : (Int × Int × Int × (List Int) × Int)} (hF : F_dofferref36_Parse N x1 = some r) :
  Calls Tryd.prog 13 [.string x1].toArray w (Rets (fun v w' => (∃ (v3655 : Value) (c3656 : (List Value)) (x3652 : Int) (x3653 : Int) (x3654 : Int) (x3657 : (List Int)) (x3659 : Int), (x3652, x3653, x3654, x3657, x3659) = r ∧ .tuple [.agg #[.int .i64 x3652, .int .i64 x3653, .int .i64 x3654, v3655], .int .i64 x3659].toArray = v ∧ rdL (eI .u8) ρ x3657 c3656 ∧ Hp C w' ρ (Arr v3655 1 c3656 :: hs)))) := by
 unfold F_dofferref36_Parse at hF
 have h0 : Tryd.f13.body = some _ := rfl
 refine fn_calls' Tryd.func13 h0 (n := 93) rfl (by simp) <| C_seq <| R_nd <| ne (E_alloc H ty36 (zs := [.int .i64 0, .int .i64 0, .int .i64 0, .slice none 0 0]) rfl) rfl rfl ?_
 rintro _ wd3661 ⟨b3660, rfl, H⟩
 refine nq (Q_assign rfl) rfl rfl <| WL_nil <| x_then <| C_seq <| R_nd <| nq (Q_move rfl) rfl rfl ?_
 obtain ⟨q3662, hq3662, hF⟩ := bnd hF
 refine ne (E_call fn25 rfl (c_25 H gle   hq3662)) rfl rfl ?_
 rintro _ wd3668 ⟨v3664, c3665, x3666, rfl, rfl, r3667, H⟩
 try dsimp only at hF
 refine nq (Q_assign rfl) rfl rfl <| WL_nil <| x_then <| C_seq <| C_seq <| R_nd <| nq (Q_assign rfl) rfl rfl <| WL_nil <| x_then ?_
 obtain ⟨o5488, ho5488, hF⟩ := bnd hF
 refine C_cutQ (fun a w' => .inl () = o5488 ∧ Fr 93 a [(2, .pointer (some ⟨b3660, 0, none⟩))] ∧ Hp C w' ρ (Box b3660 [.int .i64 0, .int .i64 0, .int .i64 0, .slice none 0 0] :: hs)) ?_ ?_
 ·refine C_block ?_
  replace H := H.f1
  refine C_iter (f := fun s => F_dofferref36_Parse_l0 N x3666 s) ho5488 (fun s a w' => ∃ (x6094 : Int), x6094 = s ∧ Fr 93 a [(2, .pointer (some ⟨b3660, 0, none⟩)), (4, v3664), (5, .int .i64 x6094)] ∧ Hp C w' ρ (Box b3660 [.int .i64 0, .int .i64 0, .int .i64 0, .slice none 0 0] :: Arr v3664 1 c3665 :: hs)) ?_ ?_
  ·exact fun a hf => ⟨1, rfl, hf.sub ⟨rfl, rfl, rfl, trivial⟩, H⟩
  ·rintro s o6700 a wd6703 ⟨x6094, rfl, hf, H⟩ hB6701 hO6702
   replace hB6701 : F_dofferref36_Parse_l0 N x3666 x6094 = some o6700 := hB6701
   unfold F_dofferref36_Parse_l0 at hB6701
   refine CW.at hf <| C_seq <| C_seq <| R_nd <| nq (Q_move rfl) rfl rfl <| nq (Q_leq rfl rfl) rfl rfl <| WL_nil <| x_then ?_
   refine C_cond rfl (fun hb => ?_) (fun hb => ?_)
   ·replace hB6701 := itT hb hB6701
    refine C_skip <| x_then <| C_seq <| C_block <| C_seq <| R_nd <| nq (Q_move rfl) rfl rfl ?_
    obtain ⟨q6704, hq6704, hB6701⟩ := bnd hB6701
    refine ne (E_call fn26 rfl (c_26_1 H gle   hq6704)) rfl rfl ?_
    rintro _ wd6708 ⟨x6706, x6707, rfl, rfl, H⟩
    try dsimp only at hB6701
    refine nq (Q_move rfl) rfl rfl <| nq (Q_extract rfl rfl) rfl rfl <| nq (Q_extract rfl rfl) rfl rfl <| nq (Q_assign rfl) rfl rfl <| nq (Q_assign rfl) rfl rfl <| WL_nil <| x_then <| C_seq <| C_seq <| R_nd <| nq (Q_move rfl) rfl rfl <| nq (Q_move rfl) rfl rfl ?_
    obtain ⟨x6709, hx6709, hB6701⟩ := bnd hB6701
    obtain ⟨b6710, o6711, hi6715, hc6713, ha6714⟩ := arr_at (hs := [Arr v3664 1 c3665]) (k := 0) (by decide) (H.okS (by simp)) rfl r3667 hx6709
    refine nq (Q_idx hi6715 Tryd.underlying32 ty9 rfl rfl) rfl rfl <| nq (v := .string x6709) (Q_ld (show cellsAt _ _ _ [.string x6709] from (show _ = [_] from hc6713) ▸ (ha6714 _ (Ok.subS (by simp) H.ok))) ty9 rfl (fun _ => rfl) rfl rfl) rfl rfl <| nq (v := .bool (x6706.toList != x6709.toList)) (Q_neqStr Tryd.underlying9 rfl rfl) rfl rfl <| WL_nil <| x_then ?_
    refine C_cond rfl (fun hb => ?_) (fun hb => ?_)
    ·replace hB6701 := itT hb hB6701
     refine C_exit <| x_then_exit <| x_block_exit <| x_then <| R_nd <| nq (Q_move rfl) rfl rfl <| nq (Q_add rfl rfl) rfl rfl <| nq (Q_assign rfl) rfl rfl <| WL_nil ?_
     replace H := H.f1
     replace H := H.f1
     obtain rfl := Option.some.inj hB6701
     refine x_A fun a hf => ⟨_, rfl, w64 (x6094 + 1), rfl, hf.sub ⟨rfl, rfl, rfl, trivial⟩, H⟩
    ·replace hB6701 := itF hb hB6701
     refine C_skip <| x_then <| C_seq <| C_seq <| R_nd <| nq (Q_move rfl) rfl rfl <| nq (Q_lenA (k := 1) H.ok rfl r3667 (by decide) Tryd.underlying32 rfl) rfl rfl <| nq (Q_move rfl) rfl rfl <| nq (Q_lenStr Tryd.underlying9 rfl) rfl rfl <| nq (Q_add rfl rfl) rfl rfl <| nq (Q_lss rfl rfl) rfl rfl <| WL_nil <| x_then ?_
     refine C_cond rfl (fun hb => ?_) (fun hb => ?_)
     ·replace hB6701 := itT hb hB6701
      refine C_seq <| R_nd <| nq (v := .agg #[.int .i64 0, .int .i64 0, .int .i64 0, .slice none 0 0]) (Q_buildS st36.choose_spec (ps := []) rfl trivial rfl) rfl rfl <| ne (E_stB (k := 0) (cs := [.int .i64 0, .int .i64 0, .int .i64 0, .slice none 0 0]) (vs' := [.int .i64 0, .int .i64 0, .int .i64 0, .slice none 0 0]) H rfl ty36 rfl rfl rfl rfl (one_cons rfl (one_cons rfl (one_cons rfl (one_cons rfl one_nil)))) (by simp) rfl) rfl rfl ?_
      rintro _ wd6716 H
      dsimp only [List.set] at H
      refine nq (Q_assign rfl) rfl rfl <| WL_nil <| x_then <| C_ret <| x_then_ret <| x_block_ret <| x_then_ret <| x_then_ret <| x_block_ret <| x_then_ret <| x_then_ret ?_
      have H := H.nilArr 1
      have hRV : RV Tryd.prog wd6716 [(2, .pointer (some ⟨b3660, 0, none⟩)), (3, .int .i64 2)] [.cell 2 36, .tmp 3] [.agg #[.int .i64 0, .int .i64 0, .int .i64 0, (.slice none 0 0)], .int .i64 2] := ⟨⟨_, rfl, run_ldv ty36 rfl (fun h => nomatch h) (box_at (H.ok.get (k := 1) rfl) 0 4)⟩, rfl, trivial⟩
      replace H := H.drop 1 rfl
      dsimp only [List.eraseIdx] at H
      replace H := H.drop 1 rfl
      dsimp only [List.eraseIdx] at H
      obtain rfl := Option.some.inj hB6701
      obtain rfl := hO6702 _ rfl
      obtain rfl := Option.some.inj (show some _ = some _ from hF)
      exact fn_retV (rs := [.cell 2 36, .tmp 3]) (vs := [.agg #[.int .i64 0, .int .i64 0, .int .i64 0, (.slice none 0 0)], .int .i64 2]) rfl hRV ⟨(.slice none 0 0), [], 0, 0, 0, [], 2, rfl, rfl, rdL.nil, H⟩
     ·replace hB6701 := itF hb hB6701
      refine C_skip <| x_then <| C_seq <| C_seq <| R_nd <| nq (Q_move rfl) rfl rfl <| nq (Q_lenA (k := 1) H.ok rfl r3667 (by decide) Tryd.underlying32 rfl) rfl rfl <| nq (Q_move rfl) rfl rfl <| nq (Q_lenStr Tryd.underlying9 rfl) rfl rfl <| nq (Q_add rfl rfl) rfl rfl <| nq (Q_gtr rfl rfl) rfl rfl <| WL_nil <| x_then ?_
      refine C_cond rfl (fun hb => ?_) (fun hb => ?_)
      ·replace hB6701 := itT hb hB6701
       refine C_seq <| R_nd <| nq (v := .agg #[.int .i64 0, .int .i64 0, .int .i64 0, .slice none 0 0]) (Q_buildS st36.choose_spec (ps := []) rfl trivial rfl) rfl rfl <| ne (E_stB (k := 0) (cs := [.int .i64 0, .int .i64 0, .int .i64 0, .slice none 0 0]) (vs' := [.int .i64 0, .int .i64 0, .int .i64 0, .slice none 0 0]) H rfl ty36 rfl rfl rfl rfl (one_cons rfl (one_cons rfl (one_cons rfl (one_cons rfl one_nil)))) (by simp) rfl) rfl rfl ?_
       rintro _ wd6717 H
       dsimp only [List.set] at H
       refine nq (Q_assign rfl) rfl rfl <| WL_nil <| x_then <| C_ret <| x_then_ret <| x_block_ret <| x_then_ret <| x_then_ret <| x_block_ret <| x_then_ret <| x_then_ret ?_
       have H := H.nilArr 1
       have hRV : RV Tryd.prog wd6717 [(2, .pointer (some ⟨b3660, 0, none⟩)), (3, .int .i64 3)] [.cell 2 36, .tmp 3] [.agg #[.int .i64 0, .int .i64 0, .int .i64 0, (.slice none 0 0)], .int .i64 3] := ⟨⟨_, rfl, run_ldv ty36 rfl (fun h => nomatch h) (box_at (H.ok.get (k := 1) rfl) 0 4)⟩, rfl, trivial⟩
       replace H := H.drop 1 rfl
       dsimp only [List.eraseIdx] at H
       replace H := H.drop 1 rfl
       dsimp only [List.eraseIdx] at H
       obtain rfl := Option.some.inj hB6701
       obtain rfl := hO6702 _ rfl
       obtain rfl := Option.some.inj (show some _ = some _ from hF)
       exact fn_retV (rs := [.cell 2 36, .tmp 3]) (vs := [.agg #[.int .i64 0, .int .i64 0, .int .i64 0, (.slice none 0 0)], .int .i64 3]) rfl hRV ⟨(.slice none 0 0), [], 0, 0, 0, [], 3, rfl, rfl, rdL.nil, H⟩
      ·replace hB6701 := itF hb hB6701
       refine C_skip <| x_then <| C_seq <| R_nd <| nq (Q_move rfl) rfl rfl <| nq (v := .agg #[.int .i64 x6094, .int .i64 0, .int .i64 0, .slice none 0 0]) (Q_buildS st36.choose_spec (ps := [(0, [.int .i64 x6094])]) rfl ⟨rfl, rfl, by simp, trivial⟩ rfl) rfl rfl <| ne (E_alloc H ty36 (zs := [.int .i64 0, .int .i64 0, .int .i64 0, .slice none 0 0]) rfl) rfl rfl ?_
       rintro _ wd6719 ⟨b6718, rfl, H⟩
       refine ne (E_stB (k := 0) (cs := [.int .i64 x6094, .int .i64 0, .int .i64 0, .slice none 0 0]) (vs' := [.int .i64 x6094, .int .i64 0, .int .i64 0, .slice none 0 0]) H rfl ty36 rfl rfl rfl rfl (one_cons rfl (one_cons rfl (one_cons rfl (one_cons rfl one_nil)))) (by simp) rfl) rfl rfl ?_
       rintro _ wd6720 H
       dsimp only [List.set] at H
       refine WL_nil <| x_then <| C_seq <| C_seq <| R_nd <| nq (Q_assign rfl) rfl rfl <| WL_nil <| x_then ?_
       obtain ⟨o7016, ho7016, hB6701⟩ := bnd hB6701
       refine C_cutQ (fun a w' => ∃ (v7012 : Value) (c7013 : (List Value)) (x7010 : Int) (x7011 : Int) (x7014 : (List Int)), .inl (x7010, x7011, x7014) = o7016 ∧ rdL (eI .u8) ρ x7014 c7013 ∧ Fr 93 a [(2, .pointer (some ⟨b3660, 0, none⟩)), (8, .pointer (some ⟨b6718, 0, none⟩))] ∧ Hp C w' ρ (Box b3660 [.int .i64 0, .int .i64 0, .int .i64 0, .slice none 0 0] :: Box b6718 [.int .i64 x6094, .int .i64 x7010, .int .i64 x7011, v7012] :: Arr v7012 1 c7013 :: hs)) ?_ ?_
       ·refine C_block ?_
        have H := H.nilArr 1
        replace H := H.f1
        replace H := H.f3
        replace H := H.f3
        refine C_iter (f := fun s => F_dofferref36_Parse_l1 N x3666 x6707 s.1 s.2.1 s.2.2.1 s.2.2.2) ho7016 (fun s a w' => ∃ (v7114 : Value) (c7115 : (List Value)) (x7112 : Int) (x7113 : Int) (x7116 : (List Int)) (x7118 : Int), (x7112, x7113, x7116, x7118) = s ∧ rdL (eI .u8) ρ x7116 c7115 ∧ Fr 93 a [(2, .pointer (some ⟨b3660, 0, none⟩)), (4, v3664), (7, .string x6707), (8, .pointer (some ⟨b6718, 0, none⟩)), (9, .int .i64 x7118)] ∧ Hp C w' ρ (Box b3660 [.int .i64 0, .int .i64 0, .int .i64 0, .slice none 0 0] :: Arr v3664 1 c3665 :: Box b6718 [.int .i64 x6094, .int .i64 x7112, .int .i64 x7113, v7114] :: Arr v7114 1 c7115 :: hs)) ?_ ?_
        ·exact fun a hf => ⟨(.slice none 0 0), [], 0, 0, [], 0, rfl, rdL.nil, hf.sub ⟨rfl, rfl, rfl, rfl, rfl, trivial⟩, H⟩
        ·rintro s o7214 a wd7217 ⟨v7114, c7115, x7112, x7113, x7116, x7118, rfl, r7117, hf, H⟩ hB7215 hO7216
         replace hB7215 : F_dofferref36_Parse_l1 N x3666 x6707 x7112 x7113 x7116 x7118 = some o7214 := hB7215
         unfold F_dofferref36_Parse_l1 at hB7215
         refine CW.at hf <| C_seq <| C_seq <| R_nd <| nq (Q_move rfl) rfl rfl <| nq (Q_move rfl) rfl rfl <| nq (Q_lenStr Tryd.underlying9 rfl) rfl rfl <| nq (Q_lss rfl rfl) rfl rfl <| WL_nil <| x_then ?_
         refine C_cond rfl (fun hb => ?_) (fun hb => ?_)
         ·replace hB7215 := itT hb hB7215
          refine C_skip <| x_then ?_
          obtain ⟨o7264, ho7264, hB7215⟩ := bnd hB7215
          refine C_cut (fun a w' => ∃ (v7260 : Value) (c7261 : (List Value)) (x7258 : Int) (x7259 : Int) (x7262 : (List Int)), .inl (x7258, x7259, x7262) = o7264 ∧ rdL (eI .u8) ρ x7262 c7261 ∧ Fr 93 a [(2, .pointer (some ⟨b3660, 0, none⟩)), (4, v3664), (7, .string x6707), (8, .pointer (some ⟨b6718, 0, none⟩)), (9, .int .i64 x7118)] ∧ Hp C w' ρ (Box b3660 [.int .i64 0, .int .i64 0, .int .i64 0, .slice none 0 0] :: Arr v3664 1 c3665 :: Box b6718 [.int .i64 x6094, .int .i64 x7258, .int .i64 x7259, v7260] :: Arr v7260 1 c7261 :: hs)) ?_ ?_
          ·refine C_block <| C_seq <| C_seq <| R_nd <| nq (Q_move rfl) rfl rfl <| nq (Q_move rfl) rfl rfl ?_
           obtain ⟨x7265, hx7265, ho7264⟩ := bnd ho7264
           refine nq (Q_ixS hx7265 Tryd.underlying9 rfl rfl) rfl rfl <| nq (Q_eql rfl rfl) rfl rfl <| WL_nil <| x_then ?_
           refine C_cond rfl (fun hb => ?_) (fun hb => ?_)
           ·replace ho7264 := itT hb ho7264
            refine C_seq <| R_nd <| nq (Q_move rfl) rfl rfl <| nq (Q_move rfl) rfl rfl <| nq (Q_add rfl rfl) rfl rfl ?_
            obtain ⟨x7266, hx7266, ho7264⟩ := bnd ho7264
            obtain ⟨b7267, o7268, hi7272, hc7270, ha7271⟩ := arr_at (hs := [Arr v3664 1 c3665]) (k := 0) (by decide) (H.okS (by simp)) rfl r3667 hx7266
            refine nq (Q_idx hi7272 Tryd.underlying32 ty9 rfl rfl) rfl rfl <| nq (v := .string x7266) (Q_ld (show cellsAt _ _ _ [.string x7266] from (show _ = [_] from hc7270) ▸ (ha7271 _ (Ok.subS (by simp) H.ok))) ty9 rfl (fun _ => rfl) rfl rfl) rfl rfl ?_
            obtain ⟨q7273, hq7273, ho7264⟩ := bnd ho7264
            refine ne (E_call fn27 rfl (c_27 H gle   hq7273)) rfl rfl ?_
            rintro _ wd7280 ⟨v7275, c7276, x7277, x7278, rfl, rfl, r7279, H⟩
            try dsimp only at ho7264
            refine nq (Q_move rfl) rfl rfl <| nq (Q_extract rfl rfl) rfl rfl <| nq (Q_extract rfl rfl) rfl rfl <| nq (Q_assign rfl) rfl rfl <| nq (Q_assign rfl) rfl rfl <| WL_nil <| x_then <| C_seq <| C_seq <| R_nd <| nq (Q_move rfl) rfl rfl <| nq (Q_neq rfl rfl) rfl rfl <| WL_nil <| x_then ?_
            refine C_cond rfl (fun hb => ?_) (fun hb => ?_)
            ·replace ho7264 := itT hb ho7264
             refine C_seq <| R_nd <| nq (v := .agg #[.int .i64 0, .int .i64 0, .int .i64 0, .slice none 0 0]) (Q_buildS st36.choose_spec (ps := []) rfl trivial rfl) rfl rfl <| nq (Q_move rfl) rfl rfl <| ne (E_stB (k := 1) (cs := [.int .i64 0, .int .i64 0, .int .i64 0, .slice none 0 0]) (vs' := [.int .i64 0, .int .i64 0, .int .i64 0, .slice none 0 0]) H rfl ty36 rfl rfl rfl rfl (one_cons rfl (one_cons rfl (one_cons rfl (one_cons rfl one_nil)))) (by simp) rfl) rfl rfl ?_
             rintro _ wd7281 H
             dsimp only [List.set] at H
             refine nq (Q_assign rfl) rfl rfl <| WL_nil <| x_then <| C_ret <| x_then_ret <| x_then_ret <| x_block_ret <| x_then_ret <| x_then_ret <| x_block_ret <| x_then_ret <| x_then_ret <| x_block_ret <| x_then_ret ?_
             refine x_then_ret <| x_block_ret <| x_then_ret <| x_then_ret ?_
             have H := H.nilArr 1
             have hRV : RV Tryd.prog wd7281 [(2, .pointer (some ⟨b3660, 0, none⟩)), (3, .int .i64 x7278)] [.cell 2 36, .tmp 3] [.agg #[.int .i64 0, .int .i64 0, .int .i64 0, (.slice none 0 0)], .int .i64 x7278] := ⟨⟨_, rfl, run_ldv ty36 rfl (fun h => nomatch h) (box_at (H.ok.get (k := 2) rfl) 0 4)⟩, rfl, trivial⟩
             replace H := H.drop 1 rfl
             dsimp only [List.eraseIdx] at H
             replace H := H.drop 1 rfl
             dsimp only [List.eraseIdx] at H
             replace H := H.drop 1 rfl
             dsimp only [List.eraseIdx] at H
             replace H := H.drop 1 rfl
             dsimp only [List.eraseIdx] at H
             replace H := H.drop 1 rfl
             dsimp only [List.eraseIdx] at H
             obtain rfl := Option.some.inj ho7264
             obtain rfl := Option.some.inj (show some _ = some _ from hB7215)
             obtain rfl := hO7216 _ rfl
             obtain rfl := Option.some.inj (show some _ = some _ from hB6701)
             obtain rfl := hO6702 _ rfl
             obtain rfl := Option.some.inj (show some _ = some _ from hF)
             exact fn_retV (rs := [.cell 2 36, .tmp 3]) (vs := [.agg #[.int .i64 0, .int .i64 0, .int .i64 0, (.slice none 0 0)], .int .i64 x7278]) rfl hRV ⟨(.slice none 0 0), [], 0, 0, 0, [], x7278, rfl, rfl, rdL.nil, H⟩
            ·replace ho7264 := itF hb ho7264
             refine C_skip <| x_then <| C_seq <| R_nd <| nq (Q_move rfl) rfl rfl <| nq (v := .pointer (some ⟨b6718, 3, none⟩)) (Q_fld Tryd.underlying36 rfl ty34 (by decide) rfl rfl) rfl rfl <| ne (E_stB (k := 3) (cs := [v7275]) (vs' := [.int .i64 x6094, .int .i64 x7112, .int .i64 x7113, v7275]) H rfl ty34 rfl rfl (arr_cells (H.ok.get (k := 0) rfl)).1 rfl (one_cons (arr_cells (H.ok.get (k := 0) rfl)).2 one_nil) (by simp) rfl) rfl rfl ?_
             rintro _ wd7282 H
             dsimp only [List.set] at H
             refine WL_nil <| x_then <| C_exit <| x_then_exit <| x_block_exit ?_
             replace H := H.f3
             replace H := H.f3
             replace H := H.f3
             replace H := H.drop 4 rfl
             dsimp only [List.eraseIdx] at H
             obtain rfl := Option.some.inj ho7264
             refine x_A fun a hf => ⟨v7275, c7276, x7112, x7113, x7277, rfl, r7279, hf.sub ⟨rfl, rfl, rfl, rfl, rfl, trivial⟩, H⟩
           ·replace ho7264 := itF hb ho7264
            refine C_skip <| x_then <| C_seq <| R_nd <| nq (Q_move rfl) rfl rfl <| nq (Q_move rfl) rfl rfl <| nq (Q_add rfl rfl) rfl rfl ?_
            obtain ⟨x7283, hx7283, ho7264⟩ := bnd ho7264
            obtain ⟨b7284, o7285, hi7289, hc7287, ha7288⟩ := arr_at (hs := [Arr v3664 1 c3665]) (k := 0) (by decide) (H.okS (by simp)) rfl r3667 hx7283
            refine nq (Q_idx hi7289 Tryd.underlying32 ty9 rfl rfl) rfl rfl <| nq (v := .string x7283) (Q_ld (show cellsAt _ _ _ [.string x7283] from (show _ = [_] from hc7287) ▸ (ha7288 _ (Ok.subS (by simp) H.ok))) ty9 rfl (fun _ => rfl) rfl rfl) rfl rfl ?_
            obtain ⟨q7290, hq7290, ho7264⟩ := bnd ho7264
            refine ne (E_call fn10 rfl (c_10 H gle   hq7290)) rfl rfl ?_
            rintro _ wd7294 ⟨x7292, x7293, rfl, rfl, H⟩
            try dsimp only at ho7264
            refine nq (Q_move rfl) rfl rfl <| nq (Q_extract rfl rfl) rfl rfl <| nq (Q_extract rfl rfl) rfl rfl <| nq (Q_assign rfl) rfl rfl <| nq (Q_assign rfl) rfl rfl <| WL_nil <| x_then <| C_seq <| C_seq <| R_nd <| nq (Q_move rfl) rfl rfl <| nq (Q_not rfl) rfl rfl <| WL_nil <| x_then ?_
            refine C_cond rfl (fun hb => ?_) (fun hb => ?_)
            ·replace ho7264 := itT hb ho7264
             refine C_seq <| R_nd <| nq (v := .agg #[.int .i64 0, .int .i64 0, .int .i64 0, .slice none 0 0]) (Q_buildS st36.choose_spec (ps := []) rfl trivial rfl) rfl rfl <| ne (E_stB (k := 0) (cs := [.int .i64 0, .int .i64 0, .int .i64 0, .slice none 0 0]) (vs' := [.int .i64 0, .int .i64 0, .int .i64 0, .slice none 0 0]) H rfl ty36 rfl rfl rfl rfl (one_cons rfl (one_cons rfl (one_cons rfl (one_cons rfl one_nil)))) (by simp) rfl) rfl rfl ?_
             rintro _ wd7295 H
             dsimp only [List.set] at H
             refine nq (Q_assign rfl) rfl rfl <| WL_nil <| x_then <| C_ret <| x_then_ret <| x_block_ret <| x_then_ret <| x_then_ret <| x_block_ret <| x_then_ret <| x_then_ret <| x_block_ret <| x_then_ret <| x_then_ret ?_
             refine x_block_ret <| x_then_ret <| x_then_ret ?_
             have H := H.nilArr 1
             have hRV : RV Tryd.prog wd7295 [(2, .pointer (some ⟨b3660, 0, none⟩)), (3, .int .i64 4)] [.cell 2 36, .tmp 3] [.agg #[.int .i64 0, .int .i64 0, .int .i64 0, (.slice none 0 0)], .int .i64 4] := ⟨⟨_, rfl, run_ldv ty36 rfl (fun h => nomatch h) (box_at (H.ok.get (k := 1) rfl) 0 4)⟩, rfl, trivial⟩
             replace H := H.drop 1 rfl
             dsimp only [List.eraseIdx] at H
             replace H := H.drop 1 rfl
             dsimp only [List.eraseIdx] at H
             replace H := H.drop 1 rfl
             dsimp only [List.eraseIdx] at H
             replace H := H.drop 1 rfl
             dsimp only [List.eraseIdx] at H
             obtain rfl := Option.some.inj ho7264
             obtain rfl := Option.some.inj (show some _ = some _ from hB7215)
             obtain rfl := hO7216 _ rfl
             obtain rfl := Option.some.inj (show some _ = some _ from hB6701)
             obtain rfl := hO6702 _ rfl
             obtain rfl := Option.some.inj (show some _ = some _ from hF)
             exact fn_retV (rs := [.cell 2 36, .tmp 3]) (vs := [.agg #[.int .i64 0, .int .i64 0, .int .i64 0, (.slice none 0 0)], .int .i64 4]) rfl hRV ⟨(.slice none 0 0), [], 0, 0, 0, [], 4, rfl, rfl, rdL.nil, H⟩
            ·replace ho7264 := itF hb ho7264
             refine C_skip <| x_then <| C_seq <| R_nd <| nq (Q_move rfl) rfl rfl <| nq (Q_move rfl) rfl rfl ?_
             obtain ⟨x7296, hx7296, ho7264⟩ := bnd ho7264
             refine nq (Q_ixS hx7296 Tryd.underlying9 rfl rfl) rfl rfl <| nq (Q_eql rfl rfl) rfl rfl <| WL_nil <| x_then ?_
             obtain ⟨o7301, ho7301, ho7264⟩ := bnd ho7264
             refine C_cutQ (fun a w' => ∃ (x7299 : Int) (x7300 : Int), (x7299, x7300) = o7301 ∧ Fr 93 a [(2, .pointer (some ⟨b3660, 0, none⟩)), (4, v3664), (7, .string x6707), (8, .pointer (some ⟨b6718, 0, none⟩)), (9, .int .i64 x7118)] ∧ Hp C w' ρ (Box b3660 [.int .i64 0, .int .i64 0, .int .i64 0, .slice none 0 0] :: Arr v3664 1 c3665 :: Box b6718 [.int .i64 x6094, .int .i64 x7299, .int .i64 x7300, v7114] :: Arr v7114 1 c7115 :: hs)) ?_ ?_
             ·refine C_cond rfl (fun hb => ?_) (fun hb => ?_)
              ·replace ho7301 := itT hb ho7301
               refine R_nd <| nq (Q_move rfl) rfl rfl <| nq (v := .pointer (some ⟨b6718, 1, none⟩)) (Q_fld Tryd.underlying36 rfl ty3 (by decide) rfl rfl) rfl rfl <| ne (E_stB (k := 2) (cs := [.int .i64 x7292]) (vs' := [.int .i64 x6094, .int .i64 x7292, .int .i64 x7113, v7114]) H rfl ty3 rfl rfl rfl rfl (one_cons rfl one_nil) (by simp) rfl) rfl rfl ?_
               rintro _ wd7302 H
               dsimp only [List.set] at H
               refine WL_nil ?_
               replace H := H.f3
               replace H := H.f3
               replace H := H.f3
               replace H := H.f3
               obtain rfl := Option.some.inj ho7301
               refine x_A fun a hf => ⟨x7292, x7113, rfl, hf.sub ⟨rfl, rfl, rfl, rfl, rfl, trivial⟩, H⟩
              ·replace ho7301 := itF hb ho7301
               refine R_nd <| nq (Q_move rfl) rfl rfl <| nq (v := .pointer (some ⟨b6718, 2, none⟩)) (Q_fld Tryd.underlying36 rfl ty3 (by decide) rfl rfl) rfl rfl <| ne (E_stB (k := 2) (cs := [.int .i64 x7292]) (vs' := [.int .i64 x6094, .int .i64 x7112, .int .i64 x7292, v7114]) H rfl ty3 rfl rfl rfl rfl (one_cons rfl one_nil) (by simp) rfl) rfl rfl ?_
               rintro _ wd7303 H
               dsimp only [List.set] at H
               refine WL_nil ?_
               replace H := H.f3
               replace H := H.f3
               replace H := H.f3
               replace H := H.f3
               obtain rfl := Option.some.inj ho7301
               refine x_A fun a hf => ⟨x7112, x7292, rfl, hf.sub ⟨rfl, rfl, rfl, rfl, rfl, trivial⟩, H⟩
             ·rintro a wd7304 ⟨x7299, x7300, rfl, hf, H⟩
              try dsimp only at ho7264
              refine XX.at hf <| x_block ?_
              replace H := H.f3
              replace H := H.f3
              replace H := H.f3
              replace H := H.f3
              obtain rfl := Option.some.inj ho7264
              refine x_A fun a hf => ⟨v7114, c7115, x7299, x7300, x7116, rfl, r7117, hf.sub ⟨rfl, rfl, rfl, rfl, rfl, trivial⟩, H⟩
          ·rintro a wd7305 ⟨v7260, c7261, x7258, x7259, x7262, rfl, r7263, hf, H⟩
           try dsimp only at hB7215
           refine CW.at hf <| R_nd <| nq (Q_move rfl) rfl rfl <| nq (Q_add rfl rfl) rfl rfl <| nq (Q_assign rfl) rfl rfl <| WL_nil ?_
           replace H := H.f3
           replace H := H.f3
           replace H := H.f3
           replace H := H.f3
           obtain rfl := Option.some.inj hB7215
           refine x_A fun a hf => ⟨_, rfl, v7260, c7261, x7258, x7259, x7262, w64 (x7118 + 1), rfl, r7263, hf.sub ⟨rfl, rfl, rfl, rfl, rfl, trivial⟩, H⟩
         ·replace hB7215 := itF hb hB7215
          refine C_exit <| x_then_exit <| x_then_exit <| x_block_exit ?_
          replace H := H.f3
          replace H := H.f3
          replace H := H.f2
          replace H := H.drop 3 rfl
          dsimp only [List.eraseIdx] at H
          obtain rfl := Option.some.inj hB7215
          obtain rfl := hO7216 _ rfl
          refine x_A fun a hf => ⟨v7114, c7115, x7112, x7113, x7116, rfl, r7117, hf.sub ⟨rfl, rfl, trivial⟩, H⟩
       ·rintro a wd7306 ⟨v7012, c7013, x7010, x7011, x7014, rfl, r7015, hf, H⟩
        try dsimp only at hB6701
        refine XX.at hf <| x_then <| C_seq <| R_nd <| nq (v := .agg #[.int .i64 x6094, .int .i64 x7010, .int .i64 x7011, v7012]) (Q_ldB (k := 1) (cs := [.int .i64 x6094, .int .i64 x7010, .int .i64 x7011, v7012]) H.ok rfl ty36 rfl rfl rfl (fun h => nomatch h) rfl) rfl rfl <| ne (E_stB (k := 0) (cs := [.int .i64 x6094, .int .i64 x7010, .int .i64 x7011, v7012]) (vs' := [.int .i64 x6094, .int .i64 x7010, .int .i64 x7011, v7012]) H rfl ty36 rfl rfl rfl rfl (one_cons rfl (one_cons rfl (one_cons rfl (one_cons (arr_cells (H.ok.get (k := 2) rfl)).2 one_nil)))) (by simp) rfl) rfl rfl ?_
        rintro _ wd7307 H
        dsimp only [List.set] at H
        refine nq (Q_assign rfl) rfl rfl <| WL_nil <| x_then <| C_ret <| x_block_ret <| x_then_ret <| x_then_ret <| x_block_ret <| x_then_ret <| x_then_ret ?_
        have hRV : RV Tryd.prog wd7307 [(2, .pointer (some ⟨b3660, 0, none⟩)), (3, .int .i64 0)] [.cell 2 36, .tmp 3] [.agg #[.int .i64 x6094, .int .i64 x7010, .int .i64 x7011, v7012], .int .i64 0] := ⟨⟨_, rfl, run_ldv ty36 rfl (fun h => nomatch h) (box_at (H.ok.get (k := 0) rfl) 0 4)⟩, rfl, trivial⟩
        replace H := H.f2
        replace H := H.drop 1 rfl
        dsimp only [List.eraseIdx] at H
        replace H := H.drop 1 rfl
        dsimp only [List.eraseIdx] at H
        obtain rfl := Option.some.inj hB6701
        obtain rfl := hO6702 _ rfl
        obtain rfl := Option.some.inj (show some _ = some _ from hF)
        exact fn_retV (rs := [.cell 2 36, .tmp 3]) (vs := [.agg #[.int .i64 x6094, .int .i64 x7010, .int .i64 x7011, v7012], .int .i64 0]) rfl hRV ⟨v7012, c7013, x6094, x7010, x7011, x7014, 0, rfl, rfl, r7015, H⟩
   ·replace hB6701 := itF hb hB6701
    refine C_exit <| x_then_exit <| x_then_exit <| x_block_exit ?_
    replace H := H.drop 1 rfl
    dsimp only [List.eraseIdx] at H
    obtain rfl := Option.some.inj hB6701
    obtain rfl := hO6702 _ rfl
    refine x_A fun a hf => ⟨rfl, hf.sub ⟨rfl, trivial⟩, H⟩
 ·rintro a wd7308 ⟨rfl, hf, H⟩
  try dsimp only at hF
  refine XX.at hf <| x_then <| C_seq <| R_nd <| nq (v := .agg #[.int .i64 0, .int .i64 0, .int .i64 0, .slice none 0 0]) (Q_buildS st36.choose_spec (ps := []) rfl trivial rfl) rfl rfl <| ne (E_stB (k := 0) (cs := [.int .i64 0, .int .i64 0, .int .i64 0, .slice none 0 0]) (vs' := [.int .i64 0, .int .i64 0, .int .i64 0, .slice none 0 0]) H rfl ty36 rfl rfl rfl rfl (one_cons rfl (one_cons rfl (one_cons rfl (one_cons rfl one_nil)))) (by simp) rfl) rfl rfl ?_
  rintro _ wd7309 H
  dsimp only [List.set] at H
  refine nq (Q_assign rfl) rfl rfl <| WL_nil <| x_then <| C_ret ?_
  have H := H.nilArr 1
  have hRV : RV Tryd.prog wd7309 [(2, .pointer (some ⟨b3660, 0, none⟩)), (3, .int .i64 5)] [.cell 2 36, .tmp 3] [.agg #[.int .i64 0, .int .i64 0, .int .i64 0, (.slice none 0 0)], .int .i64 5] := ⟨⟨_, rfl, run_ldv ty36 rfl (fun h => nomatch h) (box_at (H.ok.get (k := 1) rfl) 0 4)⟩, rfl, trivial⟩
  replace H := H.drop 1 rfl
  dsimp only [List.eraseIdx] at H
  obtain rfl := Option.some.inj hF
  exact fn_retV (rs := [.cell 2 36, .tmp 3]) (vs := [.agg #[.int .i64 0, .int .i64 0, .int .i64 0, (.slice none 0 0)], .int .i64 5]) rfl hRV ⟨(.slice none 0 0), [], 0, 0, 0, [], 5, rfl, rfl, rdL.nil, H⟩
theorem c_34 {N : Nat} {C : Cx} {w : World} {ρ : View} {hs : List Hl} {b4 : Nat} {v8 : Value} {x1 : ByteArray} {x2 : Int} {x3 : ByteArray} {x5 : Int} {x6 : Int} {x7 : Int} {x9 : (List Int)} (H : Hp C w ρ (Box b4 [.int .i64 x5, .int .i64 x6, .int .i64 x7, v8] :: hs)) {gV : Nat → Value} (_gle : GErrs ρ 137 errIds gV) (_r10 : RdSl ρ (eI .u8) v8 x9) {r : Unit} (hF : F_script_Text_1 N x1 x2 x3 x5 x6 x7 x9 = some r) :
  Calls Tryd.prog 34 [.agg #[.string x1, .int .i64 x2, .string x3], .pointer (some ⟨b4, 0, none⟩)].toArray w (Rets (fun v w' => (() = r ∧ .bool (x2 == x5) = v ∧ Hp C w' ρ (Box b4 [.int .i64 x5, .int .i64 x6, .int .i64 x7, v8] :: hs)))) := by
 unfold F_script_Text_1 at hF
 have h0 : Tryd.f34.body = some _ := rfl
 refine fn_calls' Tryd.func34 h0 (n := 9) rfl (by simp) <| C_seq <| R_nd <| ne (E_box H (vs := [.string x1, .int .i64 x2, .string x3]) rfl rfl) rfl rfl ?_
 rintro _ wd14 ⟨b13, rfl, H⟩
 refine nq (Q_assign rfl) rfl rfl <| WL_nil <| x_then <| C_seq <| R_nd <| nq (v := .pointer (some ⟨b13, 1, none⟩)) (Q_fld Tryd.underlying75 rfl ty3 (by decide) rfl rfl) rfl rfl <| nq (v := .int .i64 x2) (Q_ldB (k := 0) (cs := [.int .i64 x2]) H.ok rfl ty3 rfl rfl rfl (fun _ => rfl) rfl) rfl rfl <| nq (v := .pointer (some ⟨b4, 0, none⟩)) (Q_fld Tryd.underlying43 rfl ty3 (by decide) rfl rfl) rfl rfl <| nq (v := .int .i64 x5) (Q_ldB (k := 1) (cs := [.int .i64 x5]) H.ok rfl ty3 rfl rfl rfl (fun _ => rfl) rfl) rfl rfl <| nq (Q_eql rfl rfl) rfl rfl <| nq (Q_assign rfl) rfl rfl <| WL_nil <| x_then <| C_ret ?_
 replace H := H.f1
 replace H := H.drop 1 rfl
 dsimp only [List.eraseIdx] at H
 obtain rfl := Option.some.inj hF
 exact fn_ret (l := [.tmp 3]) (vs := [.bool (x2 == x5)]) rfl rfl rfl ⟨rfl, rfl, H⟩
theorem c_31_1 {N : Nat} {C : Cx} {w : World} {ρ : View} {hs : List Hl} {v1 : Value} {b4 : Nat} {v8 : Value} {x2 : (List (ByteArray × Int × ByteArray))} {x5 : Int} {x6 : Int} {x7 : Int} {x9 : (List Int)} (H : Hp C w ρ (Box b4 [.int .i64 x5, .int .i64 x6, .int .i64 x7, v8] :: hs)) {gV : Nat → Value} (gle : GErrs ρ 137 errIds gV) (r3 : RdSl ρ (eP eS (eP (eI .i64) eS)) v1 x2) (r10 : RdSl ρ (eI .u8) v8 x9) {r : Int} (hF : F_slices_IndexFunc_script_form_script_form_1 N x2 x5 x6 x7 x9 = some r) :
  Calls Tryd.prog 31 [v1, .func (.func 34) #[] [.pointer (some ⟨b4, 0, none⟩)].toArray].toArray w (Rets (fun v w' => (∃ (x147 : Int), x147 = r ∧ .int .i64 x147 = v ∧ Hp C w' ρ (Box b4 [.int .i64 x5, .int .i64 x6, .int .i64 x7, v8] :: hs)))) := by
 unfold F_slices_IndexFunc_script_form_script_form_1 at hF
 have h0 : Tryd.f31.body = some _ := rfl
 refine fn_calls' Tryd.func31 h0 (n := 19) rfl (by simp) <| C_seq <| R_nd <| nq (Q_assign rfl) rfl rfl <| WL_nil <| x_then <| C_seq <| C_seq <| R_nd <| nq (Q_move rfl) rfl rfl <| nq (Q_len Tryd.underlying71 rfl r3) rfl rfl <| nq (Q_move rfl) rfl rfl <| WL_nil <| x_then ?_
 obtain ⟨o215, ho215, hF⟩ := bnd hF
 refine C_cutQ (fun a w' => .inl () = o215 ∧ Fr 19 a [] ∧ Hp C w' ρ (Box b4 [.int .i64 x5, .int .i64 x6, .int .i64 x7, v8] :: hs)) ?_ ?_
 ·refine C_block ?_
  refine C_iter (f := fun s => F_slices_IndexFunc_script_form_script_form_1_l0 N x2 x5 x6 x7 x9 s) ho215 (fun s a w' => ∃ (x237 : Int), x237 = s ∧ Fr 19 a [(0, v1), (1, .func (.func 34) #[] [.pointer (some ⟨b4, 0, none⟩)].toArray), (7, .int .i64 (x2.length : Int)), (8, .int .i64 x237)] ∧ Hp C w' ρ (Box b4 [.int .i64 x5, .int .i64 x6, .int .i64 x7, v8] :: hs)) ?_ ?_
  ·exact fun a hf => ⟨0, rfl, hf.sub ⟨rfl, rfl, rfl, rfl, trivial⟩, H⟩
  ·rintro s o259 a wd262 ⟨x237, rfl, hf, H⟩ hB260 hO261
   replace hB260 : F_slices_IndexFunc_script_form_script_form_1_l0 N x2 x5 x6 x7 x9 x237 = some o259 := hB260
   unfold F_slices_IndexFunc_script_form_script_form_1_l0 at hB260
   refine CW.at hf <| C_seq <| R_nd <| nq (Q_lss rfl rfl) rfl rfl <| WL_nil <| x_then <| C_seq ?_
   refine C_cond rfl (fun hb => ?_) (fun hb => ?_)
   ·replace hB260 := itT hb hB260
    refine C_skip <| x_then <| C_seq <| C_block <| C_seq <| R_nd <| nq (Q_move rfl) rfl rfl <| nq (Q_assign rfl) rfl rfl <| WL_nil <| x_then <| C_seq <| R_nd <| nq (Q_move rfl) rfl rfl <| nq (Q_move rfl) rfl rfl ?_
    refine nq (Q_move rfl) rfl rfl ?_
    obtain ⟨x263, hx263, hB260⟩ := bnd hB260
    obtain ⟨b264, o265, c266, hc267, ha268, hi269⟩ := idxR r3 hx263
    refine nq (Q_idx hi269 Tryd.underlying71 ty75 rfl rfl) rfl rfl ?_
    obtain ⟨c270, c271, he272, hc273, hc274⟩ := hc267
    obtain ⟨c275, c276, he277, hc278, hc279⟩ := hc274
    refine nq (v := .agg #[.string x263.1, .int .i64 x263.2.1, .string x263.2.2]) (Q_ld (show cellsAt _ _ _ [.string x263.1, .int .i64 x263.2.1, .string x263.2.2] from cellsAt.cg (cat2 he272 (rdS hc273) (cat2 he277 (rdI hc278) (rdS hc279))) (ha268.up H.ok.view)) ty75 rfl (fun h => nomatch h) rfl rfl) rfl rfl ?_
    obtain ⟨q280, hq280, hB260⟩ := bnd hB260
    refine ne (E_callV fn34 rfl rfl (c_34 H gle  r10 hq280)) rfl rfl ?_
    rintro _ wd282 ⟨rfl, rfl, H⟩
    try dsimp only at hB260
    refine WL_nil <| x_then ?_
    refine C_cond rfl (fun hb => ?_) (fun hb => ?_)
    ·replace hB260 := itT hb hB260
     refine C_seq <| R_nd <| nq (Q_move rfl) rfl rfl <| nq (Q_assign rfl) rfl rfl <| WL_nil <| x_then <| C_ret <| x_block_ret <| x_then_ret <| x_then_ret <| x_block_ret <| x_then_ret <| x_then_ret ?_
     obtain rfl := Option.some.inj hB260
     obtain rfl := hO261 _ rfl
     obtain rfl := Option.some.inj (show some _ = some _ from hF)
     exact fn_ret (l := [.tmp 4]) (vs := [.int .i64 x237]) rfl rfl rfl ⟨x237, rfl, rfl, H⟩
    ·replace hB260 := itF hb hB260
     refine C_skip <| x_block <| x_then <| R_nd <| nq (Q_add rfl rfl) rfl rfl <| nq (Q_move rfl) rfl rfl <| WL_nil ?_
     obtain rfl := Option.some.inj hB260
     refine x_A fun a hf => ⟨_, rfl, w64 (x237 + 1), rfl, hf.sub ⟨rfl, rfl, rfl, rfl, trivial⟩, H⟩
   ·replace hB260 := itF hb hB260
    refine C_exit <| x_then_exit <| x_then_exit <| x_block_exit ?_
    obtain rfl := Option.some.inj hB260
    obtain rfl := hO261 _ rfl
    refine x_A fun a hf => ⟨rfl, hf.sub trivial, H⟩
 ·rintro a wd283 ⟨rfl, hf, H⟩
  try dsimp only at hF
  refine XX.at hf <| x_then <| C_seq <| R_nd <| nq (Q_assign rfl) rfl rfl <| WL_nil <| x_then <| C_ret ?_
  obtain rfl := Option.some.inj hF
  exact fn_ret (l := [.tmp 4]) (vs := [.int .i64 (-1)]) rfl rfl rfl ⟨(-1), rfl, rfl, H⟩
theorem c_73_4 {N : Nat} {C : Cx} {w : World} {ρ : View} {hs : List Hl} {x1 : Int} (H : Hp C w ρ (hs)) {gV : Nat → Value} (_gle : GErrs ρ 137 errIds gV) {r : Unit} (hF : F_internal_stringslite_IndexByte_4 N x1 = some r) :
  Calls Tryd.prog 73 [.string (⟨#[10, 9, 13, 32]⟩ : ByteArray), .int .u8 x1].toArray w (Rets (fun v w' => (() = r ∧ .int .i64 (sfind (⟨#[10, 9, 13, 32]⟩ : ByteArray) x1) = v ∧ Hp C w' ρ (hs)))) := by
 unfold F_internal_stringslite_IndexByte_4 at hF
 have h0 : Tryd.f73.body = some _ := rfl
 refine fn_calls' Tryd.func73 h0 (n := 8) rfl (by simp) <| C_seq <| R_nd <| nq (Q_assign rfl) rfl rfl <| WL_nil <| x_then <| C_seq <| R_nd <| nq (Q_move rfl) rfl rfl <| nq (Q_move rfl) rfl rfl <| nq (v := .int .i64 (sfind (⟨#[10, 9, 13, 32]⟩ : ByteArray) x1)) (Q_idxByte ext80 rfl rfl) rfl rfl <| nq (Q_assign rfl) rfl rfl <| WL_nil <| x_then ?_
 refine C_ret ?_
 obtain rfl := Option.some.inj hF
 exact fn_ret (l := [.tmp 4]) (vs := [.int .i64 (sfind (⟨#[10, 9, 13, 32]⟩ : ByteArray) x1)]) rfl rfl rfl ⟨rfl, rfl, H⟩
theorem c_77_2 {N : Nat} {C : Cx} {w : World} {ρ : View} {hs : List Hl} {x1 : Int} (H : Hp C w ρ (hs)) {gV : Nat → Value} (gle : GErrs ρ 137 errIds gV) {r : Unit} (hF : F_strings_IndexByte_2 N x1 = some r) :
  Calls Tryd.prog 77 [.string (⟨#[10, 9, 13, 32]⟩ : ByteArray), .int .u8 x1].toArray w (Rets (fun v w' => (() = r ∧ .int .i64 (sfind (⟨#[10, 9, 13, 32]⟩ : ByteArray) x1) = v ∧ Hp C w' ρ (hs)))) := by
 unfold F_strings_IndexByte_2 at hF
 have h0 : Tryd.f77.body = some _ := rfl
 refine fn_calls' Tryd.func77 h0 (n := 8) rfl (by simp) <| C_seq <| R_nd <| nq (Q_assign rfl) rfl rfl <| WL_nil <| x_then <| C_seq <| R_nd <| nq (Q_move rfl) rfl rfl <| nq (Q_move rfl) rfl rfl ?_
 obtain ⟨q5, hq5, hF⟩ := bnd hF
 refine ne (E_call fn73 rfl (c_73_4 H gle   hq5)) rfl rfl ?_
 rintro _ wd7 ⟨rfl, rfl, H⟩
 try dsimp only at hF
 refine nq (Q_assign rfl) rfl rfl <| WL_nil <| x_then <| C_ret ?_
 obtain rfl := Option.some.inj hF
 exact fn_ret (l := [.tmp 4]) (vs := [.int .i64 (sfind (⟨#[10, 9, 13, 32]⟩ : ByteArray) x1)]) rfl rfl rfl ⟨rfl, rfl, H⟩
theorem c_73_5 {N : Nat} {C : Cx} {w : World} {ρ : View} {hs : List Hl} {x1 : Int} (H : Hp C w ρ (hs)) {gV : Nat → Value} (_gle : GErrs ρ 137 errIds gV) {r : Unit} (hF : F_internal_stringslite_IndexByte_5 N x1 = some r) :
  Calls Tryd.prog 73 [.string (⟨#[124, 42, 43, 63, 40, 41, 91, 93, 123, 125, 46, 92, 47]⟩ : ByteArray), .int .u8 x1].toArray w (Rets (fun v w' => (() = r ∧ .int .i64 (sfind (⟨#[124, 42, 43, 63, 40, 41, 91, 93, 123, 125, 46, 92, 47]⟩ : ByteArray) x1) = v ∧ Hp C w' ρ (hs)))) := by
 unfold F_internal_stringslite_IndexByte_5 at hF
 have h0 : Tryd.f73.body = some _ := rfl
 refine fn_calls' Tryd.func73 h0 (n := 8) rfl (by simp) <| C_seq <| R_nd <| nq (Q_assign rfl) rfl rfl <| WL_nil <| x_then <| C_seq <| R_nd <| nq (Q_move rfl) rfl rfl <| nq (Q_move rfl) rfl rfl <| nq (v := .int .i64 (sfind (⟨#[124, 42, 43, 63, 40, 41, 91, 93, 123, 125, 46, 92, 47]⟩ : ByteArray) x1)) (Q_idxByte ext80 rfl rfl) rfl rfl <| nq (Q_assign rfl) rfl rfl <| WL_nil <| x_then ?_
 refine C_ret ?_
 obtain rfl := Option.some.inj hF
 exact fn_ret (l := [.tmp 4]) (vs := [.int .i64 (sfind (⟨#[124, 42, 43, 63, 40, 41, 91, 93, 123, 125, 46, 92, 47]⟩ : ByteArray) x1)]) rfl rfl rfl ⟨rfl, rfl, H⟩
theorem c_77_3 {N : Nat} {C : Cx} {w : World} {ρ : View} {hs : List Hl} {x1 : Int} (H : Hp C w ρ (hs)) {gV : Nat → Value} (gle : GErrs ρ 137 errIds gV) {r : Unit} (hF : F_strings_IndexByte_3 N x1 = some r) :
  Calls Tryd.prog 77 [.string (⟨#[124, 42, 43, 63, 40, 41, 91, 93, 123, 125, 46, 92, 47]⟩ : ByteArray), .int .u8 x1].toArray w (Rets (fun v w' => (() = r ∧ .int .i64 (sfind (⟨#[124, 42, 43, 63, 40, 41, 91, 93, 123, 125, 46, 92, 47]⟩ : ByteArray) x1) = v ∧ Hp C w' ρ (hs)))) := by
 unfold F_strings_IndexByte_3 at hF
 have h0 : Tryd.f77.body = some _ := rfl
 refine fn_calls' Tryd.func77 h0 (n := 8) rfl (by simp) <| C_seq <| R_nd <| nq (Q_assign rfl) rfl rfl <| WL_nil <| x_then <| C_seq <| R_nd <| nq (Q_move rfl) rfl rfl <| nq (Q_move rfl) rfl rfl ?_
 obtain ⟨q5, hq5, hF⟩ := bnd hF
 refine ne (E_call fn73 rfl (c_73_5 H gle   hq5)) rfl rfl ?_
 rintro _ wd7 ⟨rfl, rfl, H⟩
 try dsimp only at hF
 refine nq (Q_assign rfl) rfl rfl <| WL_nil <| x_then <| C_ret ?_
 obtain rfl := Option.some.inj hF
 exact fn_ret (l := [.tmp 4]) (vs := [.int .i64 (sfind (⟨#[124, 42, 43, 63, 40, 41, 91, 93, 123, 125, 46, 92, 47]⟩ : ByteArray) x1)]) rfl rfl rfl ⟨rfl, rfl, H⟩
theorem c_68 {N : Nat} {C : Cx} {w : World} {ρ : View} {hs : List Hl} {x1 : Int} (H : Hp C w ρ (hs)) {gV : Nat → Value} (gle : GErrs ρ 137 errIds gV) {r : ByteArray} (hF : F_spell_spelled N x1 = some r) :
  Calls Tryd.prog 68 [.int .u8 x1, .string (⟨#[124, 42, 43, 63, 40, 41, 91, 93, 123, 125, 46, 92, 47]⟩ : ByteArray)].toArray w (Rets (fun v w' => (∃ (x26 : ByteArray), x26 = r ∧ .string x26 = v ∧ Hp C w' ρ (hs)))) := by
 unfold F_spell_spelled at hF
 have h0 : Tryd.f68.body = some _ := rfl
 refine fn_calls' Tryd.func68 h0 (n := 40) rfl (by simp) <| C_seq <| R_nd <| nq (Q_assign rfl) rfl rfl <| WL_nil <| x_then <| C_seq <| C_seq <| R_nd <| nq (Q_move rfl) rfl rfl ?_
 obtain ⟨q27, hq27, hF⟩ := bnd hF
 refine ne (E_call fn77 rfl (c_77_2 H gle   hq27)) rfl rfl ?_
 rintro _ wd29 ⟨rfl, rfl, H⟩
 try dsimp only at hF
 refine nq (Q_assign rfl) rfl rfl <| WL_nil <| x_then <| C_seq <| R_nd <| nq (Q_move rfl) rfl rfl <| nq (Q_geq rfl rfl) rfl rfl <| WL_nil <| x_then ?_
 refine C_cond rfl (fun hb => ?_) (fun hb => ?_)
 ·replace hF := itT hb hF
  refine C_seq <| R_nd <| nq (Q_move rfl) rfl rfl ?_
  obtain ⟨x30, hx30, hF⟩ := bnd hF
  refine nq (Q_ixS hx30 Tryd.underlying9 rfl rfl) rfl rfl <| ne (E_bslice (xs := [.const (.int .u8 92), .tmp 11]) (vs := [.int .u8 92, .int .u8 x30]) H Tryd.underlying34 ty5 (by decide) (cs := [.int .u8 92, .int .u8 x30]) rfl (sz_cons rfl (sz_cons rfl sz_nil)) rfl (by simp) (by simp) rfl rfl) rfl rfl ?_
  rintro _ wd32 ⟨b31, rfl, H⟩
  refine ne (E_bstrA (k := 0) H rfl (show rdL (eI .u8) ρ ([92, x30]) ([.int .u8 92, .int .u8 x30]) from ⟨([.int .u8 92]), _, rfl, rfl, ⟨([.int .u8 x30]), _, rfl, rfl, rdL.nil⟩⟩) Tryd.underlying34 Tryd.underlying5 Tryd.underlying9 rfl) rfl rfl ?_
  rintro _ wd33 ⟨rfl, rfl⟩
  refine nq (Q_assign rfl) rfl rfl <| WL_nil <| x_then <| C_ret <| x_then_ret ?_
  replace H := H.drop 0 rfl
  dsimp only [List.eraseIdx] at H
  obtain rfl := Option.some.inj hF
  exact fn_ret (l := [.tmp 4]) (vs := [.string (bstr ([92, x30]))]) rfl rfl rfl ⟨bstr ([92, x30]), rfl, rfl, H⟩
 ·replace hF := itF hb hF
  refine C_skip <| x_then <| C_seq <| C_block ?_
  obtain ⟨o35, ho35, hF⟩ := bnd hF
  refine C_cut (fun a w' => ∃ (x34 : Bool), x34 = o35 ∧ Fr 40 a [(0, .int .u8 x1), (1, .string (⟨#[124, 42, 43, 63, 40, 41, 91, 93, 123, 125, 46, 92, 47]⟩ : ByteArray)), (14, .bool x34)] ∧ Hp C w' ρ (hs)) ?_ ?_
  ·refine R_nd <| nq (Q_move rfl) rfl rfl <| nq (Q_lss rfl rfl) rfl rfl <| nq (Q_move rfl) rfl rfl ?_
   rcases Bool.eq_false_or_eq_true (decide (x1 < 33)) with hb | hb
   ·rw [hb]
    replace ho35 := itT hb ho35
    refine gs rfl rfl rfl rfl <| gs rfl rfl rfl rfl <| nq (Q_pickT rfl rfl) rfl rfl <| nq (Q_assign rfl) rfl rfl <| WL_nil ?_
    obtain rfl := Option.some.inj ho35
    refine x_A fun a hf => ⟨true, rfl, hf.sub ⟨rfl, rfl, rfl, trivial⟩, H⟩
   ·rw [hb]
    replace ho35 := itF hb ho35
    refine gq (Q_move rfl) rfl rfl rfl <| gq (Q_gtr rfl rfl) rfl rfl rfl <| nq (Q_pickF rfl rfl) rfl rfl <| nq (Q_assign rfl) rfl rfl <| WL_nil ?_
    obtain rfl := Option.some.inj ho35
    refine x_A fun a hf => ⟨decide (x1 > 126), rfl, hf.sub ⟨rfl, rfl, rfl, trivial⟩, H⟩
  ·rintro a wd36 ⟨x34, rfl, hf, H⟩
   try dsimp only at hF
   refine CW.at hf ?_
   refine C_cond rfl (fun hb => ?_) (fun hb => ?_)
   ·replace hF := itT hb hF
    refine C_seq <| R_dr (.take 0 (.take 1 (.take 2 (.take 3 (.take 4 (.take 5 (.one 6 (.one 7 (.take 8 .done))))))))) (fun w' => Ok w' ρ []) (by kernel_rfl) (by kernel_rfl) (by kernel_rfl) (H.drew.okS (by simp)) ?_
    replace H := H.drew
    refine dq rfl (fun _ _ => Q_move rfl) rfl rfl <| dq rfl (fun _ _ => Q_shr rfl rfl (by decide)) rfl rfl ?_
    obtain ⟨x37, hx37, hF⟩ := bnd hF
    refine dq rfl (fun _ _ => Q_ixS hx37 Tryd.underlying9 rfl rfl) rfl rfl <| dq rfl (fun _ _ => Q_move rfl) rfl rfl <| dq rfl (fun _ _ => Q_and rfl rfl) rfl rfl ?_
    obtain ⟨x38, hx38, hF⟩ := bnd hF
    refine dq rfl (fun _ _ => Q_ixS hx38 Tryd.underlying9 rfl rfl) rfl rfl ?_
    refine d1 (de rfl (E_bslice (xs := [.const (.int .u8 92), .const (.int .u8 120), .tmp 23, .tmp 26]) (vs := [.int .u8 92, .int .u8 120, .int .u8 x37, .int .u8 x38]) H Tryd.underlying34 ty5 (by decide) (cs := [.int .u8 92, .int .u8 120, .int .u8 x37, .int .u8 x38]) rfl (sz_cons rfl (sz_cons rfl (sz_cons rfl (sz_cons rfl sz_nil)))) rfl (by simp) (by simp) rfl rfl) rfl rfl ?_)
    rintro _ wd40 ⟨b39, rfl, H⟩
    refine ⟨H.okS (by simp), ?_⟩
    refine d1 (de rfl (E_bstrA (k := 0) H rfl (show rdL (eI .u8) ρ ([92, 120, x37, x38]) ([.int .u8 92, .int .u8 120, .int .u8 x37, .int .u8 x38]) from ⟨([.int .u8 92]), _, rfl, rfl, ⟨([.int .u8 120]), _, rfl, rfl, ⟨([.int .u8 x37]), _, rfl, rfl, ⟨([.int .u8 x38]), _, rfl, rfl, rdL.nil⟩⟩⟩⟩) Tryd.underlying34 Tryd.underlying5 Tryd.underlying9 rfl) rfl rfl ?_)
    rintro _ wd41 ⟨rfl, rfl⟩
    refine ⟨H.okS (by simp), ?_⟩
    refine dq rfl (fun _ _ => Q_assign rfl) rfl rfl <| DL_nil <| x_then <| C_ret <| x_block_ret <| x_then_ret ?_
    replace H := H.drop 0 rfl
    dsimp only [List.eraseIdx] at H
    obtain rfl := Option.some.inj hF
    exact fn_ret (l := [.tmp 4]) (vs := [.string (bstr ([92, 120, x37, x38]))]) rfl rfl rfl ⟨bstr ([92, 120, x37, x38]), rfl, rfl, H⟩
   ·replace hF := itF hb hF
    refine C_seq <| R_nd <| nq (Q_move rfl) rfl rfl <| nq (Q_move rfl) rfl rfl ?_
    obtain ⟨q42, hq42, hF⟩ := bnd hF
    refine ne (E_call fn77 rfl (c_77_3 H gle   hq42)) rfl rfl ?_
    rintro _ wd44 ⟨rfl, rfl, H⟩
    try dsimp only at hF
    refine nq (Q_geq rfl rfl) rfl rfl <| nq (Q_assign rfl) rfl rfl <| WL_nil <| x_then ?_
    refine C_cond rfl (fun hb => ?_) (fun hb => ?_)
    ·replace hF := itT hb hF
     refine C_seq <| R_nd <| nq (Q_move rfl) rfl rfl <| ne (E_bslice (xs := [.const (.int .u8 92), .tmp 34]) (vs := [.int .u8 92, .int .u8 x1]) H Tryd.underlying34 ty5 (by decide) (cs := [.int .u8 92, .int .u8 x1]) rfl (sz_cons rfl (sz_cons rfl sz_nil)) rfl (by simp) (by simp) rfl rfl) rfl rfl ?_
     rintro _ wd46 ⟨b45, rfl, H⟩
     refine ne (E_bstrA (k := 0) H rfl (show rdL (eI .u8) ρ ([92, x1]) ([.int .u8 92, .int .u8 x1]) from ⟨([.int .u8 92]), _, rfl, rfl, ⟨([.int .u8 x1]), _, rfl, rfl, rdL.nil⟩⟩) Tryd.underlying34 Tryd.underlying5 Tryd.underlying9 rfl) rfl rfl ?_
     rintro _ wd47 ⟨rfl, rfl⟩
     refine nq (Q_assign rfl) rfl rfl <| WL_nil <| x_then <| C_ret <| x_block_ret <| x_then_ret ?_
     replace H := H.drop 0 rfl
     dsimp only [List.eraseIdx] at H
     obtain rfl := Option.some.inj hF
     exact fn_ret (l := [.tmp 4]) (vs := [.string (bstr ([92, x1]))]) rfl rfl rfl ⟨bstr ([92, x1]), rfl, rfl, H⟩
    ·replace hF := itF hb hF
     refine C_skip <| x_block <| x_then <| C_seq <| R_nd <| nq (Q_move rfl) rfl rfl <| ne (E_bslice (xs := [.tmp 37]) (vs := [.int .u8 x1]) H Tryd.underlying34 ty5 (by decide) (cs := [.int .u8 x1]) rfl (sz_cons rfl sz_nil) rfl (by simp) (by simp) rfl rfl) rfl rfl ?_
     rintro _ wd49 ⟨b48, rfl, H⟩
     refine ne (E_bstrA (k := 0) H rfl (show rdL (eI .u8) ρ ([x1]) ([.int .u8 x1]) from ⟨([.int .u8 x1]), _, rfl, rfl, rdL.nil⟩) Tryd.underlying34 Tryd.underlying5 Tryd.underlying9 rfl) rfl rfl ?_
     rintro _ wd50 ⟨rfl, rfl⟩
     refine nq (Q_assign rfl) rfl rfl <| WL_nil <| x_then <| C_ret ?_
     replace H := H.drop 0 rfl
     dsimp only [List.eraseIdx] at H
     obtain rfl := Option.some.inj hF
     exact fn_ret (l := [.tmp 4]) (vs := [.string (bstr ([x1]))]) rfl rfl rfl ⟨bstr ([x1]), rfl, rfl, H⟩
theorem c_59 {N : Nat} {C : Cx} {w : World} {ρ : View} {hs : List Hl} {x1 : Int} (H : Hp C w ρ (hs)) {gV : Nat → Value} (gle : GErrs ρ 137 errIds gV) {r : ByteArray} (hF : F_spell_Plain N x1 = some r) :
  Calls Tryd.prog 59 [.int .u8 x1].toArray w (Rets (fun v w' => (∃ (x6 : ByteArray), x6 = r ∧ .string x6 = v ∧ Hp C w' ρ (hs)))) := by
 unfold F_spell_Plain at hF
 have h0 : Tryd.f59.body = some _ := rfl
 refine fn_calls' Tryd.func59 h0 (n := 5) rfl (by simp) <| C_seq <| R_nd <| nq (Q_assign rfl) rfl rfl <| WL_nil <| x_then <| C_seq <| R_nd <| nq (Q_move rfl) rfl rfl ?_
 obtain ⟨q7, hq7, hF⟩ := bnd hF
 refine ne (E_call fn68 rfl (c_68 H gle   hq7)) rfl rfl ?_
 rintro _ wd10 ⟨x9, rfl, rfl, H⟩
 try dsimp only at hF
 refine nq (Q_assign rfl) rfl rfl <| WL_nil <| x_then <| C_ret ?_
 obtain rfl := Option.some.inj hF
 exact fn_ret (l := [.tmp 2]) (vs := [.string x9]) rfl rfl rfl ⟨x9, rfl, rfl, H⟩
theorem c_46 {N : Nat} {C : Cx} {w : World} {ρ : View} {hs : List Hl} {v1 : Value} {x2 : (List Int)} (H : Hp C w ρ (hs)) {gV : Nat → Value} (gle : GErrs ρ 137 errIds gV) (r3 : RdSl ρ (eI .u8) v1 x2) {r : ByteArray} (hF : F_spell_Text N x2 = some r) :
  Calls Tryd.prog 46 [v1].toArray w (Rets (fun v w' => (∃ (x121 : ByteArray), x121 = r ∧ .string x121 = v ∧ Hp C w' ρ (hs)))) := by
 unfold F_spell_Text at hF
 refine isolate (Post := fun v p => ∃ (x121 : ByteArray), x121 = r ∧ .string x121 = v ∧ p) (by rintro v p q hpq ⟨x121, e0_, e1_, hp⟩; exact ⟨x121, e0_, e1_, hpq hp⟩) H ?_
 intro C ρ hs hhs H hle hS0 hlow
 replace gle := GErrs.up hle gle
 replace r3 := RdSl.up hle r3
 try dsimp only
 have h0 : Tryd.f46.body = some _ := rfl
 refine fn_calls' Tryd.func46 h0 (n := 17) rfl (by simp) <| C_seq <| R_nd <| nq (Q_assign rfl) rfl rfl <| WL_nil <| x_then <| C_seq <| R_nd <| ne (E_bldNew (e := 5) hhs H ty94 rfl) rfl rfl ?_
 rintro _ wd123 ⟨b122, rfl, H⟩
 refine WL_nil <| x_then <| C_seq <| C_seq <| R_nd <| nq (Q_move rfl) rfl rfl <| nq (Q_len Tryd.underlying34 rfl r3) rfl rfl <| nq (Q_move rfl) rfl rfl <| WL_nil <| x_then ?_
 obtain ⟨o181, ho181, hF⟩ := bnd hF
 refine C_cutQ (fun a w' => ∃ (v179 : Value) (x180 : ByteArray), x180 = o181 ∧ Fr 17 a [(3, .pointer (some ⟨b122, 0, none⟩))] ∧ Hp C w' ρ (Bld 94 5 C.w0.heap.size b122 v179 x180 :: hs)) ?_ ?_
 ·refine C_block ?_
  refine C_iter (f := fun s => F_spell_Text_l0 N x2 s.1 s.2) ho181 (fun s a w' => ∃ (v199 : Value) (x200 : ByteArray) (x201 : Int), (x200, x201) = s ∧ Fr 17 a [(3, .pointer (some ⟨b122, 0, none⟩)), (6, v1), (7, .int .i64 (x2.length : Int)), (8, .int .i64 x201)] ∧ Hp C w' ρ (Bld 94 5 C.w0.heap.size b122 v199 x200 :: hs)) ?_ ?_
  ·exact fun a hf => ⟨(.slice none 0 0), ByteArray.empty, 0, rfl, hf.sub ⟨rfl, rfl, rfl, rfl, trivial⟩, H⟩
  ·rintro s o219 a wd222 ⟨v199, x200, x201, rfl, hf, H⟩ hB220 hO221
   replace hB220 : F_spell_Text_l0 N x2 x200 x201 = some o219 := hB220
   unfold F_spell_Text_l0 at hB220
   refine CW.at hf <| C_seq <| R_nd <| nq (Q_lss rfl rfl) rfl rfl <| WL_nil <| x_then <| C_seq ?_
   refine C_cond rfl (fun hb => ?_) (fun hb => ?_)
   ·replace hB220 := itT hb hB220
    refine C_skip <| x_then <| C_seq <| C_block <| C_seq <| R_nd ?_
    obtain ⟨x223, hx223, hB220⟩ := bnd hB220
    obtain ⟨b224, o225, c226, hc227, ha228, hi229⟩ := idxR r3 hx223
    refine nq (Q_idx hi229 Tryd.underlying34 ty5 rfl rfl) rfl rfl <| nq (v := .int .u8 x223) (Q_ld (show cellsAt _ _ _ [.int .u8 x223] from (show _ = [_] from hc227) ▸ (ha228.up H.ok.view)) ty5 rfl (fun _ => rfl) rfl rfl) rfl rfl <| nq (Q_assign rfl) rfl rfl <| WL_nil <| x_then <| R_nd <| nq (Q_move rfl) rfl rfl ?_
    obtain ⟨q230, hq230, hB220⟩ := bnd hB220
    refine ne (E_call fn59 rfl (c_59 H gle   hq230)) rfl rfl ?_
    rintro _ wd233 ⟨x232, rfl, rfl, H⟩
    try dsimp only at hB220
    obtain ⟨x234, hx234, hB220⟩ := bnd hB220
    refine ne (E_call fn48 rfl (c_bldW bldC hhs H hS0 hlow hx234)) rfl rfl ?_
    rintro _ wd236 ⟨v235, rfl, H⟩
    refine WL_nil <| x_block <| x_then <| R_nd <| nq (Q_add rfl rfl) rfl rfl <| nq (Q_move rfl) rfl rfl <| WL_nil ?_
    obtain rfl := Option.some.inj hB220
    refine x_A fun a hf => ⟨_, rfl, v235, x234, w64 (x201 + 1), rfl, hf.sub ⟨rfl, rfl, rfl, rfl, trivial⟩, H⟩
   ·replace hB220 := itF hb hB220
    refine C_exit <| x_then_exit <| x_then_exit <| x_block_exit ?_
    obtain rfl := Option.some.inj hB220
    obtain rfl := hO221 _ rfl
    refine x_A fun a hf => ⟨v199, x200, rfl, hf.sub ⟨rfl, trivial⟩, H⟩
 ·rintro a wd237 ⟨v179, x180, rfl, hf, H⟩
  try dsimp only at hF
  refine XX.at hf <| x_then <| C_seq <| R_nd <| ne (E_call fn49 rfl (c_bldS bldC hhs H hlow)) rfl rfl ?_
  rintro _ wd238 ⟨rfl, H⟩
  refine nq (Q_assign rfl) rfl rfl <| WL_nil <| x_then <| C_ret ?_
  obtain rfl := Option.some.inj hF
  exact fn_ret (l := [.tmp 2]) (vs := [.string x180]) rfl rfl rfl ⟨x180, rfl, rfl, H⟩
theorem c_35 {N : Nat} {C : Cx} {w : World} {ρ : View} {hs : List Hl} {v1 : Value} {x2 : (List Int)} (H : Hp C w ρ (hs)) {gV : Nat → Value} (gle : GErrs ρ 137 errIds gV) (r3 : RdSl ρ (eI .u8) v1 x2) {r : ByteArray} (hF : F_script_bytes N x2 = some r) :
  Calls Tryd.prog 35 [v1].toArray w (Rets (fun v w' => (∃ (x8 : ByteArray), x8 = r ∧ .string x8 = v ∧ Hp C w' ρ (hs)))) := by
 unfold F_script_bytes at hF
 have h0 : Tryd.f35.body = some _ := rfl
 refine fn_calls' Tryd.func35 h0 (n := 8) rfl (by simp) <| C_seq <| R_nd <| nq (Q_assign rfl) rfl rfl <| WL_nil <| x_then <| C_seq <| C_seq <| R_nd <| nq (Q_move rfl) rfl rfl <| nq (Q_len Tryd.underlying34 rfl r3) rfl rfl <| nq (Q_eql rfl rfl) rfl rfl <| WL_nil <| x_then ?_
 refine C_cond rfl (fun hb => ?_) (fun hb => ?_)
 ·replace hF := itT hb hF
  refine C_seq <| R_nd <| nq (Q_assign rfl) rfl rfl <| WL_nil <| x_then <| C_ret <| x_then_ret ?_
  obtain rfl := Option.some.inj hF
  exact fn_ret (l := [.tmp 2]) (vs := [.string (⟨#[46]⟩ : ByteArray)]) rfl rfl rfl ⟨(⟨#[46]⟩ : ByteArray), rfl, rfl, H⟩
 ·replace hF := itF hb hF
  refine C_skip <| x_then <| C_seq <| R_nd <| nq (Q_move rfl) rfl rfl ?_
  obtain ⟨q9, hq9, hF⟩ := bnd hF
  refine ne (E_call fn46 rfl (c_46 H gle  r3 hq9)) rfl rfl ?_
  rintro _ wd12 ⟨x11, rfl, rfl, H⟩
  try dsimp only at hF
  refine nq (Q_assign rfl) rfl rfl <| WL_nil <| x_then <| C_ret ?_
  obtain rfl := Option.some.inj hF
  exact fn_ret (l := [.tmp 2]) (vs := [.string x11]) rfl rfl rfl ⟨x11, rfl, rfl, H⟩
theorem c_36 {N : Nat} {C : Cx} {w : World} {ρ : View} {hs : List Hl} {x1 : Int} (H : Hp C w ρ (hs)) {gV : Nat → Value} (_gle : GErrs ρ 137 errIds gV) {r : Bool} (hF : F_script_great N x1 = some r) :
  Calls Tryd.prog 36 [.int .i64 x1].toArray w (Rets (fun v w' => (∃ (x5 : Bool), x5 = r ∧ .bool x5 = v ∧ Hp C w' ρ (hs)))) := by
 unfold F_script_great at hF
 have h0 : Tryd.f36.body = some _ := rfl
 refine fn_calls' Tryd.func36 h0 (n := 9) rfl (by simp) <| C_seq <| R_nd <| nq (Q_assign rfl) rfl rfl <| WL_nil <| x_then ?_
 obtain ⟨o7, ho7, hF⟩ := bnd hF
 refine C_cut (fun a w' => ∃ (x6 : Bool), x6 = o7 ∧ Fr 9 a [(2, .bool x6)] ∧ Hp C w' ρ (hs)) ?_ ?_
 ·refine R_nd <| nq (Q_move rfl) rfl rfl <| nq (Q_geq rfl rfl) rfl rfl <| nq (Q_move rfl) rfl rfl ?_
  rcases Bool.eq_false_or_eq_true (decide (x1 ≥ 1000000000)) with hb | hb
  ·rw [hb]
   replace ho7 := itT hb ho7
   refine gs rfl rfl rfl rfl <| gs rfl rfl rfl rfl <| nq (Q_pickT rfl rfl) rfl rfl <| nq (Q_assign rfl) rfl rfl <| WL_nil ?_
   obtain rfl := Option.some.inj ho7
   refine x_A fun a hf => ⟨true, rfl, hf.sub ⟨rfl, trivial⟩, H⟩
  ·rw [hb]
   replace ho7 := itF hb ho7
   refine gq (Q_move rfl) rfl rfl rfl <| gq (Q_leq rfl rfl) rfl rfl rfl <| nq (Q_pickF rfl rfl) rfl rfl <| nq (Q_assign rfl) rfl rfl <| WL_nil ?_
   obtain rfl := Option.some.inj ho7
   refine x_A fun a hf => ⟨decide (x1 ≤ (-1000000000)), rfl, hf.sub ⟨rfl, trivial⟩, H⟩
 ·rintro a wd8 ⟨x6, rfl, hf, H⟩
  try dsimp only at hF
  refine CW.at hf <| C_ret ?_
  obtain rfl := Option.some.inj hF
  exact fn_ret (l := [.tmp 2]) (vs := [.bool x6]) rfl rfl rfl ⟨x6, rfl, rfl, H⟩
theorem c_17 {N : Nat} {C : Cx} {w : World} {ρ : View} {hs : List Hl} {v4 : Value} {x1 : Int} {x2 : Int} {x3 : Int} {x5 : (List Int)} (H : Hp C w ρ (hs)) {gV : Nat → Value} (gle : GErrs ρ 137 errIds gV) (r6 : RdSl ρ (eI .u8) v4 x5) {r : (ByteArray × Int)} (hF : F_script_Text N x1 x2 x3 x5 = some r) :
  Calls Tryd.prog 17 [.agg #[.int .i64 x1, .int .i64 x2, .int .i64 x3, v4]].toArray w (Rets (fun v w' => (∃ (ρ' : View) (x4297 : ByteArray) (x4298 : Int), (x4297, x4298) = r ∧ .tuple [.string x4297, errV errIds gV x4298].toArray = v ∧ View.le ρ ρ' ∧ Hp C w' ρ' (hs)))) := by
 unfold F_script_Text at hF
 have h0 : Tryd.f17.body = some _ := rfl
 refine fn_calls' Tryd.func17 h0 (n := 104) rfl (by simp) <| C_seq <| R_nd <| ne (E_box H (vs := [.int .i64 x1, .int .i64 x2, .int .i64 x3, v4]) rfl rfl) rfl rfl ?_
 rintro _ wd4300 ⟨b4299, rfl, H⟩
 refine nq (Q_assign rfl) rfl rfl <| nq (Q_assign rfl) rfl rfl <| WL_nil <| x_then <| C_seq <| R_nd ?_
 obtain ⟨q4301, hq4301, hF⟩ := bnd hF
 refine ne (E_call fn30 rfl (c_30 H gle   hq4301)) rfl rfl ?_
 rintro _ wd4306 ⟨v4303, c4304, rfl, rfl, r4305, H⟩
 try dsimp only at hF
 refine nq (Q_assign rfl) rfl rfl <| WL_nil <| x_then <| C_seq <| R_nd <| nq (Q_move rfl) rfl rfl <| nq (v := .func (.func 34) #[] [.pointer (some ⟨b4299, 0, none⟩)].toArray) (Q_func rfl) rfl rfl ?_
 replace H := H.f1
 obtain ⟨q4307, hq4307, hF⟩ := bnd hF
 obtain ⟨C', ρ', hl4308, HA, hL, hback⟩ := Hp.lend (A := [Box b4299 [.int .i64 x1, .int .i64 x2, .int .i64 x3, v4]]) (L := [Arr v4303 3 c4304]) (F := hs) H
 refine ne (E_call fn31 rfl (c_31_1 HA (gle.up hl4308)  (arr_rd (by decide) hl4308 (hL (Arr v4303 3 c4304) (by simp)) r4305) (r6.up hl4308) hq4307)) rfl rfl ?_
 rintro _ wd4310 ⟨x4309, rfl, rfl, H⟩
 try dsimp only at hF
 replace H := hback H
 dsimp only [List.cons_append, List.nil_append] at H
 refine nq (Q_assign rfl) rfl rfl <| WL_nil <| x_then <| C_seq <| C_seq <| R_nd <| nq (Q_move rfl) rfl rfl <| nq (Q_lss rfl rfl) rfl rfl <| WL_nil <| x_then ?_
 refine C_cond rfl (fun hb => ?_) (fun hb => ?_)
 ·replace hF := itT hb hF
  refine C_seq <| R_dr (.take 0 (.take 1 (.take 2 .done))) (fun w' => Ok w' ρ [Box b4299 [.int .i64 x1, .int .i64 x2, .int .i64 x3, v4], Arr v4303 3 c4304]) (by kernel_rfl) (by kernel_rfl) (by kernel_rfl) (H.drew.okS (by simp)) ?_
  replace H := H.drew
  refine dq (v := errV errIds gV 2) rfl (fun _ hw => Q_ldV hw gle (by decide) ty25) rfl rfl <| dq rfl (fun _ _ => Q_assign rfl) rfl rfl <| dq rfl (fun _ _ => Q_assign rfl) rfl rfl <| DL_nil <| x_then <| C_ret <| x_then_ret ?_
  replace H := H.drop 0 rfl
  dsimp only [List.eraseIdx] at H
  replace H := H.drop 0 rfl
  dsimp only [List.eraseIdx] at H
  obtain rfl := Option.some.inj hF
  exact fn_ret (l := [.tmp 2, .tmp 3]) (vs := [.string ByteArray.empty, errV errIds gV 2]) rfl rfl rfl ⟨ρ, ByteArray.empty, 2, rfl, rfl, (View.le_refl _), H⟩
 ·replace hF := itF hb hF
  refine C_skip <| x_then <| C_seq <| R_nd <| nq (Q_move rfl) rfl rfl <| nq (Q_move rfl) rfl rfl ?_
  obtain ⟨x4311, hx4311, hF⟩ := bnd hF
  obtain ⟨b4312, o4313, hi4317, hc4315, ha4316⟩ := arr_at (hs := [Arr v4303 3 c4304]) (k := 0) (by decide) (H.okS (by simp)) rfl r4305 hx4311
  refine nq (Q_idx hi4317 Tryd.underlying71 ty75 rfl rfl) rfl rfl <| nq (v := .pointer (some ⟨b4312, o4313 + 0, none⟩)) (Q_fld Tryd.underlying75 rfl ty9 (by decide) rfl (Addr.add_none _ _ _)) rfl rfl ?_
  obtain ⟨c4318, hc4319, ha4320⟩ := fstO hc4315 ha4316
  refine nq (v := .string x4311.1) (Q_ld (show cellsAt _ _ _ [.string x4311.1] from (show _ = [_] from hc4319) ▸ (ha4320 _ (Ok.subS (by simp) H.ok))) ty9 rfl (fun _ => rfl) rfl rfl) rfl rfl <| ne (E_bslice (xs := [.tmp 21]) (vs := [.string x4311.1]) H Tryd.underlying32 ty9 (by decide) (cs := [.string x4311.1]) rfl (sz_cons rfl sz_nil) rfl (by simp) (by simp) rfl rfl) rfl rfl ?_
  rintro _ wd4322 ⟨b4321, rfl, H⟩
  refine nq (Q_assign rfl) rfl rfl <| WL_nil <| x_then <| C_seq <| R_nd <| nq (v := .pointer (some ⟨b4299, 0, none⟩)) (Q_fld Tryd.underlying43 rfl ty3 (by decide) rfl rfl) rfl rfl <| nq (v := .int .i64 x1) (Q_ldB (k := 1) (cs := [.int .i64 x1]) H.ok rfl ty3 rfl rfl rfl (fun _ => rfl) rfl) rfl rfl <| nq (v := .agg #[.int .i64 x1, .int .i64 0, .int .i64 0, .slice none 0 0]) (Q_buildS st43.choose_spec (ps := [(0, [.int .i64 x1])]) rfl ⟨rfl, rfl, by simp, trivial⟩ rfl) rfl rfl <| ne (E_alloc H ty43 (zs := [.int .i64 0, .int .i64 0, .int .i64 0, .slice none 0 0]) rfl) rfl rfl ?_
  rintro _ wd4324 ⟨b4323, rfl, H⟩
  refine ne (E_stB (k := 0) (cs := [.int .i64 x1, .int .i64 0, .int .i64 0, .slice none 0 0]) (vs' := [.int .i64 x1, .int .i64 0, .int .i64 0, .slice none 0 0]) H rfl ty43 rfl rfl rfl rfl (one_cons rfl (one_cons rfl (one_cons rfl (one_cons rfl one_nil)))) (by simp) rfl) rfl rfl ?_
  rintro _ wd4325 H
  dsimp only [List.set] at H
  refine WL_nil <| x_then <| C_seq <| C_seq <| R_nd <| nq (Q_move rfl) rfl rfl <| nq (Q_move rfl) rfl rfl ?_
  obtain ⟨x4326, hx4326, hF⟩ := bnd hF
  obtain ⟨b4327, o4328, hi4332, hc4330, ha4331⟩ := arr_at (hs := [Arr v4303 3 c4304]) (k := 0) (by decide) (H.okS (by simp)) rfl r4305 hx4326
  refine nq (Q_idx hi4332 Tryd.underlying71 ty75 rfl rfl) rfl rfl <| nq (v := .pointer (some ⟨b4327, o4328 + 2, none⟩)) (Q_fld Tryd.underlying75 rfl ty9 (by decide) rfl (Addr.add_none _ _ _)) rfl rfl ?_
  obtain ⟨c4333, hc4334, ha4335⟩ := sndO hc4330 ha4331
  obtain ⟨c4336, hc4337, ha4338⟩ := sndO hc4334 ha4335
  refine nq (v := .string x4326.2.2) (Q_ld (show cellsAt _ _ _ [.string x4326.2.2] from (show _ = [_] from hc4337) ▸ (ha4338 _ (Ok.subS (by simp) H.ok))) ty9 rfl (fun _ => rfl) rfl rfl) rfl rfl <| ne (E_sbytes H Tryd.underlying9 Tryd.underlying34 Tryd.underlying5 rfl) rfl rfl ?_
  rintro v4341 wd4342 ⟨ρ, lw4339, r4340, H⟩
  replace r6 := RdSl.up lw4339 r6
  replace r4305 := rdL.up lw4339 r4305
  replace hc4330 := Enc.up _ lw4339 hc4330
  replace ha4331 := fun w ok => ha4331 w (Ok.low lw4339 ok)
  replace gle := GErrs.up lw4339 gle
  refine nq (Q_len Tryd.underlying34 rfl r4340) rfl rfl <| nq (Q_move rfl) rfl rfl <| WL_nil <| x_then ?_
  obtain ⟨o6459, ho6459, hF⟩ := bnd hF
  refine C_cutQ (fun a w' => ∃ (v6450 : Value) (c6451 : (List Value)) (v6456 : Value) (x6452 : (List ByteArray)) (x6454 : Int) (x6455 : Int) (x6457 : (List Int)), (x6452, x6454, x6455, x6457) = o6459 ∧ rdL eS ρ x6452 c6451 ∧ RdSl ρ (eI .u8) v6456 x6457 ∧ Fr 104 a [(1, .pointer (some ⟨b4299, 0, none⟩)), (6, v6450), (7, .pointer (some ⟨b4323, 0, none⟩))] ∧ Hp C w' ρ (Box b4299 [.int .i64 x1, .int .i64 x2, .int .i64 x3, v4] :: Arr v6450 1 c6451 :: Box b4323 [.int .i64 x1, .int .i64 x6454, .int .i64 x6455, v6456] :: hs)) ?_ ?_
  ·refine C_block ?_
   replace H := H.f1
   replace H := H.f2
   replace H := H.drop 3 rfl
   dsimp only [List.eraseIdx] at H
   refine C_iter (f := fun s => F_script_Text_l0 N x2 x3 x5 x4326 s.1 s.2.1 s.2.2.1 s.2.2.2.1 s.2.2.2.2) ho6459 (fun s a w' => ∃ (v7162 : Value) (c7163 : (List Value)) (v7168 : Value) (x7161 : Int) (x7164 : (List ByteArray)) (x7166 : Int) (x7167 : Int) (x7169 : (List Int)), (x7161, x7164, x7166, x7167, x7169) = s ∧ rdL eS ρ x7164 c7163 ∧ RdSl ρ (eI .u8) v7168 x7169 ∧ Fr 104 a [(1, .pointer (some ⟨b4299, 0, none⟩)), (6, v7162), (7, .pointer (some ⟨b4323, 0, none⟩)), (31, v4341), (32, .int .i64 ((sby x4326.2.2).length : Int)), (33, .int .i64 x7161)] ∧ Hp C w' ρ (Box b4299 [.int .i64 x1, .int .i64 x2, .int .i64 x3, v4] :: Arr v7162 1 c7163 :: Box b4323 [.int .i64 x1, .int .i64 x7166, .int .i64 x7167, v7168] :: hs)) ?_ ?_
   ·exact fun a hf => ⟨(.slice (some ⟨b4321, 0, none⟩) 1 1), [.string x4311.1], (.slice none 0 0), 0, [x4311.1], 0, 0, [], rfl, (show rdL eS ρ ([x4311.1]) ([.string x4311.1]) from ⟨([.string x4311.1]), _, rfl, rfl, rdL.nil⟩), RdSl.nil, hf.sub ⟨rfl, rfl, rfl, rfl, rfl, rfl, trivial⟩, H⟩
   ·rintro s o7872 a wd7875 ⟨v7162, c7163, v7168, x7161, x7164, x7166, x7167, x7169, rfl, r7165, r7170, hf, H⟩ hB7873 hO7874
    replace hB7873 : F_script_Text_l0 N x2 x3 x5 x4326 x7161 x7164 x7166 x7167 x7169 = some o7872 := hB7873
    unfold F_script_Text_l0 at hB7873
    refine CW.at hf <| C_seq <| R_nd <| nq (Q_lss rfl rfl) rfl rfl <| WL_nil <| x_then <| C_seq ?_
    refine C_cond rfl (fun hb => ?_) (fun hb => ?_)
    ·replace hB7873 := itT hb hB7873
     refine C_skip <| x_then ?_
     obtain ⟨o8225, ho8225, hB7873⟩ := bnd hB7873
     refine C_cut (fun a w' => ∃ (v8216 : Value) (c8217 : (List Value)) (v8222 : Value) (x8218 : (List ByteArray)) (x8220 : Int) (x8221 : Int) (x8223 : (List Int)), (x8218, x8220, x8221, x8223) = o8225 ∧ rdL eS ρ x8218 c8217 ∧ RdSl ρ (eI .u8) v8222 x8223 ∧ Fr 104 a [(1, .pointer (some ⟨b4299, 0, none⟩)), (6, v8216), (7, .pointer (some ⟨b4323, 0, none⟩)), (31, v4341), (32, .int .i64 ((sby x4326.2.2).length : Int)), (33, .int .i64 x7161)] ∧ Hp C w' ρ (Box b4299 [.int .i64 x1, .int .i64 x2, .int .i64 x3, v4] :: Arr v8216 1 c8217 :: Box b4323 [.int .i64 x1, .int .i64 x8220, .int .i64 x8221, v8222] :: hs)) ?_ ?_
     ·refine C_block <| C_seq <| R_nd ?_
      obtain ⟨x8226, hx8226, ho8225⟩ := bnd ho8225
      obtain ⟨b8227, o8228, c8229, hc8230, ha8231, hi8232⟩ := idxR r4340 hx8226
      refine nq (Q_idx hi8232 Tryd.underlying34 ty5 rfl rfl) rfl rfl <| nq (v := .int .u8 x8226) (Q_ld (show cellsAt _ _ _ [.int .u8 x8226] from (show _ = [_] from hc8230) ▸ (ha8231.up H.ok.view)) ty5 rfl (fun _ => rfl) rfl rfl) rfl rfl <| nq (Q_assign rfl) rfl rfl <| WL_nil <| x_then <| C_seq <| R_nd <| nq (Q_move rfl) rfl rfl <| WL_nil <| x_then ?_
      obtain ⟨o8403, ho8403, ho8225⟩ := bnd ho8225
      refine C_cutQ (fun a w' => ∃ (v8394 : Value) (c8395 : (List Value)) (v8400 : Value) (x8396 : (List ByteArray)) (x8398 : Int) (x8399 : Int) (x8401 : (List Int)), (x8396, x8398, x8399, x8401) = o8403 ∧ rdL eS ρ x8396 c8395 ∧ RdSl ρ (eI .u8) v8400 x8401 ∧ Fr 104 a [(1, .pointer (some ⟨b4299, 0, none⟩)), (6, v8394), (7, .pointer (some ⟨b4323, 0, none⟩)), (31, v4341), (32, .int .i64 ((sby x4326.2.2).length : Int)), (33, .int .i64 x7161)] ∧ Hp C w' ρ (Box b4299 [.int .i64 x1, .int .i64 x2, .int .i64 x3, v4] :: Arr v8394 1 c8395 :: Box b4323 [.int .i64 x1, .int .i64 x8398, .int .i64 x8399, v8400] :: hs)) ?_ ?_
      ·refine C_block <| C_seq <| R_nd <| nq (Q_eql rfl rfl) rfl rfl <| nq (Q_assign rfl) rfl rfl <| WL_nil <| x_then ?_
       obtain ⟨o8488, ho8488, ho8403⟩ := bnd ho8403
       refine C_cutQ (fun a w' => ∃ (v8479 : Value) (c8480 : (List Value)) (v8485 : Value) (x8481 : (List ByteArray)) (x8483 : Int) (x8484 : Int) (x8486 : (List Int)), (x8481, x8483, x8484, x8486) = o8488 ∧ rdL eS ρ x8481 c8480 ∧ RdSl ρ (eI .u8) v8485 x8486 ∧ Fr 104 a [(1, .pointer (some ⟨b4299, 0, none⟩)), (6, v8479), (7, .pointer (some ⟨b4323, 0, none⟩)), (31, v4341), (32, .int .i64 ((sby x4326.2.2).length : Int)), (33, .int .i64 x7161)] ∧ Hp C w' ρ (Box b4299 [.int .i64 x1, .int .i64 x2, .int .i64 x3, v4] :: Arr v8479 1 c8480 :: Box b4323 [.int .i64 x1, .int .i64 x8483, .int .i64 x8484, v8485] :: hs)) ?_ ?_
       ·refine C_cond rfl (fun hb => ?_) (fun hb => ?_)
        ·replace ho8488 := itT hb ho8488
         refine C_seq <| R_nd <| nq (v := .pointer (some ⟨b4299, 1, none⟩)) (Q_fld Tryd.underlying43 rfl ty3 (by decide) rfl rfl) rfl rfl <| nq (v := .int .i64 x2) (Q_ldB (k := 0) (cs := [.int .i64 x2]) H.ok rfl ty3 rfl rfl rfl (fun _ => rfl) rfl) rfl rfl <| nq (v := .pointer (some ⟨b4323, 1, none⟩)) (Q_fld Tryd.underlying43 rfl ty3 (by decide) rfl rfl) rfl rfl <| ne (E_stB (k := 2) (cs := [.int .i64 x2]) (vs' := [.int .i64 x1, .int .i64 x2, .int .i64 x7167, v7168]) H rfl ty3 rfl rfl rfl rfl (one_cons rfl one_nil) (by simp) rfl) rfl rfl ?_
         rintro _ wd8489 H
         dsimp only [List.set] at H
         refine WL_nil <| x_then <| R_nd <| nq (Q_move rfl) rfl rfl <| nq (v := .pointer (some ⟨b4299, 1, none⟩)) (Q_fld Tryd.underlying43 rfl ty3 (by decide) rfl rfl) rfl rfl <| nq (v := .int .i64 x2) (Q_ldB (k := 0) (cs := [.int .i64 x2]) H.ok rfl ty3 rfl rfl rfl (fun _ => rfl) rfl) rfl rfl ?_
         obtain ⟨q8490, hq8490, ho8488⟩ := bnd ho8488
         refine ne (E_call fn8 rfl (c_8 H gle   hq8490)) rfl rfl ?_
         rintro _ wd8493 ⟨x8492, rfl, rfl, H⟩
         try dsimp only at ho8488
         refine ne (E_bslice (xs := [.tmp 55]) (vs := [.string x8492]) H Tryd.underlying32 ty9 (by decide) (cs := [.string x8492]) rfl (sz_cons rfl sz_nil) rfl (by simp) (by simp) rfl rfl) rfl rfl ?_
         rintro _ wd8495 ⟨b8494, rfl, H⟩
         obtain ⟨x8496, hx8496, ho8488⟩ := bnd ho8488
         obtain ⟨ha8497a, ha8497b⟩ := app_some hx8496
         have r8499 : rdL eS ρ x8496 (c7163 ++ ([.string x8492])) := ha8497b ▸ rdL.app r7165 (show rdL eS ρ ([x8492]) ([.string x8492]) from ⟨([.string x8492]), _, rfl, rfl, rdL.nil⟩)
         refine ne (E_append (k := 2) H rfl Tryd.underlying32 ty9 rfl (by decide) (by decide) rfl rfl (Src.ofArr (k := 0) H.ok rfl) (rdL.one (show rdL eS ρ ([x8492]) ([.string x8492]) from ⟨([.string x8492]), _, rfl, rfl, rdL.nil⟩)) (app_fit r7165 (show rdL eS ρ ([x8492]) ([.string x8492]) from ⟨([.string x8492]), _, rfl, rfl, rdL.nil⟩) ha8497a)) rfl rfl ?_
         rintro v8498 wd8501 ⟨H, hc8500⟩
         dsimp only [List.set] at H
         refine nq (Q_assign rfl) rfl rfl <| WL_nil ?_
         replace H := H.f3
         replace H := H.f3
         replace H := H.f3
         replace H := H.drop 3 rfl
         dsimp only [List.eraseIdx] at H
         obtain rfl := Option.some.inj ho8488
         refine x_A fun a hf => ⟨v8498, (c7163 ++ ([.string x8492])), v7168, x8496, x2, x7167, x7169, rfl, r8499, r7170, hf.sub ⟨rfl, rfl, rfl, rfl, rfl, rfl, trivial⟩, H⟩
        ·replace ho8488 := itF hb ho8488
         refine C_seq <| R_nd <| nq (Q_eql rfl rfl) rfl rfl <| nq (Q_assign rfl) rfl rfl <| WL_nil <| x_then ?_
         obtain ⟨o8536, ho8536, ho8488⟩ := bnd ho8488
         refine C_cutQ (fun a w' => ∃ (v8528 : Value) (c8529 : (List Value)) (v8533 : Value) (x8530 : (List ByteArray)) (x8532 : Int) (x8534 : (List Int)), (x8530, x8532, x8534) = o8536 ∧ rdL eS ρ x8530 c8529 ∧ RdSl ρ (eI .u8) v8533 x8534 ∧ Fr 104 a [(1, .pointer (some ⟨b4299, 0, none⟩)), (6, v8528), (7, .pointer (some ⟨b4323, 0, none⟩)), (31, v4341), (32, .int .i64 ((sby x4326.2.2).length : Int)), (33, .int .i64 x7161)] ∧ Hp C w' ρ (Box b4299 [.int .i64 x1, .int .i64 x2, .int .i64 x3, v4] :: Arr v8528 1 c8529 :: Box b4323 [.int .i64 x1, .int .i64 x7166, .int .i64 x8532, v8533] :: hs)) ?_ ?_
         ·refine C_cond rfl (fun hb => ?_) (fun hb => ?_)
          ·replace ho8536 := itT hb ho8536
           refine C_seq <| R_nd <| nq (v := .pointer (some ⟨b4299, 2, none⟩)) (Q_fld Tryd.underlying43 rfl ty3 (by decide) rfl rfl) rfl rfl <| nq (v := .int .i64 x3) (Q_ldB (k := 0) (cs := [.int .i64 x3]) H.ok rfl ty3 rfl rfl rfl (fun _ => rfl) rfl) rfl rfl <| nq (v := .pointer (some ⟨b4323, 2, none⟩)) (Q_fld Tryd.underlying43 rfl ty3 (by decide) rfl rfl) rfl rfl <| ne (E_stB (k := 2) (cs := [.int .i64 x3]) (vs' := [.int .i64 x1, .int .i64 x7166, .int .i64 x3, v7168]) H rfl ty3 rfl rfl rfl rfl (one_cons rfl one_nil) (by simp) rfl) rfl rfl ?_
           rintro _ wd8537 H
           dsimp only [List.set] at H
           refine WL_nil <| x_then <| R_nd <| nq (Q_move rfl) rfl rfl <| nq (v := .pointer (some ⟨b4299, 2, none⟩)) (Q_fld Tryd.underlying43 rfl ty3 (by decide) rfl rfl) rfl rfl <| nq (v := .int .i64 x3) (Q_ldB (k := 0) (cs := [.int .i64 x3]) H.ok rfl ty3 rfl rfl rfl (fun _ => rfl) rfl) rfl rfl ?_
           obtain ⟨q8538, hq8538, ho8536⟩ := bnd ho8536
           refine ne (E_call fn8 rfl (c_8 H gle   hq8538)) rfl rfl ?_
           rintro _ wd8541 ⟨x8540, rfl, rfl, H⟩
           try dsimp only at ho8536
           refine ne (E_bslice (xs := [.tmp 66]) (vs := [.string x8540]) H Tryd.underlying32 ty9 (by decide) (cs := [.string x8540]) rfl (sz_cons rfl sz_nil) rfl (by simp) (by simp) rfl rfl) rfl rfl ?_
           rintro _ wd8543 ⟨b8542, rfl, H⟩
           obtain ⟨x8544, hx8544, ho8536⟩ := bnd ho8536
           obtain ⟨ha8545a, ha8545b⟩ := app_some hx8544
           have r8547 : rdL eS ρ x8544 (c7163 ++ ([.string x8540])) := ha8545b ▸ rdL.app r7165 (show rdL eS ρ ([x8540]) ([.string x8540]) from ⟨([.string x8540]), _, rfl, rfl, rdL.nil⟩)
           refine ne (E_append (k := 2) H rfl Tryd.underlying32 ty9 rfl (by decide) (by decide) rfl rfl (Src.ofArr (k := 0) H.ok rfl) (rdL.one (show rdL eS ρ ([x8540]) ([.string x8540]) from ⟨([.string x8540]), _, rfl, rfl, rdL.nil⟩)) (app_fit r7165 (show rdL eS ρ ([x8540]) ([.string x8540]) from ⟨([.string x8540]), _, rfl, rfl, rdL.nil⟩) ha8545a)) rfl rfl ?_
           rintro v8546 wd8549 ⟨H, hc8548⟩
           dsimp only [List.set] at H
           refine nq (Q_assign rfl) rfl rfl <| WL_nil ?_
           replace H := H.f3
           replace H := H.f3
           replace H := H.f3
           replace H := H.drop 3 rfl
           dsimp only [List.eraseIdx] at H
           obtain rfl := Option.some.inj ho8536
           refine x_A fun a hf => ⟨v8546, (c7163 ++ ([.string x8540])), v7168, x8544, x3, x7169, rfl, r8547, r7170, hf.sub ⟨rfl, rfl, rfl, rfl, rfl, rfl, trivial⟩, H⟩
          ·replace ho8536 := itF hb ho8536
           refine C_seq <| R_nd <| nq (v := .pointer (some ⟨b4299, 3, none⟩)) (Q_fld Tryd.underlying43 rfl ty34 (by decide) rfl rfl) rfl rfl <| nq (v := v4) (Q_ldB (k := 0) (cs := [v4]) H.ok rfl ty34 rfl rfl rfl (fun _ => rfl) rfl) rfl rfl <| nq (v := .pointer (some ⟨b4323, 3, none⟩)) (Q_fld Tryd.underlying43 rfl ty34 (by decide) rfl rfl) rfl rfl <| ne (E_stB (k := 2) (cs := [v4]) (vs' := [.int .i64 x1, .int .i64 x7166, .int .i64 x7167, v4]) H rfl ty34 rfl rfl (RdSl.cells r6) rfl (one_cons (RdSl.one r6) one_nil) (by simp) rfl) rfl rfl ?_
           rintro _ wd8550 H
           dsimp only [List.set] at H
           refine WL_nil <| x_then <| R_nd <| nq (Q_move rfl) rfl rfl <| nq (v := .pointer (some ⟨b4299, 3, none⟩)) (Q_fld Tryd.underlying43 rfl ty34 (by decide) rfl rfl) rfl rfl <| nq (v := v4) (Q_ldB (k := 0) (cs := [v4]) H.ok rfl ty34 rfl rfl rfl (fun _ => rfl) rfl) rfl rfl ?_
           obtain ⟨q8551, hq8551, ho8536⟩ := bnd ho8536
           refine ne (E_call fn35 rfl (c_35 H gle  r6 hq8551)) rfl rfl ?_
           rintro _ wd8554 ⟨x8553, rfl, rfl, H⟩
           try dsimp only at ho8536
           refine ne (E_bslice (xs := [.tmp 44]) (vs := [.string x8553]) H Tryd.underlying32 ty9 (by decide) (cs := [.string x8553]) rfl (sz_cons rfl sz_nil) rfl (by simp) (by simp) rfl rfl) rfl rfl ?_
           rintro _ wd8556 ⟨b8555, rfl, H⟩
           obtain ⟨x8557, hx8557, ho8536⟩ := bnd ho8536
           obtain ⟨ha8558a, ha8558b⟩ := app_some hx8557
           have r8560 : rdL eS ρ x8557 (c7163 ++ ([.string x8553])) := ha8558b ▸ rdL.app r7165 (show rdL eS ρ ([x8553]) ([.string x8553]) from ⟨([.string x8553]), _, rfl, rfl, rdL.nil⟩)
           refine ne (E_append (k := 2) H rfl Tryd.underlying32 ty9 rfl (by decide) (by decide) rfl rfl (Src.ofArr (k := 0) H.ok rfl) (rdL.one (show rdL eS ρ ([x8553]) ([.string x8553]) from ⟨([.string x8553]), _, rfl, rfl, rdL.nil⟩)) (app_fit r7165 (show rdL eS ρ ([x8553]) ([.string x8553]) from ⟨([.string x8553]), _, rfl, rfl, rdL.nil⟩) ha8558a)) rfl rfl ?_
           rintro v8559 wd8562 ⟨H, hc8561⟩
           dsimp only [List.set] at H
           refine nq (Q_assign rfl) rfl rfl <| WL_nil ?_
           replace H := H.f3
           replace H := H.f3
           replace H := H.f3
           replace H := H.drop 3 rfl
           dsimp only [List.eraseIdx] at H
           obtain rfl := Option.some.inj ho8536
           refine x_A fun a hf => ⟨v8559, (c7163 ++ ([.string x8553])), v4, x8557, x7167, x5, rfl, r8560, r6, hf.sub ⟨rfl, rfl, rfl, rfl, rfl, rfl, trivial⟩, H⟩
         ·rintro a wd8563 ⟨v8528, c8529, v8533, x8530, x8532, x8534, rfl, r8531, r8535, hf, H⟩
          try dsimp only at ho8488
          refine XX.at hf ?_
          replace H := H.f2
          replace H := H.f2
          replace H := H.f2
          obtain rfl := Option.some.inj ho8488
          refine x_A fun a hf => ⟨v8528, c8529, v8533, x8530, x7166, x8532, x8534, rfl, r8531, r8535, hf.sub ⟨rfl, rfl, rfl, rfl, rfl, rfl, trivial⟩, H⟩
       ·rintro a wd8564 ⟨v8479, c8480, v8485, x8481, x8483, x8484, x8486, rfl, r8482, r8487, hf, H⟩
        try dsimp only at ho8403
        refine XX.at hf <| x_block ?_
        replace H := H.f2
        replace H := H.f2
        replace H := H.f2
        obtain rfl := Option.some.inj ho8403
        refine x_A fun a hf => ⟨v8479, c8480, v8485, x8481, x8483, x8484, x8486, rfl, r8482, r8487, hf.sub ⟨rfl, rfl, rfl, rfl, rfl, rfl, trivial⟩, H⟩
      ·rintro a wd8565 ⟨v8394, c8395, v8400, x8396, x8398, x8399, x8401, rfl, r8397, r8402, hf, H⟩
       try dsimp only at ho8225
       refine XX.at hf <| x_block ?_
       replace H := H.f2
       replace H := H.f2
       replace H := H.f2
       obtain rfl := Option.some.inj ho8225
       refine x_A fun a hf => ⟨v8394, c8395, v8400, x8396, x8398, x8399, x8401, rfl, r8397, r8402, hf.sub ⟨rfl, rfl, rfl, rfl, rfl, rfl, trivial⟩, H⟩
     ·rintro a wd8566 ⟨v8216, c8217, v8222, x8218, x8220, x8221, x8223, rfl, r8219, r8224, hf, H⟩
      try dsimp only at hB7873
      refine CW.at hf <| R_nd <| nq (Q_add rfl rfl) rfl rfl <| nq (Q_move rfl) rfl rfl <| WL_nil ?_
      replace H := H.f2
      replace H := H.f2
      replace H := H.f2
      obtain rfl := Option.some.inj hB7873
      refine x_A fun a hf => ⟨_, rfl, v8216, c8217, v8222, w64 (x7161 + 1), x8218, x8220, x8221, x8223, rfl, r8219, r8224, hf.sub ⟨rfl, rfl, rfl, rfl, rfl, rfl, trivial⟩, H⟩
    ·replace hB7873 := itF hb hB7873
     refine C_exit <| x_then_exit <| x_then_exit <| x_block_exit ?_
     replace H := H.f2
     replace H := H.f2
     replace H := H.f2
     obtain rfl := Option.some.inj hB7873
     obtain rfl := hO7874 _ rfl
     refine x_A fun a hf => ⟨v7162, c7163, v7168, x7164, x7166, x7167, x7169, rfl, r7165, r7170, hf.sub ⟨rfl, rfl, rfl, trivial⟩, H⟩
  ·rintro a wd8567 ⟨v6450, c6451, v6456, x6452, x6454, x6455, x6457, rfl, r6453, r6458, hf, H⟩
   try dsimp only at hF
   refine XX.at hf <| x_then <| C_seq ?_
   obtain ⟨o8577, ho8577, hF⟩ := bnd hF
   refine C_cut (fun a w' => ∃ (x8576 : Bool), x8576 = o8577 ∧ Fr 104 a [(6, v6450), (100, .bool x8576)] ∧ Hp C w' ρ (Arr v6450 1 c6451 :: hs)) ?_ ?_
   ·refine R_nd <| nq (v := .pointer (some ⟨b4299, 1, none⟩)) (Q_fld Tryd.underlying43 rfl ty3 (by decide) rfl rfl) rfl rfl <| nq (v := .int .i64 x2) (Q_ldB (k := 0) (cs := [.int .i64 x2]) H.ok rfl ty3 rfl rfl rfl (fun _ => rfl) rfl) rfl rfl ?_
    obtain ⟨q8578, hq8578, ho8577⟩ := bnd ho8577
    refine ne (E_call fn36 rfl (c_36 H gle   hq8578)) rfl rfl ?_
    rintro _ wd8581 ⟨x8580, rfl, rfl, H⟩
    try dsimp only at ho8577
    refine nq (Q_move rfl) rfl rfl ?_
    rcases Bool.eq_false_or_eq_true x8580 with hb | hb
    ·rw [hb]
     replace ho8577 := itT hb ho8577
     refine gs rfl rfl rfl rfl <| gs rfl rfl rfl rfl <| gs rfl rfl rfl rfl <| nq (Q_pickT rfl rfl) rfl rfl <| nq (Q_move rfl) rfl rfl <| gs rfl rfl rfl rfl <| gs rfl rfl rfl rfl <| gs rfl rfl rfl rfl <| gs rfl rfl rfl rfl <| gs rfl rfl rfl rfl <| nq (Q_pickT rfl rfl) rfl rfl <| nq (Q_move rfl) rfl rfl <| gs rfl rfl rfl rfl <| gs rfl rfl rfl rfl ?_
     refine gs rfl rfl rfl rfl <| gs rfl rfl rfl rfl <| gs rfl rfl rfl rfl <| nq (Q_pickT rfl rfl) rfl rfl <| nq (Q_move rfl) rfl rfl <| gs rfl rfl rfl rfl <| gs rfl rfl rfl rfl <| gs rfl rfl rfl rfl <| gs rfl rfl rfl rfl <| gs rfl rfl rfl rfl <| gs rfl rfl rfl rfl <| gs rfl rfl rfl rfl <| nq (Q_pickT rfl rfl) rfl rfl <| WL_nil ?_
     replace H := H.f1
     replace H := H.drop 1 rfl
     dsimp only [List.eraseIdx] at H
     replace H := H.drop 1 rfl
     dsimp only [List.eraseIdx] at H
     obtain rfl := Option.some.inj ho8577
     refine x_A fun a hf => ⟨true, rfl, hf.sub ⟨rfl, rfl, trivial⟩, H⟩
    ·rw [hb]
     replace ho8577 := itF hb ho8577
     refine gq (v := .pointer (some ⟨b4299, 2, none⟩)) (Q_fld Tryd.underlying43 rfl ty3 (by decide) rfl rfl) rfl rfl rfl <| gq (v := .int .i64 x3) (Q_ldB (k := 0) (cs := [.int .i64 x3]) H.ok rfl ty3 rfl rfl rfl (fun _ => rfl) rfl) rfl rfl rfl ?_
     obtain ⟨q8582, hq8582, ho8577⟩ := bnd ho8577
     refine ge (E_call fn36 rfl (c_36 H gle   hq8582)) rfl rfl rfl ?_
     rintro _ wd8585 ⟨x8584, rfl, rfl, H⟩
     try dsimp only at ho8577
     refine nq (Q_pickF rfl rfl) rfl rfl <| nq (Q_move rfl) rfl rfl ?_
     rcases Bool.eq_false_or_eq_true x8584 with hb | hb
     ·rw [hb]
      replace ho8577 := itT hb ho8577
      refine gs rfl rfl rfl rfl <| gs rfl rfl rfl rfl <| gs rfl rfl rfl rfl <| gs rfl rfl rfl rfl <| gs rfl rfl rfl rfl <| nq (Q_pickT rfl rfl) rfl rfl <| nq (Q_move rfl) rfl rfl <| gs rfl rfl rfl rfl <| gs rfl rfl rfl rfl <| gs rfl rfl rfl rfl <| gs rfl rfl rfl rfl <| gs rfl rfl rfl rfl <| nq (Q_pickT rfl rfl) rfl rfl <| nq (Q_move rfl) rfl rfl ?_
      refine gs rfl rfl rfl rfl <| gs rfl rfl rfl rfl <| gs rfl rfl rfl rfl <| gs rfl rfl rfl rfl <| gs rfl rfl rfl rfl <| gs rfl rfl rfl rfl <| gs rfl rfl rfl rfl <| nq (Q_pickT rfl rfl) rfl rfl <| WL_nil ?_
      replace H := H.f1
      replace H := H.drop 1 rfl
      dsimp only [List.eraseIdx] at H
      replace H := H.drop 1 rfl
      dsimp only [List.eraseIdx] at H
      obtain rfl := Option.some.inj ho8577
      refine x_A fun a hf => ⟨true, rfl, hf.sub ⟨rfl, rfl, trivial⟩, H⟩
     ·rw [hb]
      replace ho8577 := itF hb ho8577
      refine gq (v := .pointer (some ⟨b4323, 1, none⟩)) (Q_fld Tryd.underlying43 rfl ty3 (by decide) rfl rfl) rfl rfl rfl <| gq (v := .int .i64 x6454) (Q_ldB (k := 2) (cs := [.int .i64 x6454]) H.ok rfl ty3 rfl rfl rfl (fun _ => rfl) rfl) rfl rfl rfl <| gq (v := .pointer (some ⟨b4299, 1, none⟩)) (Q_fld Tryd.underlying43 rfl ty3 (by decide) rfl rfl) rfl rfl rfl <| gq (v := .int .i64 x2) (Q_ldB (k := 0) (cs := [.int .i64 x2]) H.ok rfl ty3 rfl rfl rfl (fun _ => rfl) rfl) rfl rfl rfl <| gq (Q_neq rfl rfl) rfl rfl rfl <| nq (Q_pickF rfl rfl) rfl rfl <| nq (Q_move rfl) rfl rfl ?_
      rcases Bool.eq_false_or_eq_true (x6454 != x2) with hb | hb
      ·rw [hb]
       replace ho8577 := itT hb ho8577
       refine gs rfl rfl rfl rfl <| gs rfl rfl rfl rfl <| gs rfl rfl rfl rfl <| gs rfl rfl rfl rfl <| gs rfl rfl rfl rfl <| nq (Q_pickT rfl rfl) rfl rfl <| nq (Q_move rfl) rfl rfl <| gs rfl rfl rfl rfl <| gs rfl rfl rfl rfl <| gs rfl rfl rfl rfl <| gs rfl rfl rfl rfl <| gs rfl rfl rfl rfl <| gs rfl rfl rfl rfl <| gs rfl rfl rfl rfl ?_
       refine nq (Q_pickT rfl rfl) rfl rfl <| WL_nil ?_
       replace H := H.f1
       replace H := H.drop 1 rfl
       dsimp only [List.eraseIdx] at H
       replace H := H.drop 1 rfl
       dsimp only [List.eraseIdx] at H
       obtain rfl := Option.some.inj ho8577
       refine x_A fun a hf => ⟨true, rfl, hf.sub ⟨rfl, rfl, trivial⟩, H⟩
      ·rw [hb]
       replace ho8577 := itF hb ho8577
       refine gq (v := .pointer (some ⟨b4323, 2, none⟩)) (Q_fld Tryd.underlying43 rfl ty3 (by decide) rfl rfl) rfl rfl rfl <| gq (v := .int .i64 x6455) (Q_ldB (k := 2) (cs := [.int .i64 x6455]) H.ok rfl ty3 rfl rfl rfl (fun _ => rfl) rfl) rfl rfl rfl <| gq (v := .pointer (some ⟨b4299, 2, none⟩)) (Q_fld Tryd.underlying43 rfl ty3 (by decide) rfl rfl) rfl rfl rfl <| gq (v := .int .i64 x3) (Q_ldB (k := 0) (cs := [.int .i64 x3]) H.ok rfl ty3 rfl rfl rfl (fun _ => rfl) rfl) rfl rfl rfl <| gq (Q_neq rfl rfl) rfl rfl rfl <| nq (Q_pickF rfl rfl) rfl rfl <| nq (Q_move rfl) rfl rfl ?_
       rcases Bool.eq_false_or_eq_true (x6455 != x3) with hb | hb
       ·rw [hb]
        replace ho8577 := itT hb ho8577
        refine gs rfl rfl rfl rfl <| gs rfl rfl rfl rfl <| gs rfl rfl rfl rfl <| gs rfl rfl rfl rfl <| gs rfl rfl rfl rfl <| gs rfl rfl rfl rfl <| gs rfl rfl rfl rfl <| nq (Q_pickT rfl rfl) rfl rfl <| WL_nil ?_
        replace H := H.f1
        replace H := H.drop 1 rfl
        dsimp only [List.eraseIdx] at H
        replace H := H.drop 1 rfl
        dsimp only [List.eraseIdx] at H
        obtain rfl := Option.some.inj ho8577
        refine x_A fun a hf => ⟨true, rfl, hf.sub ⟨rfl, rfl, trivial⟩, H⟩
       ·rw [hb]
        replace ho8577 := itF hb ho8577
        refine gq (v := .pointer (some ⟨b4323, 3, none⟩)) (Q_fld Tryd.underlying43 rfl ty34 (by decide) rfl rfl) rfl rfl rfl <| gq (v := v6456) (Q_ldB (k := 2) (cs := [v6456]) H.ok rfl ty34 rfl rfl rfl (fun _ => rfl) rfl) rfl rfl rfl <| gq (Q_len Tryd.underlying34 rfl r6458) rfl rfl rfl <| gq (v := .pointer (some ⟨b4299, 3, none⟩)) (Q_fld Tryd.underlying43 rfl ty34 (by decide) rfl rfl) rfl rfl rfl <| gq (v := v4) (Q_ldB (k := 0) (cs := [v4]) H.ok rfl ty34 rfl rfl rfl (fun _ => rfl) rfl) rfl rfl rfl <| gq (Q_len Tryd.underlying34 rfl r6) rfl rfl rfl <| gq (Q_neq rfl rfl) rfl rfl rfl <| nq (Q_pickF rfl rfl) rfl rfl <| WL_nil ?_
        replace H := H.f1
        replace H := H.drop 1 rfl
        dsimp only [List.eraseIdx] at H
        replace H := H.drop 1 rfl
        dsimp only [List.eraseIdx] at H
        obtain rfl := Option.some.inj ho8577
        refine x_A fun a hf => ⟨(x6457.length : Int) != (x5.length : Int), rfl, hf.sub ⟨rfl, rfl, trivial⟩, H⟩
   ·rintro a wd8586 ⟨x8576, rfl, hf, H⟩
    try dsimp only at hF
    refine CW.at hf ?_
    refine C_cond rfl (fun hb => ?_) (fun hb => ?_)
    ·replace hF := itT hb hF
     refine C_seq <| R_dr (.take 0 (.take 1 (.take 2 .done))) (fun w' => Ok w' ρ [Arr v6450 1 c6451]) (by kernel_rfl) (by kernel_rfl) (by kernel_rfl) (H.drew.okS (by simp)) ?_
     replace H := H.drew
     refine dq (v := errV errIds gV 1) rfl (fun _ hw => Q_ldV hw gle (by decide) ty25) rfl rfl <| dq rfl (fun _ _ => Q_assign rfl) rfl rfl <| dq rfl (fun _ _ => Q_assign rfl) rfl rfl <| DL_nil <| x_then <| C_ret <| x_then_ret ?_
     replace H := H.drop 0 rfl
     dsimp only [List.eraseIdx] at H
     obtain rfl := Option.some.inj hF
     exact fn_ret (l := [.tmp 2, .tmp 3]) (vs := [.string ByteArray.empty, errV errIds gV 1]) rfl rfl rfl ⟨ρ, ByteArray.empty, 1, rfl, rfl, lw4339, H⟩
    ·replace hF := itF hb hF
     refine C_skip <| x_then <| C_seq <| R_nd <| nq (Q_move rfl) rfl rfl ?_
     obtain ⟨x8587, hx8587, hF⟩ := bnd hF
     refine ne (E_call fn37 rfl (c_join joinC H (arr_rd (by decide) H.view (H.all (Arr v6450 1 c6451) (by simp)) r6453) hx8587)) rfl rfl ?_
     rintro _ wd8588 ⟨rfl, H⟩
     refine nq (Q_assign rfl) rfl rfl <| nq (Q_assign rfl) rfl rfl <| WL_nil <| x_then <| C_ret ?_
     replace H := H.drop 0 rfl
     dsimp only [List.eraseIdx] at H
     obtain rfl := Option.some.inj hF
     exact fn_ret (l := [.tmp 2, .tmp 3]) (vs := [.string x8587, errV errIds gV 0]) rfl rfl rfl ⟨ρ, x8587, 0, rfl, rfl, lw4339, H⟩
theorem c_71 {N : Nat} {C : Cx} {w : World} {ρ : View} {hs : List Hl} {x1 : Int} (H : Hp C w ρ (hs)) {gV : Nat → Value} (_gle : GErrs ρ 137 errIds gV) {r : ByteArray} (hF : F_dofferref05_hex N x1 = some r) :
  Calls Tryd.prog 71 [.int .u8 x1].toArray w (Rets (fun v w' => (∃ (x5 : ByteArray), x5 = r ∧ .string x5 = v ∧ Hp C w' ρ (hs)))) := by
 unfold F_dofferref05_hex at hF
 have h0 : Tryd.f71.body = some _ := rfl
 refine fn_calls' Tryd.func71 h0 (n := 19) rfl (by simp) <| C_seq <| R_nd <| nq (Q_assign rfl) rfl rfl <| WL_nil <| x_then <| C_seq <| R_nd <| nq (Q_assign rfl) rfl rfl <| WL_nil <| x_then <| C_seq <| R_dr (.take 0 (.take 1 (.take 2 (.take 3 (.take 4 (.take 5 (.take 6 (.take 7 (.take 8 (.take 9 (.take 10 (.take 11 (.take 12 (.take 13 (.take 14 (.take 15 .done)))))))))))))))) (fun w' => Ok w' ρ []) (by kernel_rfl) (by kernel_rfl) (by kernel_rfl) (H.drew.okS (by simp)) ?_
 replace H := H.drew
 refine dq rfl (fun _ _ => Q_move rfl) rfl rfl <| dq rfl (fun _ _ => Q_move rfl) rfl rfl <| dq rfl (fun _ _ => Q_quo rfl rfl (by decide)) rfl rfl <| dq rfl (fun _ _ => Q_move rfl) rfl rfl <| dq rfl (fun _ _ => Q_quo rfl rfl (by decide)) rfl rfl <| dq rfl (fun _ _ => Q_add rfl rfl) rfl rfl ?_
 obtain ⟨x6, hx6, hF⟩ := bnd hF
 refine dq rfl (fun _ _ => Q_slStr hx6 Tryd.underlying9 rfl ⟨_, rfl⟩ ⟨_, rfl⟩) rfl rfl <| dq rfl (fun _ _ => Q_move rfl) rfl rfl <| dq rfl (fun _ _ => Q_move rfl) rfl rfl <| dq rfl (fun _ _ => Q_rem rfl rfl (by decide)) rfl rfl <| dq rfl (fun _ _ => Q_move rfl) rfl rfl <| dq rfl (fun _ _ => Q_rem rfl rfl (by decide)) rfl rfl <| dq rfl (fun _ _ => Q_add rfl rfl) rfl rfl ?_
 obtain ⟨x7, hx7, hF⟩ := bnd hF
 refine dq rfl (fun _ _ => Q_slStr hx7 Tryd.underlying9 rfl ⟨_, rfl⟩ ⟨_, rfl⟩) rfl rfl ?_
 obtain ⟨x8, hx8, hF⟩ := bnd hF
 refine dq rfl (fun _ _ => Q_cat hx8 rfl rfl) rfl rfl <| dq rfl (fun _ _ => Q_assign rfl) rfl rfl <| DL_nil <| x_then <| C_ret ?_
 obtain rfl := Option.some.inj hF
 exact fn_ret (l := [.tmp 2]) (vs := [.string x8]) rfl rfl rfl ⟨x8, rfl, rfl, H⟩
theorem c_72 {N : Nat} {C : Cx} {w : World} {ρ : View} {hs : List Hl} {x1 : Int} (H : Hp C w ρ (hs)) {gV : Nat → Value} (_gle : GErrs ρ 137 errIds gV) {r : Bool} (hF : F_dofferref05_in N x1 = some r) :
  Calls Tryd.prog 72 [.string (⟨#[124, 42, 43, 63, 40, 41, 91, 93, 123, 125, 46, 92, 47]⟩ : ByteArray), .int .u8 x1].toArray w (Rets (fun v w' => (∃ (x22 : Bool), x22 = r ∧ .bool x22 = v ∧ Hp C w' ρ (hs)))) := by
 unfold F_dofferref05_in at hF
 have h0 : Tryd.f72.body = some _ := rfl
 refine fn_calls' Tryd.func72 h0 (n := 17) rfl (by simp) <| C_seq <| R_nd <| nq (Q_assign rfl) rfl rfl <| WL_nil <| x_then <| C_seq <| C_seq <| R_nd <| nq (Q_assign rfl) rfl rfl <| WL_nil <| x_then ?_
 obtain ⟨o32, ho32, hF⟩ := bnd hF
 refine C_cutQ (fun a w' => .inl () = o32 ∧ Fr 17 a [] ∧ Hp C w' ρ (hs)) ?_ ?_
 ·refine C_block ?_
  refine C_iter (f := fun s => F_dofferref05_in_l0 N x1 s) ho32 (fun s a w' => ∃ (x34 : Int), x34 = s ∧ Fr 17 a [(0, .string (⟨#[124, 42, 43, 63, 40, 41, 91, 93, 123, 125, 46, 92, 47]⟩ : ByteArray)), (1, .int .u8 x1), (5, .int .i64 x34)] ∧ Hp C w' ρ (hs)) ?_ ?_
  ·exact fun a hf => ⟨0, rfl, hf.sub ⟨rfl, rfl, rfl, trivial⟩, H⟩
  ·rintro s o37 a wd40 ⟨x34, rfl, hf, H⟩ hB38 hO39
   replace hB38 : F_dofferref05_in_l0 N x1 x34 = some o37 := hB38
   unfold F_dofferref05_in_l0 at hB38
   refine CW.at hf <| C_seq <| C_seq <| R_nd <| nq (Q_move rfl) rfl rfl <| nq (Q_move rfl) rfl rfl <| nq (v := .int .i64 13) (Q_lenStrC Tryd.underlying9 rfl (by decide)) rfl rfl <| nq (Q_lss rfl rfl) rfl rfl <| WL_nil <| x_then ?_
   refine C_cond rfl (fun hb => ?_) (fun hb => ?_)
   ·replace hB38 := itT hb hB38
    refine C_skip <| x_then <| C_seq <| C_block <| C_seq <| R_nd <| nq (Q_move rfl) rfl rfl <| nq (Q_move rfl) rfl rfl ?_
    obtain ⟨x41, hx41, hB38⟩ := bnd hB38
    refine nq (Q_ixS hx41 Tryd.underlying9 rfl rfl) rfl rfl <| nq (Q_move rfl) rfl rfl <| nq (Q_eql rfl rfl) rfl rfl <| WL_nil <| x_then ?_
    refine C_cond rfl (fun hb => ?_) (fun hb => ?_)
    ·replace hB38 := itT hb hB38
     refine C_seq <| R_nd <| nq (Q_assign rfl) rfl rfl <| WL_nil <| x_then <| C_ret <| x_block_ret <| x_then_ret <| x_then_ret <| x_block_ret <| x_then_ret <| x_then_ret ?_
     obtain rfl := Option.some.inj hB38
     obtain rfl := hO39 _ rfl
     obtain rfl := Option.some.inj (show some _ = some _ from hF)
     exact fn_ret (l := [.tmp 4]) (vs := [.bool true]) rfl rfl rfl ⟨true, rfl, rfl, H⟩
    ·replace hB38 := itF hb hB38
     refine C_skip <| x_block <| x_then <| R_nd <| nq (Q_move rfl) rfl rfl <| nq (Q_add rfl rfl) rfl rfl <| nq (Q_assign rfl) rfl rfl <| WL_nil ?_
     obtain rfl := Option.some.inj hB38
     refine x_A fun a hf => ⟨_, rfl, w64 (x34 + 1), rfl, hf.sub ⟨rfl, rfl, rfl, trivial⟩, H⟩
   ·replace hB38 := itF hb hB38
    refine C_exit <| x_then_exit <| x_then_exit <| x_block_exit ?_
    obtain rfl := Option.some.inj hB38
    obtain rfl := hO39 _ rfl
    refine x_A fun a hf => ⟨rfl, hf.sub trivial, H⟩
 ·rintro a wd42 ⟨rfl, hf, H⟩
  try dsimp only at hF
  refine XX.at hf <| x_then <| C_seq <| R_nd <| nq (Q_assign rfl) rfl rfl <| WL_nil <| x_then <| C_ret ?_
  obtain rfl := Option.some.inj hF
  exact fn_ret (l := [.tmp 4]) (vs := [.bool false]) rfl rfl rfl ⟨false, rfl, rfl, H⟩
theorem c_62 {N : Nat} {C : Cx} {w : World} {ρ : View} {hs : List Hl} {x1 : Int} (H : Hp C w ρ (hs)) {gV : Nat → Value} (gle : GErrs ρ 137 errIds gV) {r : ByteArray} (hF : F_dofferref05_Spelled N x1 = some r) :
  Calls Tryd.prog 62 [.int .u8 x1, .string (⟨#[124, 42, 43, 63, 40, 41, 91, 93, 123, 125, 46, 92, 47]⟩ : ByteArray)].toArray w (Rets (fun v w' => (∃ (x21 : ByteArray), x21 = r ∧ .string x21 = v ∧ Hp C w' ρ (hs)))) := by
 unfold F_dofferref05_Spelled at hF
 have h0 : Tryd.f62.body = some _ := rfl
 refine fn_calls' Tryd.func62 h0 (n := 32) rfl (by simp) <| C_seq <| R_nd <| nq (Q_assign rfl) rfl rfl <| WL_nil <| x_then <| C_seq <| C_seq <| R_nd <| nq (Q_move rfl) rfl rfl <| nq (Q_eql rfl rfl) rfl rfl <| WL_nil <| x_then ?_
 refine C_cond rfl (fun hb => ?_) (fun hb => ?_)
 ·replace hF := itT hb hF
  refine C_seq <| R_nd <| nq (Q_assign rfl) rfl rfl <| WL_nil <| x_then <| C_ret <| x_then_ret ?_
  obtain rfl := Option.some.inj hF
  exact fn_ret (l := [.tmp 4]) (vs := [.string (⟨#[92, 110]⟩ : ByteArray)]) rfl rfl rfl ⟨(⟨#[92, 110]⟩ : ByteArray), rfl, rfl, H⟩
 ·replace hF := itF hb hF
  refine C_skip <| x_then <| C_seq <| C_seq <| R_nd <| nq (Q_move rfl) rfl rfl <| nq (Q_eql rfl rfl) rfl rfl <| WL_nil <| x_then ?_
  refine C_cond rfl (fun hb => ?_) (fun hb => ?_)
  ·replace hF := itT hb hF
   refine C_seq <| R_nd <| nq (Q_assign rfl) rfl rfl <| WL_nil <| x_then <| C_ret <| x_then_ret ?_
   obtain rfl := Option.some.inj hF
   exact fn_ret (l := [.tmp 4]) (vs := [.string (⟨#[92, 116]⟩ : ByteArray)]) rfl rfl rfl ⟨(⟨#[92, 116]⟩ : ByteArray), rfl, rfl, H⟩
  ·replace hF := itF hb hF
   refine C_skip <| x_then <| C_seq <| C_seq <| R_nd <| nq (Q_move rfl) rfl rfl <| nq (Q_eql rfl rfl) rfl rfl <| WL_nil <| x_then ?_
   refine C_cond rfl (fun hb => ?_) (fun hb => ?_)
   ·replace hF := itT hb hF
    refine C_seq <| R_nd <| nq (Q_assign rfl) rfl rfl <| WL_nil <| x_then <| C_ret <| x_then_ret ?_
    obtain rfl := Option.some.inj hF
    exact fn_ret (l := [.tmp 4]) (vs := [.string (⟨#[92, 114]⟩ : ByteArray)]) rfl rfl rfl ⟨(⟨#[92, 114]⟩ : ByteArray), rfl, rfl, H⟩
   ·replace hF := itF hb hF
    refine C_skip <| x_then <| C_seq <| C_seq <| R_nd <| nq (Q_move rfl) rfl rfl <| nq (Q_eql rfl rfl) rfl rfl <| WL_nil <| x_then ?_
    refine C_cond rfl (fun hb => ?_) (fun hb => ?_)
    ·replace hF := itT hb hF
     refine C_seq <| R_nd <| nq (Q_assign rfl) rfl rfl <| WL_nil <| x_then <| C_ret <| x_then_ret ?_
     obtain rfl := Option.some.inj hF
     exact fn_ret (l := [.tmp 4]) (vs := [.string (⟨#[92, 115]⟩ : ByteArray)]) rfl rfl rfl ⟨(⟨#[92, 115]⟩ : ByteArray), rfl, rfl, H⟩
    ·replace hF := itF hb hF
     refine C_skip <| x_then <| C_seq ?_
     obtain ⟨o23, ho23, hF⟩ := bnd hF
     refine C_cut (fun a w' => ∃ (x22 : Bool), x22 = o23 ∧ Fr 32 a [(0, .int .u8 x1), (1, .string (⟨#[124, 42, 43, 63, 40, 41, 91, 93, 123, 125, 46, 92, 47]⟩ : ByteArray)), (18, .bool x22)] ∧ Hp C w' ρ (hs)) ?_ ?_
     ·refine R_nd <| nq (Q_move rfl) rfl rfl <| nq (Q_lss rfl rfl) rfl rfl <| nq (Q_move rfl) rfl rfl ?_
      rcases Bool.eq_false_or_eq_true (decide (x1 < 33)) with hb | hb
      ·rw [hb]
       replace ho23 := itT hb ho23
       refine gs rfl rfl rfl rfl <| gs rfl rfl rfl rfl <| nq (Q_pickT rfl rfl) rfl rfl <| WL_nil ?_
       obtain rfl := Option.some.inj ho23
       refine x_A fun a hf => ⟨true, rfl, hf.sub ⟨rfl, rfl, rfl, trivial⟩, H⟩
      ·rw [hb]
       replace ho23 := itF hb ho23
       refine gq (Q_move rfl) rfl rfl rfl <| gq (Q_gtr rfl rfl) rfl rfl rfl <| nq (Q_pickF rfl rfl) rfl rfl <| WL_nil ?_
       obtain rfl := Option.some.inj ho23
       refine x_A fun a hf => ⟨decide (x1 > 126), rfl, hf.sub ⟨rfl, rfl, rfl, trivial⟩, H⟩
     ·rintro a wd24 ⟨x22, rfl, hf, H⟩
      try dsimp only at hF
      refine CW.at hf ?_
      refine C_cond rfl (fun hb => ?_) (fun hb => ?_)
      ·replace hF := itT hb hF
       refine C_seq <| R_nd <| nq (Q_move rfl) rfl rfl ?_
       obtain ⟨q25, hq25, hF⟩ := bnd hF
       refine ne (E_call fn71 rfl (c_71 H gle   hq25)) rfl rfl ?_
       rintro _ wd28 ⟨x27, rfl, rfl, H⟩
       try dsimp only at hF
       obtain ⟨x29, hx29, hF⟩ := bnd hF
       refine nq (Q_cat hx29 rfl rfl) rfl rfl <| nq (Q_assign rfl) rfl rfl <| WL_nil <| x_then <| C_ret <| x_then_ret ?_
       obtain rfl := Option.some.inj hF
       exact fn_ret (l := [.tmp 4]) (vs := [.string x29]) rfl rfl rfl ⟨x29, rfl, rfl, H⟩
      ·replace hF := itF hb hF
       refine C_skip <| x_then <| C_seq <| C_seq <| R_nd <| nq (Q_move rfl) rfl rfl <| nq (Q_move rfl) rfl rfl ?_
       obtain ⟨q30, hq30, hF⟩ := bnd hF
       refine ne (E_call fn72 rfl (c_72 H gle   hq30)) rfl rfl ?_
       rintro _ wd33 ⟨x32, rfl, rfl, H⟩
       try dsimp only at hF
       refine WL_nil <| x_then ?_
       refine C_cond rfl (fun hb => ?_) (fun hb => ?_)
       ·replace hF := itT hb hF
        refine C_seq <| R_nd <| nq (Q_move rfl) rfl rfl <| ne (E_bslice (xs := [.tmp 25]) (vs := [.int .u8 x1]) H Tryd.underlying34 ty5 (by decide) (cs := [.int .u8 x1]) rfl (sz_cons rfl sz_nil) rfl (by simp) (by simp) rfl rfl) rfl rfl ?_
        rintro _ wd35 ⟨b34, rfl, H⟩
        refine ne (E_bstrA (k := 0) H rfl (show rdL (eI .u8) ρ ([x1]) ([.int .u8 x1]) from ⟨([.int .u8 x1]), _, rfl, rfl, rdL.nil⟩) Tryd.underlying34 Tryd.underlying5 Tryd.underlying9 rfl) rfl rfl ?_
        rintro _ wd36 ⟨rfl, rfl⟩
        obtain ⟨x37, hx37, hF⟩ := bnd hF
        refine nq (Q_cat hx37 rfl rfl) rfl rfl <| nq (Q_assign rfl) rfl rfl <| WL_nil <| x_then <| C_ret <| x_then_ret ?_
        replace H := H.drop 0 rfl
        dsimp only [List.eraseIdx] at H
        obtain rfl := Option.some.inj hF
        exact fn_ret (l := [.tmp 4]) (vs := [.string x37]) rfl rfl rfl ⟨x37, rfl, rfl, H⟩
       ·replace hF := itF hb hF
        refine C_skip <| x_then <| C_seq <| R_nd <| nq (Q_move rfl) rfl rfl <| ne (E_bslice (xs := [.tmp 29]) (vs := [.int .u8 x1]) H Tryd.underlying34 ty5 (by decide) (cs := [.int .u8 x1]) rfl (sz_cons rfl sz_nil) rfl (by simp) (by simp) rfl rfl) rfl rfl ?_
        rintro _ wd39 ⟨b38, rfl, H⟩
        refine ne (E_bstrA (k := 0) H rfl (show rdL (eI .u8) ρ ([x1]) ([.int .u8 x1]) from ⟨([.int .u8 x1]), _, rfl, rfl, rdL.nil⟩) Tryd.underlying34 Tryd.underlying5 Tryd.underlying9 rfl) rfl rfl ?_
        rintro _ wd40 ⟨rfl, rfl⟩
        refine nq (Q_assign rfl) rfl rfl <| WL_nil <| x_then <| C_ret ?_
        replace H := H.drop 0 rfl
        dsimp only [List.eraseIdx] at H
        obtain rfl := Option.some.inj hF
        exact fn_ret (l := [.tmp 4]) (vs := [.string (bstr ([x1]))]) rfl rfl rfl ⟨bstr ([x1]), rfl, rfl, H⟩
theorem c_50 {N : Nat} {C : Cx} {w : World} {ρ : View} {hs : List Hl} {x1 : Int} (H : Hp C w ρ (hs)) {gV : Nat → Value} (gle : GErrs ρ 137 errIds gV) {r : ByteArray} (hF : F_dofferref05_Plain N x1 = some r) :
  Calls Tryd.prog 50 [.int .u8 x1].toArray w (Rets (fun v w' => (∃ (x6 : ByteArray), x6 = r ∧ .string x6 = v ∧ Hp C w' ρ (hs)))) := by
 unfold F_dofferref05_Plain at hF
 have h0 : Tryd.f50.body = some _ := rfl
 refine fn_calls' Tryd.func50 h0 (n := 5) rfl (by simp) <| C_seq <| R_nd <| nq (Q_assign rfl) rfl rfl <| WL_nil <| x_then <| C_seq <| R_nd <| nq (Q_move rfl) rfl rfl ?_
 obtain ⟨q7, hq7, hF⟩ := bnd hF
 refine ne (E_call fn62 rfl (c_62 H gle   hq7)) rfl rfl ?_
 rintro _ wd10 ⟨x9, rfl, rfl, H⟩
 try dsimp only at hF
 refine nq (Q_assign rfl) rfl rfl <| WL_nil <| x_then <| C_ret ?_
 obtain rfl := Option.some.inj hF
 exact fn_ret (l := [.tmp 2]) (vs := [.string x9]) rfl rfl rfl ⟨x9, rfl, rfl, H⟩
theorem c_38 {N : Nat} {C : Cx} {w : World} {ρ : View} {hs : List Hl} {v1 : Value} {x2 : (List Int)} (H : Hp C w ρ (hs)) {gV : Nat → Value} (gle : GErrs ρ 137 errIds gV) (r3 : RdSl ρ (eI .u8) v1 x2) {r : ByteArray} (hF : F_dofferref36_Spelled N x2 = some r) :
  Calls Tryd.prog 38 [v1].toArray w (Rets (fun v w' => (∃ (x99 : ByteArray), x99 = r ∧ .string x99 = v ∧ Hp C w' ρ (hs)))) := by
 unfold F_dofferref36_Spelled at hF
 have h0 : Tryd.f38.body = some _ := rfl
 refine fn_calls' Tryd.func38 h0 (n := 21) rfl (by simp) <| C_seq <| R_nd <| nq (Q_assign rfl) rfl rfl <| WL_nil <| x_then <| C_seq <| C_seq <| R_nd <| nq (Q_move rfl) rfl rfl <| nq (Q_len Tryd.underlying34 rfl r3) rfl rfl <| nq (Q_eql rfl rfl) rfl rfl <| WL_nil <| x_then ?_
 refine C_cond rfl (fun hb => ?_) (fun hb => ?_)
 ·replace hF := itT hb hF
  refine C_seq <| R_nd <| nq (Q_assign rfl) rfl rfl <| WL_nil <| x_then <| C_ret <| x_then_ret ?_
  obtain rfl := Option.some.inj hF
  exact fn_ret (l := [.tmp 2]) (vs := [.string (⟨#[46]⟩ : ByteArray)]) rfl rfl rfl ⟨(⟨#[46]⟩ : ByteArray), rfl, rfl, H⟩
 ·replace hF := itF hb hF
  refine C_skip <| x_then <| C_seq <| R_nd <| nq (Q_assign rfl) rfl rfl <| WL_nil <| x_then <| C_seq <| C_seq <| R_nd <| nq (Q_move rfl) rfl rfl <| nq (Q_len Tryd.underlying34 rfl r3) rfl rfl <| nq (Q_move rfl) rfl rfl <| WL_nil ?_
  refine x_then ?_
  obtain ⟨o147, ho147, hF⟩ := bnd hF
  refine C_cutQ (fun a w' => ∃ (x146 : ByteArray), x146 = o147 ∧ Fr 21 a [(3, .string x146)] ∧ Hp C w' ρ (hs)) ?_ ?_
  ·refine C_block ?_
   refine C_iter (f := fun s => F_dofferref36_Spelled_l0 N x2 s.1 s.2) ho147 (fun s a w' => ∃ (x162 : Int) (x163 : ByteArray), (x162, x163) = s ∧ Fr 21 a [(3, .string x163), (9, v1), (10, .int .i64 (x2.length : Int)), (11, .int .i64 x162)] ∧ Hp C w' ρ (hs)) ?_ ?_
   ·exact fun a hf => ⟨0, ByteArray.empty, rfl, hf.sub ⟨rfl, rfl, rfl, rfl, trivial⟩, H⟩
   ·rintro s o178 a wd181 ⟨x162, x163, rfl, hf, H⟩ hB179 hO180
    replace hB179 : F_dofferref36_Spelled_l0 N x2 x162 x163 = some o178 := hB179
    unfold F_dofferref36_Spelled_l0 at hB179
    refine CW.at hf <| C_seq <| R_nd <| nq (Q_lss rfl rfl) rfl rfl <| WL_nil <| x_then <| C_seq ?_
    refine C_cond rfl (fun hb => ?_) (fun hb => ?_)
    ·replace hB179 := itT hb hB179
     refine C_skip <| x_then <| C_seq <| C_block <| C_seq <| R_nd ?_
     obtain ⟨x182, hx182, hB179⟩ := bnd hB179
     obtain ⟨b183, o184, c185, hc186, ha187, hi188⟩ := idxR r3 hx182
     refine nq (Q_idx hi188 Tryd.underlying34 ty5 rfl rfl) rfl rfl <| nq (v := .int .u8 x182) (Q_ld (show cellsAt _ _ _ [.int .u8 x182] from (show _ = [_] from hc186) ▸ (ha187.up H.ok.view)) ty5 rfl (fun _ => rfl) rfl rfl) rfl rfl <| nq (Q_assign rfl) rfl rfl <| WL_nil <| x_then <| R_nd <| nq (Q_move rfl) rfl rfl <| nq (Q_move rfl) rfl rfl ?_
     obtain ⟨q189, hq189, hB179⟩ := bnd hB179
     refine ne (E_call fn50 rfl (c_50 H gle   hq189)) rfl rfl ?_
     rintro _ wd192 ⟨x191, rfl, rfl, H⟩
     try dsimp only at hB179
     obtain ⟨x193, hx193, hB179⟩ := bnd hB179
     refine nq (Q_cat hx193 rfl rfl) rfl rfl <| nq (Q_assign rfl) rfl rfl <| WL_nil <| x_block <| x_then <| R_nd <| nq (Q_add rfl rfl) rfl rfl <| nq (Q_move rfl) rfl rfl <| WL_nil ?_
     obtain rfl := Option.some.inj hB179
     refine x_A fun a hf => ⟨_, rfl, w64 (x162 + 1), x193, rfl, hf.sub ⟨rfl, rfl, rfl, rfl, trivial⟩, H⟩
    ·replace hB179 := itF hb hB179
     refine C_exit <| x_then_exit <| x_then_exit <| x_block_exit ?_
     obtain rfl := Option.some.inj hB179
     obtain rfl := hO180 _ rfl
     refine x_A fun a hf => ⟨x163, rfl, hf.sub ⟨rfl, trivial⟩, H⟩
  ·rintro a wd194 ⟨x146, rfl, hf, H⟩
   try dsimp only at hF
   refine XX.at hf <| x_then <| C_seq <| R_nd <| nq (Q_move rfl) rfl rfl <| nq (Q_assign rfl) rfl rfl <| WL_nil <| x_then <| C_ret ?_
   obtain rfl := Option.some.inj hF
   exact fn_ret (l := [.tmp 2]) (vs := [.string x146]) rfl rfl rfl ⟨x146, rfl, rfl, H⟩
theorem c_15_1 {N : Nat} {C : Cx} {w : World} {ρ : View} {hs : List Hl} {v4 : Value} {v10 : Value} {x1 : Int} {x2 : Int} {x3 : Int} {x5 : (List Int)} {x7 : Int} {x8 : Int} {x9 : Int} {x11 : (List Int)} (H : Hp C w ρ (hs)) {gV : Nat → Value} (_gle : GErrs ρ 137 errIds gV) (r6 : RdSl ρ (eI .u8) v4 x5) (r12 : RdSl ρ (eI .u8) v10 x11) {r : Bool} (hF : F_dofferref36_Same_1 N x1 x2 x3 x5 x7 x8 x9 x11 = some r) :
  Calls Tryd.prog 15 [.agg #[.int .i64 x1, .int .i64 x2, .int .i64 x3, v4], .agg #[.int .i64 x7, .int .i64 x8, .int .i64 x9, v10]].toArray w (Rets (fun v w' => (∃ (x24 : Bool), x24 = r ∧ .bool x24 = v ∧ Hp C w' ρ (hs)))) := by
 unfold F_dofferref36_Same_1 at hF
 have h0 : Tryd.f15.body = some _ := rfl
 refine fn_calls' Tryd.func15 h0 (n := 33) rfl (by simp) <| C_seq <| R_nd <| ne (E_box H (vs := [.int .i64 x1, .int .i64 x2, .int .i64 x3, v4]) rfl rfl) rfl rfl ?_
 rintro _ wd26 ⟨b25, rfl, H⟩
 refine ne (E_box H (vs := [.int .i64 x7, .int .i64 x8, .int .i64 x9, v10]) rfl rfl) rfl rfl ?_
 rintro _ wd28 ⟨b27, rfl, H⟩
 refine nq (Q_assign rfl) rfl rfl <| WL_nil <| x_then ?_
 obtain ⟨o32, ho32, hF⟩ := bnd hF
 refine C_cut (fun a w' => ∃ (x31 : Bool), x31 = o32 ∧ Fr 33 a [(4, .bool x31)] ∧ Hp C w' ρ (hs)) ?_ ?_
 ·refine R_nd <| nq (v := .pointer (some ⟨b25, 0, none⟩)) (Q_fld Tryd.underlying36 rfl ty3 (by decide) rfl rfl) rfl rfl <| nq (v := .int .i64 x1) (Q_ldB (k := 1) (cs := [.int .i64 x1]) H.ok rfl ty3 rfl rfl rfl (fun _ => rfl) rfl) rfl rfl <| nq (v := .pointer (some ⟨b27, 0, none⟩)) (Q_fld Tryd.underlying36 rfl ty3 (by decide) rfl rfl) rfl rfl <| nq (v := .int .i64 x7) (Q_ldB (k := 0) (cs := [.int .i64 x7]) H.ok rfl ty3 rfl rfl rfl (fun _ => rfl) rfl) rfl rfl <| nq (Q_eql rfl rfl) rfl rfl <| nq (Q_move rfl) rfl rfl ?_
  rcases Bool.eq_false_or_eq_true (x1 == x7) with hb | hb
  ·rw [hb]
   replace ho32 := itT hb ho32
   refine gq (v := .pointer (some ⟨b25, 1, none⟩)) (Q_fld Tryd.underlying36 rfl ty3 (by decide) rfl rfl) rfl rfl rfl <| gq (v := .int .i64 x2) (Q_ldB (k := 1) (cs := [.int .i64 x2]) H.ok rfl ty3 rfl rfl rfl (fun _ => rfl) rfl) rfl rfl rfl <| gq (v := .pointer (some ⟨b27, 1, none⟩)) (Q_fld Tryd.underlying36 rfl ty3 (by decide) rfl rfl) rfl rfl rfl <| gq (v := .int .i64 x8) (Q_ldB (k := 0) (cs := [.int .i64 x8]) H.ok rfl ty3 rfl rfl rfl (fun _ => rfl) rfl) rfl rfl rfl <| gq (Q_eql rfl rfl) rfl rfl rfl <| nq (Q_pickT rfl rfl) rfl rfl <| nq (Q_move rfl) rfl rfl ?_
   rcases Bool.eq_false_or_eq_true (x2 == x8) with hb | hb
   ·rw [hb]
    replace ho32 := itT hb ho32
    refine gq (v := .pointer (some ⟨b25, 2, none⟩)) (Q_fld Tryd.underlying36 rfl ty3 (by decide) rfl rfl) rfl rfl rfl <| gq (v := .int .i64 x3) (Q_ldB (k := 1) (cs := [.int .i64 x3]) H.ok rfl ty3 rfl rfl rfl (fun _ => rfl) rfl) rfl rfl rfl <| gq (v := .pointer (some ⟨b27, 2, none⟩)) (Q_fld Tryd.underlying36 rfl ty3 (by decide) rfl rfl) rfl rfl rfl <| gq (v := .int .i64 x9) (Q_ldB (k := 0) (cs := [.int .i64 x9]) H.ok rfl ty3 rfl rfl rfl (fun _ => rfl) rfl) rfl rfl rfl <| gq (Q_eql rfl rfl) rfl rfl rfl <| nq (Q_pickT rfl rfl) rfl rfl <| nq (Q_move rfl) rfl rfl ?_
    rcases Bool.eq_false_or_eq_true (x3 == x9) with hb | hb
    ·rw [hb]
     replace ho32 := itT hb ho32
     refine gq (v := .pointer (some ⟨b25, 3, none⟩)) (Q_fld Tryd.underlying36 rfl ty34 (by decide) rfl rfl) rfl rfl rfl <| gq (v := v4) (Q_ldB (k := 1) (cs := [v4]) H.ok rfl ty34 rfl rfl rfl (fun _ => rfl) rfl) rfl rfl rfl <| ge (E_bstrR H Tryd.underlying34 Tryd.underlying5 Tryd.underlying9 rfl r6) rfl rfl rfl ?_
     rintro _ wd33 ⟨rfl, rfl⟩
     refine gq (v := .pointer (some ⟨b27, 3, none⟩)) (Q_fld Tryd.underlying36 rfl ty34 (by decide) rfl rfl) rfl rfl rfl <| gq (v := v10) (Q_ldB (k := 0) (cs := [v10]) H.ok rfl ty34 rfl rfl rfl (fun _ => rfl) rfl) rfl rfl rfl <| ge (E_bstrR H Tryd.underlying34 Tryd.underlying5 Tryd.underlying9 rfl r12) rfl rfl rfl ?_
     rintro _ wd34 ⟨rfl, rfl⟩
     refine gq (v := .bool ((bstr x5).toList == (bstr x11).toList)) (Q_eqlStr Tryd.underlying9 rfl rfl) rfl rfl rfl <| nq (Q_pickT rfl rfl) rfl rfl <| nq (Q_assign rfl) rfl rfl <| WL_nil ?_
     replace H := H.drop 0 rfl
     dsimp only [List.eraseIdx] at H
     replace H := H.drop 0 rfl
     dsimp only [List.eraseIdx] at H
     obtain rfl := Option.some.inj ho32
     refine x_A fun a hf => ⟨(bstr x5).toList == (bstr x11).toList, rfl, hf.sub ⟨rfl, trivial⟩, H⟩
    ·rw [hb]
     replace ho32 := itF hb ho32
     refine gs rfl rfl rfl rfl <| gs rfl rfl rfl rfl <| gs rfl rfl rfl rfl <| gs rfl rfl rfl rfl <| gs rfl rfl rfl rfl <| gs rfl rfl rfl rfl <| gs rfl rfl rfl rfl <| nq (Q_pickF rfl rfl) rfl rfl <| nq (Q_assign rfl) rfl rfl <| WL_nil ?_
     replace H := H.drop 0 rfl
     dsimp only [List.eraseIdx] at H
     replace H := H.drop 0 rfl
     dsimp only [List.eraseIdx] at H
     obtain rfl := Option.some.inj ho32
     refine x_A fun a hf => ⟨false, rfl, hf.sub ⟨rfl, trivial⟩, H⟩
   ·rw [hb]
    replace ho32 := itF hb ho32
    refine gs rfl rfl rfl rfl <| gs rfl rfl rfl rfl <| gs rfl rfl rfl rfl <| gs rfl rfl rfl rfl <| gs rfl rfl rfl rfl <| nq (Q_pickF rfl rfl) rfl rfl <| nq (Q_move rfl) rfl rfl <| gs rfl rfl rfl rfl <| gs rfl rfl rfl rfl <| gs rfl rfl rfl rfl <| gs rfl rfl rfl rfl <| gs rfl rfl rfl rfl <| gs rfl rfl rfl rfl <| gs rfl rfl rfl rfl ?_
    refine nq (Q_pickF rfl rfl) rfl rfl <| nq (Q_assign rfl) rfl rfl <| WL_nil ?_
    replace H := H.drop 0 rfl
    dsimp only [List.eraseIdx] at H
    replace H := H.drop 0 rfl
    dsimp only [List.eraseIdx] at H
    obtain rfl := Option.some.inj ho32
    refine x_A fun a hf => ⟨false, rfl, hf.sub ⟨rfl, trivial⟩, H⟩
  ·rw [hb]
   replace ho32 := itF hb ho32
   refine gs rfl rfl rfl rfl <| gs rfl rfl rfl rfl <| gs rfl rfl rfl rfl <| gs rfl rfl rfl rfl <| gs rfl rfl rfl rfl <| nq (Q_pickF rfl rfl) rfl rfl <| nq (Q_move rfl) rfl rfl <| gs rfl rfl rfl rfl <| gs rfl rfl rfl rfl <| gs rfl rfl rfl rfl <| gs rfl rfl rfl rfl <| gs rfl rfl rfl rfl <| nq (Q_pickF rfl rfl) rfl rfl <| nq (Q_move rfl) rfl rfl ?_
   refine gs rfl rfl rfl rfl <| gs rfl rfl rfl rfl <| gs rfl rfl rfl rfl <| gs rfl rfl rfl rfl <| gs rfl rfl rfl rfl <| gs rfl rfl rfl rfl <| gs rfl rfl rfl rfl <| nq (Q_pickF rfl rfl) rfl rfl <| nq (Q_assign rfl) rfl rfl <| WL_nil ?_
   replace H := H.drop 0 rfl
   dsimp only [List.eraseIdx] at H
   replace H := H.drop 0 rfl
   dsimp only [List.eraseIdx] at H
   obtain rfl := Option.some.inj ho32
   refine x_A fun a hf => ⟨false, rfl, hf.sub ⟨rfl, trivial⟩, H⟩
 ·rintro a wd35 ⟨x31, rfl, hf, H⟩
  try dsimp only at hF
  refine CW.at hf <| C_ret ?_
  obtain rfl := Option.some.inj hF
  exact fn_ret (l := [.tmp 4]) (vs := [.bool x31]) rfl rfl rfl ⟨x31, rfl, rfl, H⟩
theorem c_18 {N : Nat} {C : Cx} {w : World} {ρ : View} {hs : List Hl} {v4 : Value} {x1 : Int} {x2 : Int} {x3 : Int} {x5 : (List Int)} (H : Hp C w ρ (hs)) {gV : Nat → Value} (gle : GErrs ρ 137 errIds gV) (r6 : RdSl ρ (eI .u8) v4 x5) {r : (ByteArray × Int)} (hF : F_dofferref36_Text N x1 x2 x3 x5 = some r) :
  Calls Tryd.prog 18 [.agg #[.int .i64 x1, .int .i64 x2, .int .i64 x3, v4]].toArray w (Rets (fun v w' => (∃ (x1784 : ByteArray) (x1785 : Int), (x1784, x1785) = r ∧ .tuple [.string x1784, .int .i64 x1785].toArray = v ∧ Hp C w' ρ (hs)))) := by
 unfold F_dofferref36_Text at hF
 have h0 : Tryd.f18.body = some _ := rfl
 refine fn_calls' Tryd.func18 h0 (n := 62) rfl (by simp) <| C_seq <| R_nd <| ne (E_box H (vs := [.int .i64 x1, .int .i64 x2, .int .i64 x3, v4]) rfl rfl) rfl rfl ?_
 rintro _ wd1787 ⟨b1786, rfl, H⟩
 refine nq (Q_assign rfl) rfl rfl <| nq (Q_assign rfl) rfl rfl <| WL_nil <| x_then <| C_seq <| R_nd <| nq (v := .pointer (some ⟨b1786, 0, none⟩)) (Q_fld Tryd.underlying36 rfl ty3 (by decide) rfl rfl) rfl rfl <| nq (v := .int .i64 x1) (Q_ldB (k := 0) (cs := [.int .i64 x1]) H.ok rfl ty3 rfl rfl rfl (fun _ => rfl) rfl) rfl rfl ?_
 obtain ⟨q1788, hq1788, hF⟩ := bnd hF
 refine ne (E_call fn26 rfl (c_26_1 H gle   hq1788)) rfl rfl ?_
 rintro _ wd1792 ⟨x1790, x1791, rfl, rfl, H⟩
 try dsimp only at hF
 refine nq (Q_move rfl) rfl rfl <| nq (Q_extract rfl rfl) rfl rfl <| nq (Q_extract rfl rfl) rfl rfl <| nq (Q_assign rfl) rfl rfl <| nq (Q_assign rfl) rfl rfl <| WL_nil <| x_then <| C_seq <| C_seq <| R_nd <| nq (Q_move rfl) rfl rfl <| nq (v := .bool (x1790.toList == ByteArray.empty.toList)) (Q_eqlStr Tryd.underlying9 rfl rfl) rfl rfl <| WL_nil <| x_then ?_
 refine C_cond rfl (fun hb => ?_) (fun hb => ?_)
 ·replace hF := itT hb hF
  refine C_seq <| R_nd <| nq (Q_assign rfl) rfl rfl <| nq (Q_assign rfl) rfl rfl <| WL_nil <| x_then <| C_ret <| x_then_ret ?_
  replace H := H.drop 0 rfl
  dsimp only [List.eraseIdx] at H
  obtain rfl := Option.some.inj hF
  exact fn_ret (l := [.tmp 2, .tmp 3]) (vs := [.string ByteArray.empty, .int .i64 1]) rfl rfl rfl ⟨ByteArray.empty, 1, rfl, rfl, H⟩
 ·replace hF := itF hb hF
  refine C_skip <| x_then <| C_seq <| C_seq <| R_nd <| nq (Q_assign rfl) rfl rfl <| WL_nil <| x_then ?_
  obtain ⟨o2665, ho2665, hF⟩ := bnd hF
  refine C_cutQ (fun a w' => ∃ (x2664 : ByteArray), x2664 = o2665 ∧ Fr 62 a [(1, .pointer (some ⟨b1786, 0, none⟩)), (4, .string x2664)] ∧ Hp C w' ρ (Box b1786 [.int .i64 x1, .int .i64 x2, .int .i64 x3, v4] :: hs)) ?_ ?_
  ·refine C_block ?_
   refine C_iter (f := fun s => F_dofferref36_Text_l0 N x2 x3 x5 x1791 s.1 s.2) ho2665 (fun s a w' => ∃ (x2955 : ByteArray) (x2956 : Int), (x2955, x2956) = s ∧ Fr 62 a [(1, .pointer (some ⟨b1786, 0, none⟩)), (4, .string x2955), (5, .string x1791), (6, .int .i64 x2956)] ∧ Hp C w' ρ (Box b1786 [.int .i64 x1, .int .i64 x2, .int .i64 x3, v4] :: hs)) ?_ ?_
   ·exact fun a hf => ⟨x1790, 0, rfl, hf.sub ⟨rfl, rfl, rfl, rfl, trivial⟩, H⟩
   ·rintro s o3246 a wd3249 ⟨x2955, x2956, rfl, hf, H⟩ hB3247 hO3248
    replace hB3247 : F_dofferref36_Text_l0 N x2 x3 x5 x1791 x2955 x2956 = some o3246 := hB3247
    unfold F_dofferref36_Text_l0 at hB3247
    refine CW.at hf <| C_seq <| C_seq <| R_nd <| nq (Q_move rfl) rfl rfl <| nq (Q_move rfl) rfl rfl <| nq (Q_lenStr Tryd.underlying9 rfl) rfl rfl <| nq (Q_lss rfl rfl) rfl rfl <| WL_nil <| x_then ?_
    refine C_cond rfl (fun hb => ?_) (fun hb => ?_)
    ·replace hB3247 := itT hb hB3247
     refine C_skip <| x_then ?_
     obtain ⟨o3393, ho3393, hB3247⟩ := bnd hB3247
     refine C_cut (fun a w' => ∃ (x3392 : ByteArray), x3392 = o3393 ∧ Fr 62 a [(1, .pointer (some ⟨b1786, 0, none⟩)), (4, .string x3392), (5, .string x1791), (6, .int .i64 x2956)] ∧ Hp C w' ρ (Box b1786 [.int .i64 x1, .int .i64 x2, .int .i64 x3, v4] :: hs)) ?_ ?_
     ·refine C_block <| C_seq <| R_nd <| nq (Q_move rfl) rfl rfl <| nq (Q_move rfl) rfl rfl ?_
      obtain ⟨x3394, hx3394, ho3393⟩ := bnd ho3393
      refine nq (Q_ixS hx3394 Tryd.underlying9 rfl rfl) rfl rfl <| WL_nil <| x_then ?_
      obtain ⟨o3465, ho3465, ho3393⟩ := bnd ho3393
      refine C_cutQ (fun a w' => ∃ (x3464 : ByteArray), x3464 = o3465 ∧ Fr 62 a [(1, .pointer (some ⟨b1786, 0, none⟩)), (4, .string x3464), (5, .string x1791), (6, .int .i64 x2956)] ∧ Hp C w' ρ (Box b1786 [.int .i64 x1, .int .i64 x2, .int .i64 x3, v4] :: hs)) ?_ ?_
      ·refine C_block <| C_seq <| R_nd <| nq (Q_eql rfl rfl) rfl rfl <| nq (Q_assign rfl) rfl rfl <| WL_nil <| x_then ?_
       obtain ⟨o3500, ho3500, ho3465⟩ := bnd ho3465
       refine C_cutQ (fun a w' => ∃ (x3499 : ByteArray), x3499 = o3500 ∧ Fr 62 a [(1, .pointer (some ⟨b1786, 0, none⟩)), (4, .string x3499), (5, .string x1791), (6, .int .i64 x2956)] ∧ Hp C w' ρ (Box b1786 [.int .i64 x1, .int .i64 x2, .int .i64 x3, v4] :: hs)) ?_ ?_
       ·refine C_cond rfl (fun hb => ?_) (fun hb => ?_)
        ·replace ho3500 := itT hb ho3500
         refine R_nd <| nq (Q_move rfl) rfl rfl <| nq (v := .pointer (some ⟨b1786, 1, none⟩)) (Q_fld Tryd.underlying36 rfl ty3 (by decide) rfl rfl) rfl rfl <| nq (v := .int .i64 x2) (Q_ldB (k := 0) (cs := [.int .i64 x2]) H.ok rfl ty3 rfl rfl rfl (fun _ => rfl) rfl) rfl rfl ?_
         obtain ⟨q3501, hq3501, ho3500⟩ := bnd ho3500
         refine ne (E_call fn11 rfl (c_11 _ H gle   hq3501)) rfl rfl ?_
         rintro _ wd3504 ⟨x3503, rfl, rfl, H⟩
         try dsimp only at ho3500
         obtain ⟨x3505, hx3505, ho3500⟩ := bnd ho3500
         refine nq (Q_cat hx3505 rfl rfl) rfl rfl ?_
         obtain ⟨x3506, hx3506, ho3500⟩ := bnd ho3500
         refine nq (Q_cat hx3506 rfl rfl) rfl rfl <| nq (Q_assign rfl) rfl rfl <| WL_nil ?_
         obtain rfl := Option.some.inj ho3500
         refine x_A fun a hf => ⟨x3506, rfl, hf.sub ⟨rfl, rfl, rfl, rfl, trivial⟩, H⟩
        ·replace ho3500 := itF hb ho3500
         refine C_seq <| R_nd <| nq (Q_eql rfl rfl) rfl rfl <| nq (Q_assign rfl) rfl rfl <| WL_nil <| x_then ?_
         obtain ⟨o3520, ho3520, ho3500⟩ := bnd ho3500
         refine C_cutQ (fun a w' => ∃ (x3519 : ByteArray), x3519 = o3520 ∧ Fr 62 a [(1, .pointer (some ⟨b1786, 0, none⟩)), (4, .string x3519), (5, .string x1791), (6, .int .i64 x2956)] ∧ Hp C w' ρ (Box b1786 [.int .i64 x1, .int .i64 x2, .int .i64 x3, v4] :: hs)) ?_ ?_
         ·refine C_cond rfl (fun hb => ?_) (fun hb => ?_)
          ·replace ho3520 := itT hb ho3520
           refine R_nd <| nq (Q_move rfl) rfl rfl <| nq (v := .pointer (some ⟨b1786, 2, none⟩)) (Q_fld Tryd.underlying36 rfl ty3 (by decide) rfl rfl) rfl rfl <| nq (v := .int .i64 x3) (Q_ldB (k := 0) (cs := [.int .i64 x3]) H.ok rfl ty3 rfl rfl rfl (fun _ => rfl) rfl) rfl rfl ?_
           obtain ⟨q3521, hq3521, ho3520⟩ := bnd ho3520
           refine ne (E_call fn11 rfl (c_11 _ H gle   hq3521)) rfl rfl ?_
           rintro _ wd3524 ⟨x3523, rfl, rfl, H⟩
           try dsimp only at ho3520
           obtain ⟨x3525, hx3525, ho3520⟩ := bnd ho3520
           refine nq (Q_cat hx3525 rfl rfl) rfl rfl ?_
           obtain ⟨x3526, hx3526, ho3520⟩ := bnd ho3520
           refine nq (Q_cat hx3526 rfl rfl) rfl rfl <| nq (Q_assign rfl) rfl rfl <| WL_nil ?_
           obtain rfl := Option.some.inj ho3520
           refine x_A fun a hf => ⟨x3526, rfl, hf.sub ⟨rfl, rfl, rfl, rfl, trivial⟩, H⟩
          ·replace ho3520 := itF hb ho3520
           refine R_nd <| nq (Q_move rfl) rfl rfl <| nq (v := .pointer (some ⟨b1786, 3, none⟩)) (Q_fld Tryd.underlying36 rfl ty34 (by decide) rfl rfl) rfl rfl <| nq (v := v4) (Q_ldB (k := 0) (cs := [v4]) H.ok rfl ty34 rfl rfl rfl (fun _ => rfl) rfl) rfl rfl ?_
           obtain ⟨q3527, hq3527, ho3520⟩ := bnd ho3520
           refine ne (E_call fn38 rfl (c_38 H gle  r6 hq3527)) rfl rfl ?_
           rintro _ wd3530 ⟨x3529, rfl, rfl, H⟩
           try dsimp only at ho3520
           obtain ⟨x3531, hx3531, ho3520⟩ := bnd ho3520
           refine nq (Q_cat hx3531 rfl rfl) rfl rfl ?_
           obtain ⟨x3532, hx3532, ho3520⟩ := bnd ho3520
           refine nq (Q_cat hx3532 rfl rfl) rfl rfl <| nq (Q_assign rfl) rfl rfl <| WL_nil ?_
           obtain rfl := Option.some.inj ho3520
           refine x_A fun a hf => ⟨x3532, rfl, hf.sub ⟨rfl, rfl, rfl, rfl, trivial⟩, H⟩
         ·rintro a wd3533 ⟨x3519, rfl, hf, H⟩
          try dsimp only at ho3500
          refine XX.at hf ?_
          obtain rfl := Option.some.inj ho3500
          refine x_A fun a hf => ⟨x3519, rfl, hf.sub ⟨rfl, rfl, rfl, rfl, trivial⟩, H⟩
       ·rintro a wd3534 ⟨x3499, rfl, hf, H⟩
        try dsimp only at ho3465
        refine XX.at hf <| x_block ?_
        obtain rfl := Option.some.inj ho3465
        refine x_A fun a hf => ⟨x3499, rfl, hf.sub ⟨rfl, rfl, rfl, rfl, trivial⟩, H⟩
      ·rintro a wd3535 ⟨x3464, rfl, hf, H⟩
       try dsimp only at ho3393
       refine XX.at hf <| x_block ?_
       obtain rfl := Option.some.inj ho3393
       refine x_A fun a hf => ⟨x3464, rfl, hf.sub ⟨rfl, rfl, rfl, rfl, trivial⟩, H⟩
     ·rintro a wd3536 ⟨x3392, rfl, hf, H⟩
      try dsimp only at hB3247
      refine CW.at hf <| R_nd <| nq (Q_move rfl) rfl rfl <| nq (Q_add rfl rfl) rfl rfl <| nq (Q_assign rfl) rfl rfl <| WL_nil ?_
      obtain rfl := Option.some.inj hB3247
      refine x_A fun a hf => ⟨_, rfl, x3392, w64 (x2956 + 1), rfl, hf.sub ⟨rfl, rfl, rfl, rfl, trivial⟩, H⟩
    ·replace hB3247 := itF hb hB3247
     refine C_exit <| x_then_exit <| x_then_exit <| x_block_exit ?_
     obtain rfl := Option.some.inj hB3247
     obtain rfl := hO3248 _ rfl
     refine x_A fun a hf => ⟨x2955, rfl, hf.sub ⟨rfl, rfl, trivial⟩, H⟩
  ·rintro a wd3537 ⟨x2664, rfl, hf, H⟩
   try dsimp only at hF
   refine XX.at hf <| x_then <| C_seq <| R_nd <| nq (Q_move rfl) rfl rfl ?_
   obtain ⟨q3538, hq3538, hF⟩ := bnd hF
   refine ne (E_call fn13 rfl (c_13 H gle   hq3538)) rfl rfl ?_
   rintro _ wd3548 ⟨v3540, c3541, x3542, x3543, x3544, x3545, x3546, rfl, rfl, r3547, H⟩
   try dsimp only at hF
   refine nq (Q_move rfl) rfl rfl <| nq (Q_extract rfl rfl) rfl rfl <| nq (Q_extract rfl rfl) rfl rfl <| ne (E_alloc H ty36 (zs := [.int .i64 0, .int .i64 0, .int .i64 0, .slice none 0 0]) rfl) rfl rfl ?_
   rintro _ wd3550 ⟨b3549, rfl, H⟩
   refine ne (E_stB (k := 0) (cs := [.int .i64 x3542, .int .i64 x3543, .int .i64 x3544, v3540]) (vs' := [.int .i64 x3542, .int .i64 x3543, .int .i64 x3544, v3540]) H rfl ty36 rfl rfl rfl rfl (one_cons rfl (one_cons rfl (one_cons rfl (one_cons (arr_cells (H.ok.get (k := 1) rfl)).2 one_nil)))) (by simp) rfl) rfl rfl ?_
   rintro _ wd3551 H
   dsimp only [List.set] at H
   refine nq (Q_assign rfl) rfl rfl <| WL_nil <| x_then <| C_seq ?_
   obtain ⟨o3557, ho3557, hF⟩ := bnd hF
   refine C_cut (fun a w' => ∃ (x3556 : Bool), x3556 = o3557 ∧ Fr 62 a [(4, .string x2664), (60, .bool x3556)] ∧ Hp C w' ρ (hs)) ?_ ?_
   ·refine R_nd <| nq (Q_move rfl) rfl rfl <| nq (Q_neq rfl rfl) rfl rfl <| nq (Q_move rfl) rfl rfl ?_
    rcases Bool.eq_false_or_eq_true (x3546 != 0) with hb | hb
    ·rw [hb]
     replace ho3557 := itT hb ho3557
     refine gs rfl rfl rfl rfl <| gs rfl rfl rfl rfl <| gs rfl rfl rfl rfl <| gs rfl rfl rfl rfl <| nq (Q_pickT rfl rfl) rfl rfl <| WL_nil ?_
     replace H := H.drop 0 rfl
     dsimp only [List.eraseIdx] at H
     replace H := H.drop 0 rfl
     dsimp only [List.eraseIdx] at H
     replace H := H.drop 0 rfl
     dsimp only [List.eraseIdx] at H
     obtain rfl := Option.some.inj ho3557
     refine x_A fun a hf => ⟨true, rfl, hf.sub ⟨rfl, rfl, trivial⟩, H⟩
    ·rw [hb]
     replace ho3557 := itF hb ho3557
     refine gq (v := .agg #[.int .i64 x3542, .int .i64 x3543, .int .i64 x3544, v3540]) (Q_ldB (k := 0) (cs := [.int .i64 x3542, .int .i64 x3543, .int .i64 x3544, v3540]) H.ok rfl ty36 rfl rfl rfl (fun h => nomatch h) rfl) rfl rfl rfl <| gq (v := .agg #[.int .i64 x1, .int .i64 x2, .int .i64 x3, v4]) (Q_ldB (k := 2) (cs := [.int .i64 x1, .int .i64 x2, .int .i64 x3, v4]) H.ok rfl ty36 rfl rfl rfl (fun h => nomatch h) rfl) rfl rfl rfl ?_
     replace H := H.f1
     obtain ⟨q3558, hq3558, ho3557⟩ := bnd ho3557
     obtain ⟨C', ρ', hl3559, HA, hL, hback⟩ := Hp.lend (A := []) (L := [Arr v3540 1 c3541]) (F := Box b3549 [.int .i64 x3542, .int .i64 x3543, .int .i64 x3544, v3540] :: Box b1786 [.int .i64 x1, .int .i64 x2, .int .i64 x3, v4] :: hs) H
     refine ge (E_call fn15 rfl (c_15_1 HA (gle.up hl3559)  (arr_rd (by decide) hl3559 (hL (Arr v3540 1 c3541) (by simp)) r3547) (r6.up hl3559) hq3558)) rfl rfl rfl ?_
     rintro _ wd3561 ⟨x3560, rfl, rfl, H⟩
     try dsimp only at ho3557
     replace H := hback H
     dsimp only [List.cons_append, List.nil_append] at H
     refine gq (Q_not rfl) rfl rfl rfl <| nq (Q_pickF rfl rfl) rfl rfl <| WL_nil ?_
     replace H := H.drop 0 rfl
     dsimp only [List.eraseIdx] at H
     replace H := H.drop 0 rfl
     dsimp only [List.eraseIdx] at H
     replace H := H.drop 0 rfl
     dsimp only [List.eraseIdx] at H
     obtain rfl := Option.some.inj ho3557
     refine x_A fun a hf => ⟨!x3560, rfl, hf.sub ⟨rfl, rfl, trivial⟩, H⟩
   ·rintro a wd3562 ⟨x3556, rfl, hf, H⟩
    try dsimp only at hF
    refine CW.at hf ?_
    refine C_cond rfl (fun hb => ?_) (fun hb => ?_)
    ·replace hF := itT hb hF
     refine C_seq <| R_nd <| nq (Q_assign rfl) rfl rfl <| nq (Q_assign rfl) rfl rfl <| WL_nil <| x_then <| C_ret <| x_then_ret ?_
     obtain rfl := Option.some.inj hF
     exact fn_ret (l := [.tmp 2, .tmp 3]) (vs := [.string ByteArray.empty, .int .i64 4]) rfl rfl rfl ⟨ByteArray.empty, 4, rfl, rfl, H⟩
    ·replace hF := itF hb hF
     refine C_skip <| x_then <| C_seq <| R_nd <| nq (Q_move rfl) rfl rfl <| nq (Q_assign rfl) rfl rfl <| nq (Q_assign rfl) rfl rfl <| WL_nil <| x_then <| C_ret ?_
     obtain rfl := Option.some.inj hF
     exact fn_ret (l := [.tmp 2, .tmp 3]) (vs := [.string x2664, .int .i64 0]) rfl rfl rfl ⟨x2664, 0, rfl, rfl, H⟩
theorem c_19 {N : Nat} {C : Cx} {w : World} {ρ : View} {hs : List Hl} {v5 : Value} {x1 : Int} {x2 : ByteArray} {x3 : ByteArray} {x4 : Int} {x6 : (List Int)} (H : Hp C w ρ (hs)) {gV : Nat → Value} (gle : GErrs ρ 137 errIds gV) (r7 : RdSl ρ (eI .u8) v5 x6) {r : ByteArray} (hF : F_script_Told N x1 x2 x3 x4 x6 = some r) :
  Calls Tryd.prog 19 [.agg #[.int .i64 x1, .string x2, .string x3, .int .i64 x4, v5]].toArray w (Rets (fun v w' => (∃ (x29 : ByteArray), x29 = r ∧ .string x29 = v ∧ Hp C w' ρ (hs)))) := by
 unfold F_script_Told at hF
 have h0 : Tryd.f19.body = some _ := rfl
 refine fn_calls' Tryd.func19 h0 (n := 22) rfl (by simp) <| C_seq <| R_nd <| ne (E_box H (vs := [.int .i64 x1, .string x2, .string x3, .int .i64 x4, v5]) rfl rfl) rfl rfl ?_
 rintro _ wd31 ⟨b30, rfl, H⟩
 refine nq (Q_assign rfl) rfl rfl <| WL_nil <| x_then <| C_seq <| R_nd <| nq (v := .pointer (some ⟨b30, 1, none⟩)) (Q_fld Tryd.underlying51 rfl ty9 (by decide) rfl rfl) rfl rfl <| nq (v := .string x2) (Q_ldB (k := 0) (cs := [.string x2]) H.ok rfl ty9 rfl rfl rfl (fun _ => rfl) rfl) rfl rfl <| nq (Q_assign rfl) rfl rfl <| WL_nil <| x_then <| C_seq <| C_seq <| R_nd <| nq (Q_move rfl) rfl rfl ?_
 refine nq (v := .bool (x2.toList == ByteArray.empty.toList)) (Q_eqlStr Tryd.underlying9 rfl rfl) rfl rfl <| WL_nil <| x_then ?_
 obtain ⟨o33, ho33, hF⟩ := bnd hF
 refine C_cutQ (fun a w' => ∃ (x32 : ByteArray), x32 = o33 ∧ Fr 22 a [(1, .pointer (some ⟨b30, 0, none⟩)), (3, .string x32)] ∧ Hp C w' ρ (Box b30 [.int .i64 x1, .string x2, .string x3, .int .i64 x4, v5] :: hs)) ?_ ?_
 ·refine C_cond rfl (fun hb => ?_) (fun hb => ?_)
  ·replace ho33 := itT hb ho33
   refine R_nd <| nq (Q_assign rfl) rfl rfl <| WL_nil ?_
   obtain rfl := Option.some.inj ho33
   refine x_A fun a hf => ⟨(⟨#[46]⟩ : ByteArray), rfl, hf.sub ⟨rfl, rfl, trivial⟩, H⟩
  ·replace ho33 := itF hb ho33
   refine C_skip ?_
   obtain rfl := Option.some.inj ho33
   refine x_A fun a hf => ⟨x2, rfl, hf.sub ⟨rfl, rfl, trivial⟩, H⟩
 ·rintro a wd34 ⟨x32, rfl, hf, H⟩
  try dsimp only at hF
  refine XX.at hf <| x_then <| C_seq <| R_dr (.take 0 (.take 1 (.take 3 (.take 4 (.take 5 (.take 6 (.take 7 (.take 9 (.take 10 (.one 2 (.one 8 (.one 11 (.one 12 (.one 13 (.take 14 .done))))))))))))))) (fun w' => Ok w' ρ [Box b30 [.int .i64 x1, .string x2, .string x3, .int .i64 x4, v5]]) (by kernel_rfl) (by kernel_rfl) (by kernel_rfl) (H.drew.okS (by simp)) ?_
  replace H := H.drew
  refine dq (v := .pointer (some ⟨b30, 0, none⟩)) rfl (fun _ _ => Q_fld Tryd.underlying51 rfl ty3 (by decide) rfl rfl) rfl rfl <| dq (v := .int .i64 x1) rfl (fun _ hw => Q_ldB (k := 0) (cs := [.int .i64 x1]) hw rfl ty3 rfl rfl rfl (fun _ => rfl) rfl) rfl rfl <| dq rfl (fun _ _ => Q_move rfl) rfl rfl <| dq (v := .pointer (some ⟨b30, 2, none⟩)) rfl (fun _ _ => Q_fld Tryd.underlying51 rfl ty9 (by decide) rfl rfl) rfl rfl <| dq (v := .string x3) rfl (fun _ hw => Q_ldB (k := 0) (cs := [.string x3]) hw rfl ty9 rfl rfl rfl (fun _ => rfl) rfl) rfl rfl <| dq (v := .pointer (some ⟨b30, 3, none⟩)) rfl (fun _ _ => Q_fld Tryd.underlying51 rfl ty3 (by decide) rfl rfl) rfl rfl <| dq (v := .int .i64 x4) rfl (fun _ hw => Q_ldB (k := 0) (cs := [.int .i64 x4]) hw rfl ty3 rfl rfl rfl (fun _ => rfl) rfl) rfl rfl <| dq (v := .pointer (some ⟨b30, 4, none⟩)) rfl (fun _ _ => Q_fld Tryd.underlying51 rfl ty34 (by decide) rfl rfl) rfl rfl <| dq (v := v5) rfl (fun _ hw => Q_ldB (k := 0) (cs := [v5]) hw rfl ty34 rfl rfl rfl (fun _ => rfl) rfl) rfl rfl ?_
  obtain ⟨q35, hq35, hF⟩ := bnd hF
  refine d1 (de rfl (E_call fn8 rfl (c_8 H gle   hq35)) rfl rfl ?_)
  rintro _ wd38 ⟨x37, rfl, rfl, H⟩
  try dsimp only at hF
  refine ⟨H.okS (by simp), ?_⟩
  obtain ⟨q39, hq39, hF⟩ := bnd hF
  refine d1 (de rfl (E_call fn8 rfl (c_8 H gle   hq39)) rfl rfl ?_)
  rintro _ wd42 ⟨x41, rfl, rfl, H⟩
  try dsimp only at hF
  refine ⟨H.okS (by simp), ?_⟩
  obtain ⟨q43, hq43, hF⟩ := bnd hF
  refine d1 (de rfl (E_call fn35 rfl (c_35 H gle  r7 hq43)) rfl rfl ?_)
  rintro _ wd46 ⟨x45, rfl, rfl, H⟩
  try dsimp only at hF
  refine ⟨H.okS (by simp), ?_⟩
  refine d1 (de rfl (E_bslice (xs := [.tmp 10, .tmp 11, .tmp 13, .tmp 16, .tmp 19]) (vs := [.string x37, .string x32, .string x3, .string x41, .string x45]) H Tryd.underlying32 ty9 (by decide) (cs := [.string x37, .string x32, .string x3, .string x41, .string x45]) rfl (sz_cons rfl (sz_cons rfl (sz_cons rfl (sz_cons rfl (sz_cons rfl sz_nil))))) rfl (by simp) (by simp) rfl rfl) rfl rfl ?_)
  rintro _ wd48 ⟨b47, rfl, H⟩
  refine ⟨H.okS (by simp), ?_⟩
  obtain ⟨x49, hx49, hF⟩ := bnd hF
  refine d1 (de rfl (E_call fn37 rfl (c_join joinC H (arr_rd (by decide) H.view (H.all (Arr (.slice (some ⟨b47, 0, none⟩) 5 5) 1 ([.string x37, .string x32, .string x3, .string x41, .string x45])) (by simp)) (show rdL eS ρ ([x37, x32, x3, x41, x45]) ([.string x37, .string x32, .string x3, .string x41, .string x45]) from (show rdL eS ρ ([x37, x32, x3, x41, x45]) ([.string x37, .string x32, .string x3, .string x41, .string x45]) from ⟨([.string x37]), _, rfl, rfl, ⟨([.string x32]), _, rfl, rfl, ⟨([.string x3]), _, rfl, rfl, ⟨([.string x41]), _, rfl, rfl, ⟨([.string x45]), _, rfl, rfl, rdL.nil⟩⟩⟩⟩⟩))) hx49)) rfl rfl ?_)
  rintro _ wd50 ⟨rfl, H⟩
  refine ⟨H.okS (by simp), ?_⟩
  refine dq rfl (fun _ _ => Q_assign rfl) rfl rfl <| DL_nil <| x_then <| C_ret ?_
  replace H := H.drop 0 rfl
  dsimp only [List.eraseIdx] at H
  replace H := H.drop 0 rfl
  dsimp only [List.eraseIdx] at H
  obtain rfl := Option.some.inj hF
  exact fn_ret (l := [.tmp 2]) (vs := [.string x49]) rfl rfl rfl ⟨x49, rfl, rfl, H⟩
theorem c_20 {N : Nat} {C : Cx} {w : World} {ρ : View} {hs : List Hl} {v5 : Value} {x1 : Int} {x2 : ByteArray} {x3 : ByteArray} {x4 : Int} {x6 : (List Int)} (H : Hp C w ρ (hs)) {gV : Nat → Value} (gle : GErrs ρ 137 errIds gV) (r7 : RdSl ρ (eI .u8) v5 x6) {r : ByteArray} (hF : F_dofferref36_Told N x1 x2 x3 x4 x6 = some r) :
  Calls Tryd.prog 20 [.agg #[.int .i64 x1, .string x2, .string x3, .int .i64 x4, v5]].toArray w (Rets (fun v w' => (∃ (x33 : ByteArray), x33 = r ∧ .string x33 = v ∧ Hp C w' ρ (hs)))) := by
 unfold F_dofferref36_Told at hF
 have h0 : Tryd.f20.body = some _ := rfl
 refine fn_calls' Tryd.func20 h0 (n := 28) rfl (by simp) <| C_seq <| R_nd <| ne (E_box H (vs := [.int .i64 x1, .string x2, .string x3, .int .i64 x4, v5]) rfl rfl) rfl rfl ?_
 rintro _ wd35 ⟨b34, rfl, H⟩
 refine nq (Q_assign rfl) rfl rfl <| WL_nil <| x_then <| C_seq <| R_nd <| nq (v := .pointer (some ⟨b34, 1, none⟩)) (Q_fld Tryd.underlying51 rfl ty9 (by decide) rfl rfl) rfl rfl <| nq (v := .string x2) (Q_ldB (k := 0) (cs := [.string x2]) H.ok rfl ty9 rfl rfl rfl (fun _ => rfl) rfl) rfl rfl <| nq (Q_assign rfl) rfl rfl <| WL_nil <| x_then <| C_seq <| C_seq <| R_nd <| nq (Q_move rfl) rfl rfl ?_
 refine nq (v := .bool (x2.toList == ByteArray.empty.toList)) (Q_eqlStr Tryd.underlying9 rfl rfl) rfl rfl <| WL_nil <| x_then ?_
 obtain ⟨o37, ho37, hF⟩ := bnd hF
 refine C_cutQ (fun a w' => ∃ (x36 : ByteArray), x36 = o37 ∧ Fr 28 a [(1, .pointer (some ⟨b34, 0, none⟩)), (3, .string x36)] ∧ Hp C w' ρ (Box b34 [.int .i64 x1, .string x2, .string x3, .int .i64 x4, v5] :: hs)) ?_ ?_
 ·refine C_cond rfl (fun hb => ?_) (fun hb => ?_)
  ·replace ho37 := itT hb ho37
   refine R_nd <| nq (Q_assign rfl) rfl rfl <| WL_nil ?_
   obtain rfl := Option.some.inj ho37
   refine x_A fun a hf => ⟨(⟨#[46]⟩ : ByteArray), rfl, hf.sub ⟨rfl, rfl, trivial⟩, H⟩
  ·replace ho37 := itF hb ho37
   refine C_skip ?_
   obtain rfl := Option.some.inj ho37
   refine x_A fun a hf => ⟨x2, rfl, hf.sub ⟨rfl, rfl, trivial⟩, H⟩
 ·rintro a wd38 ⟨x36, rfl, hf, H⟩
  try dsimp only at hF
  refine XX.at hf <| x_then <| C_seq <| R_dr (.take 0 (.take 1 (.take 4 (.take 7 (.take 8 (.take 11 (.take 12 (.take 16 (.take 17 (.one 2 (.take 3 (.take 5 (.take 6 (.take 9 (.take 10 (.one 13 (.take 14 (.take 15 (.one 18 (.take 19 (.take 20 .done))))))))))))))))))))) (fun w' => Ok w' ρ [Box b34 [.int .i64 x1, .string x2, .string x3, .int .i64 x4, v5]]) (by kernel_rfl) (by kernel_rfl) (by kernel_rfl) (H.drew.okS (by simp)) ?_
  replace H := H.drew
  refine dq (v := .pointer (some ⟨b34, 0, none⟩)) rfl (fun _ _ => Q_fld Tryd.underlying51 rfl ty3 (by decide) rfl rfl) rfl rfl <| dq (v := .int .i64 x1) rfl (fun _ hw => Q_ldB (k := 0) (cs := [.int .i64 x1]) hw rfl ty3 rfl rfl rfl (fun _ => rfl) rfl) rfl rfl <| dq rfl (fun _ _ => Q_move rfl) rfl rfl <| dq (v := .pointer (some ⟨b34, 2, none⟩)) rfl (fun _ _ => Q_fld Tryd.underlying51 rfl ty9 (by decide) rfl rfl) rfl rfl <| dq (v := .string x3) rfl (fun _ hw => Q_ldB (k := 0) (cs := [.string x3]) hw rfl ty9 rfl rfl rfl (fun _ => rfl) rfl) rfl rfl <| dq (v := .pointer (some ⟨b34, 3, none⟩)) rfl (fun _ _ => Q_fld Tryd.underlying51 rfl ty3 (by decide) rfl rfl) rfl rfl <| dq (v := .int .i64 x4) rfl (fun _ hw => Q_ldB (k := 0) (cs := [.int .i64 x4]) hw rfl ty3 rfl rfl rfl (fun _ => rfl) rfl) rfl rfl <| dq (v := .pointer (some ⟨b34, 4, none⟩)) rfl (fun _ _ => Q_fld Tryd.underlying51 rfl ty34 (by decide) rfl rfl) rfl rfl <| dq (v := v5) rfl (fun _ hw => Q_ldB (k := 0) (cs := [v5]) hw rfl ty34 rfl rfl rfl (fun _ => rfl) rfl) rfl rfl ?_
  obtain ⟨q39, hq39, hF⟩ := bnd hF
  refine d1 (de rfl (E_call fn11 rfl (c_11 _ H gle   hq39)) rfl rfl ?_)
  rintro _ wd42 ⟨x41, rfl, rfl, H⟩
  try dsimp only at hF
  refine ⟨H.okS (by simp), ?_⟩
  obtain ⟨x43, hx43, hF⟩ := bnd hF
  refine dq rfl (fun _ _ => Q_cat hx43 rfl rfl) rfl rfl ?_
  obtain ⟨x44, hx44, hF⟩ := bnd hF
  refine dq rfl (fun _ _ => Q_cat hx44 rfl rfl) rfl rfl ?_
  obtain ⟨x45, hx45, hF⟩ := bnd hF
  refine dq rfl (fun _ _ => Q_cat hx45 rfl rfl) rfl rfl ?_
  obtain ⟨x46, hx46, hF⟩ := bnd hF
  refine dq rfl (fun _ _ => Q_cat hx46 rfl rfl) rfl rfl ?_
  obtain ⟨x47, hx47, hF⟩ := bnd hF
  refine dq rfl (fun _ _ => Q_cat hx47 rfl rfl) rfl rfl ?_
  obtain ⟨q48, hq48, hF⟩ := bnd hF
  refine d1 (de rfl (E_call fn11 rfl (c_11 _ H gle   hq48)) rfl rfl ?_)
  rintro _ wd51 ⟨x50, rfl, rfl, H⟩
  try dsimp only at hF
  refine ⟨H.okS (by simp), ?_⟩
  obtain ⟨x52, hx52, hF⟩ := bnd hF
  refine dq rfl (fun _ _ => Q_cat hx52 rfl rfl) rfl rfl ?_
  obtain ⟨x53, hx53, hF⟩ := bnd hF
  refine dq rfl (fun _ _ => Q_cat hx53 rfl rfl) rfl rfl ?_
  obtain ⟨q54, hq54, hF⟩ := bnd hF
  refine d1 (de rfl (E_call fn38 rfl (c_38 H gle  r7 hq54)) rfl rfl ?_)
  rintro _ wd57 ⟨x56, rfl, rfl, H⟩
  try dsimp only at hF
  refine ⟨H.okS (by simp), ?_⟩
  obtain ⟨x58, hx58, hF⟩ := bnd hF
  refine dq rfl (fun _ _ => Q_cat hx58 rfl rfl) rfl rfl <| dq rfl (fun _ _ => Q_assign rfl) rfl rfl <| DL_nil <| x_then <| C_ret ?_
  replace H := H.drop 0 rfl
  dsimp only [List.eraseIdx] at H
  obtain rfl := Option.some.inj hF
  exact fn_ret (l := [.tmp 2]) (vs := [.string x58]) rfl rfl rfl ⟨x58, rfl, rfl, H⟩
theorem c_15_2 {N : Nat} {C : Cx} {w : World} {ρ : View} {hs : List Hl} {v4 : Value} {v10 : Value} {x1 : Int} {x2 : Int} {x3 : Int} {x5 : (List Int)} {x7 : Int} {x8 : Int} {x9 : Int} {x11 : (List Int)} (H : Hp C w ρ (hs)) {gV : Nat → Value} (_gle : GErrs ρ 137 errIds gV) (r6 : RdSl ρ (eI .u8) v4 x5) (r12 : RdSl ρ (eI .u8) v10 x11) {r : Bool} (hF : F_dofferref36_Same_2 N x1 x2 x3 x5 x7 x8 x9 x11 = some r) :
  Calls Tryd.prog 15 [.agg #[.int .i64 x1, .int .i64 x2, .int .i64 x3, v4], .agg #[.int .i64 x7, .int .i64 x8, .int .i64 x9, v10]].toArray w (Rets (fun v w' => (∃ (x24 : Bool), x24 = r ∧ .bool x24 = v ∧ Hp C w' ρ (hs)))) := by
 unfold F_dofferref36_Same_2 at hF
 have h0 : Tryd.f15.body = some _ := rfl
 refine fn_calls' Tryd.func15 h0 (n := 33) rfl (by simp) <| C_seq <| R_nd <| ne (E_box H (vs := [.int .i64 x1, .int .i64 x2, .int .i64 x3, v4]) rfl rfl) rfl rfl ?_
 rintro _ wd26 ⟨b25, rfl, H⟩
 refine ne (E_box H (vs := [.int .i64 x7, .int .i64 x8, .int .i64 x9, v10]) rfl rfl) rfl rfl ?_
 rintro _ wd28 ⟨b27, rfl, H⟩
 refine nq (Q_assign rfl) rfl rfl <| WL_nil <| x_then ?_
 obtain ⟨o32, ho32, hF⟩ := bnd hF
 refine C_cut (fun a w' => ∃ (x31 : Bool), x31 = o32 ∧ Fr 33 a [(4, .bool x31)] ∧ Hp C w' ρ (hs)) ?_ ?_
 ·refine R_nd <| nq (v := .pointer (some ⟨b25, 0, none⟩)) (Q_fld Tryd.underlying36 rfl ty3 (by decide) rfl rfl) rfl rfl <| nq (v := .int .i64 x1) (Q_ldB (k := 1) (cs := [.int .i64 x1]) H.ok rfl ty3 rfl rfl rfl (fun _ => rfl) rfl) rfl rfl <| nq (v := .pointer (some ⟨b27, 0, none⟩)) (Q_fld Tryd.underlying36 rfl ty3 (by decide) rfl rfl) rfl rfl <| nq (v := .int .i64 x7) (Q_ldB (k := 0) (cs := [.int .i64 x7]) H.ok rfl ty3 rfl rfl rfl (fun _ => rfl) rfl) rfl rfl <| nq (Q_eql rfl rfl) rfl rfl <| nq (Q_move rfl) rfl rfl ?_
  rcases Bool.eq_false_or_eq_true (x1 == x7) with hb | hb
  ·rw [hb]
   replace ho32 := itT hb ho32
   refine gq (v := .pointer (some ⟨b25, 1, none⟩)) (Q_fld Tryd.underlying36 rfl ty3 (by decide) rfl rfl) rfl rfl rfl <| gq (v := .int .i64 x2) (Q_ldB (k := 1) (cs := [.int .i64 x2]) H.ok rfl ty3 rfl rfl rfl (fun _ => rfl) rfl) rfl rfl rfl <| gq (v := .pointer (some ⟨b27, 1, none⟩)) (Q_fld Tryd.underlying36 rfl ty3 (by decide) rfl rfl) rfl rfl rfl <| gq (v := .int .i64 x8) (Q_ldB (k := 0) (cs := [.int .i64 x8]) H.ok rfl ty3 rfl rfl rfl (fun _ => rfl) rfl) rfl rfl rfl <| gq (Q_eql rfl rfl) rfl rfl rfl <| nq (Q_pickT rfl rfl) rfl rfl <| nq (Q_move rfl) rfl rfl ?_
   rcases Bool.eq_false_or_eq_true (x2 == x8) with hb | hb
   ·rw [hb]
    replace ho32 := itT hb ho32
    refine gq (v := .pointer (some ⟨b25, 2, none⟩)) (Q_fld Tryd.underlying36 rfl ty3 (by decide) rfl rfl) rfl rfl rfl <| gq (v := .int .i64 x3) (Q_ldB (k := 1) (cs := [.int .i64 x3]) H.ok rfl ty3 rfl rfl rfl (fun _ => rfl) rfl) rfl rfl rfl <| gq (v := .pointer (some ⟨b27, 2, none⟩)) (Q_fld Tryd.underlying36 rfl ty3 (by decide) rfl rfl) rfl rfl rfl <| gq (v := .int .i64 x9) (Q_ldB (k := 0) (cs := [.int .i64 x9]) H.ok rfl ty3 rfl rfl rfl (fun _ => rfl) rfl) rfl rfl rfl <| gq (Q_eql rfl rfl) rfl rfl rfl <| nq (Q_pickT rfl rfl) rfl rfl <| nq (Q_move rfl) rfl rfl ?_
    rcases Bool.eq_false_or_eq_true (x3 == x9) with hb | hb
    ·rw [hb]
     replace ho32 := itT hb ho32
     refine gq (v := .pointer (some ⟨b25, 3, none⟩)) (Q_fld Tryd.underlying36 rfl ty34 (by decide) rfl rfl) rfl rfl rfl <| gq (v := v4) (Q_ldB (k := 1) (cs := [v4]) H.ok rfl ty34 rfl rfl rfl (fun _ => rfl) rfl) rfl rfl rfl <| ge (E_bstrR H Tryd.underlying34 Tryd.underlying5 Tryd.underlying9 rfl r6) rfl rfl rfl ?_
     rintro _ wd33 ⟨rfl, rfl⟩
     refine gq (v := .pointer (some ⟨b27, 3, none⟩)) (Q_fld Tryd.underlying36 rfl ty34 (by decide) rfl rfl) rfl rfl rfl <| gq (v := v10) (Q_ldB (k := 0) (cs := [v10]) H.ok rfl ty34 rfl rfl rfl (fun _ => rfl) rfl) rfl rfl rfl <| ge (E_bstrR H Tryd.underlying34 Tryd.underlying5 Tryd.underlying9 rfl r12) rfl rfl rfl ?_
     rintro _ wd34 ⟨rfl, rfl⟩
     refine gq (v := .bool ((bstr x5).toList == (bstr x11).toList)) (Q_eqlStr Tryd.underlying9 rfl rfl) rfl rfl rfl <| nq (Q_pickT rfl rfl) rfl rfl <| nq (Q_assign rfl) rfl rfl <| WL_nil ?_
     replace H := H.drop 0 rfl
     dsimp only [List.eraseIdx] at H
     replace H := H.drop 0 rfl
     dsimp only [List.eraseIdx] at H
     obtain rfl := Option.some.inj ho32
     refine x_A fun a hf => ⟨(bstr x5).toList == (bstr x11).toList, rfl, hf.sub ⟨rfl, trivial⟩, H⟩
    ·rw [hb]
     replace ho32 := itF hb ho32
     refine gs rfl rfl rfl rfl <| gs rfl rfl rfl rfl <| gs rfl rfl rfl rfl <| gs rfl rfl rfl rfl <| gs rfl rfl rfl rfl <| gs rfl rfl rfl rfl <| gs rfl rfl rfl rfl <| nq (Q_pickF rfl rfl) rfl rfl <| nq (Q_assign rfl) rfl rfl <| WL_nil ?_
     replace H := H.drop 0 rfl
     dsimp only [List.eraseIdx] at H
     replace H := H.drop 0 rfl
     dsimp only [List.eraseIdx] at H
     obtain rfl := Option.some.inj ho32
     refine x_A fun a hf => ⟨false, rfl, hf.sub ⟨rfl, trivial⟩, H⟩
   ·rw [hb]
    replace ho32 := itF hb ho32
    refine gs rfl rfl rfl rfl <| gs rfl rfl rfl rfl <| gs rfl rfl rfl rfl <| gs rfl rfl rfl rfl <| gs rfl rfl rfl rfl <| nq (Q_pickF rfl rfl) rfl rfl <| nq (Q_move rfl) rfl rfl <| gs rfl rfl rfl rfl <| gs rfl rfl rfl rfl <| gs rfl rfl rfl rfl <| gs rfl rfl rfl rfl <| gs rfl rfl rfl rfl <| gs rfl rfl rfl rfl <| gs rfl rfl rfl rfl ?_
    refine nq (Q_pickF rfl rfl) rfl rfl <| nq (Q_assign rfl) rfl rfl <| WL_nil ?_
    replace H := H.drop 0 rfl
    dsimp only [List.eraseIdx] at H
    replace H := H.drop 0 rfl
    dsimp only [List.eraseIdx] at H
    obtain rfl := Option.some.inj ho32
    refine x_A fun a hf => ⟨false, rfl, hf.sub ⟨rfl, trivial⟩, H⟩
  ·rw [hb]
   replace ho32 := itF hb ho32
   refine gs rfl rfl rfl rfl <| gs rfl rfl rfl rfl <| gs rfl rfl rfl rfl <| gs rfl rfl rfl rfl <| gs rfl rfl rfl rfl <| nq (Q_pickF rfl rfl) rfl rfl <| nq (Q_move rfl) rfl rfl <| gs rfl rfl rfl rfl <| gs rfl rfl rfl rfl <| gs rfl rfl rfl rfl <| gs rfl rfl rfl rfl <| gs rfl rfl rfl rfl <| nq (Q_pickF rfl rfl) rfl rfl <| nq (Q_move rfl) rfl rfl ?_
   refine gs rfl rfl rfl rfl <| gs rfl rfl rfl rfl <| gs rfl rfl rfl rfl <| gs rfl rfl rfl rfl <| gs rfl rfl rfl rfl <| gs rfl rfl rfl rfl <| gs rfl rfl rfl rfl <| nq (Q_pickF rfl rfl) rfl rfl <| nq (Q_assign rfl) rfl rfl <| WL_nil ?_
   replace H := H.drop 0 rfl
   dsimp only [List.eraseIdx] at H
   replace H := H.drop 0 rfl
   dsimp only [List.eraseIdx] at H
   obtain rfl := Option.some.inj ho32
   refine x_A fun a hf => ⟨false, rfl, hf.sub ⟨rfl, trivial⟩, H⟩
 ·rintro a wd35 ⟨x31, rfl, hf, H⟩
  try dsimp only at hF
  refine CW.at hf <| C_ret ?_
  obtain rfl := Option.some.inj hF
  exact fn_ret (l := [.tmp 4]) (vs := [.bool x31]) rfl rfl rfl ⟨x31, rfl, rfl, H⟩
theorem c_6 {N : Nat} {C : Cx} {w : World} {ρ : View} {hs : List Hl} {v4 : Value} {v11 : Value} {x1 : Int} {x2 : Int} {x3 : Int} {x5 : (List Int)} {x7 : Int} {x8 : ByteArray} {x9 : ByteArray} {x10 : Int} {x12 : (List Int)} (H : Hp C w ρ (hs)) {gV : Nat → Value} (gle : GErrs ρ 137 errIds gV) (r6 : RdSl ρ (eI .u8) v4 x5) (r13 : RdSl ρ (eI .u8) v11 x12) {r : Bool} (hF : F_dofferlaw36_ScriptText N x1 x2 x3 x5 x7 x8 x9 x10 x12 = some r) :
  Calls Tryd.prog 6 [.agg #[.int .i64 x1, .int .i64 x2, .int .i64 x3, v4], .agg #[.int .i64 x7, .string x8, .string x9, .int .i64 x10, v11]].toArray w (Rets (fun v w' => (∃ (ρ' : View) (x90 : Bool), x90 = r ∧ .bool x90 = v ∧ View.le ρ ρ' ∧ Hp C w' ρ' (hs)))) := by
 unfold F_dofferlaw36_ScriptText at hF
 have h0 : Tryd.f6.body = some _ := rfl
 refine fn_calls' Tryd.func6 h0 (n := 74) rfl (by simp) <| C_seq <| R_nd <| ne (E_box H (vs := [.int .i64 x1, .int .i64 x2, .int .i64 x3, v4]) rfl rfl) rfl rfl ?_
 rintro _ wd92 ⟨b91, rfl, H⟩
 refine ne (E_box H (vs := [.int .i64 x7, .string x8, .string x9, .int .i64 x10, v11]) rfl rfl) rfl rfl ?_
 rintro _ wd94 ⟨b93, rfl, H⟩
 refine nq (Q_assign rfl) rfl rfl <| WL_nil <| x_then <| C_seq <| C_seq <| R_nd ?_
 obtain ⟨q95, hq95, hF⟩ := bnd hF
 refine ne (E_call fn7 rfl (c_7 H gle   hq95)) rfl rfl ?_
 rintro _ wd99 ⟨ρ, x97, rfl, rfl, lw98, H⟩
 try dsimp only at hF
 replace r6 := RdSl.up lw98 r6
 replace r13 := RdSl.up lw98 r13
 replace gle := GErrs.up lw98 gle
 refine nq (Q_not rfl) rfl rfl <| WL_nil <| x_then ?_
 refine C_cond rfl (fun hb => ?_) (fun hb => ?_)
 ·replace hF := itT hb hF
  refine C_seq <| R_nd <| nq (Q_assign rfl) rfl rfl <| WL_nil <| x_then <| C_ret <| x_then_ret ?_
  replace H := H.drop 0 rfl
  dsimp only [List.eraseIdx] at H
  replace H := H.drop 0 rfl
  dsimp only [List.eraseIdx] at H
  obtain rfl := Option.some.inj hF
  exact fn_ret (l := [.tmp 4]) (vs := [.bool false]) rfl rfl rfl ⟨ρ, false, rfl, rfl, lw98, H⟩
 ·replace hF := itF hb hF
  refine C_skip <| x_then <| C_seq ?_
  obtain ⟨o101, ho101, hF⟩ := bnd hF
  refine C_cut (fun a w' => ∃ (x100 : Bool), x100 = o101 ∧ Fr 74 a [(2, .pointer (some ⟨b91, 0, none⟩)), (3, .pointer (some ⟨b93, 0, none⟩)), (33, .bool x100)] ∧ Hp C w' ρ (Box b91 [.int .i64 x1, .int .i64 x2, .int .i64 x3, v4] :: Box b93 [.int .i64 x7, .string x8, .string x9, .int .i64 x10, v11] :: hs)) ?_ ?_
  ·refine R_nd <| nq (v := .pointer (some ⟨b91, 3, none⟩)) (Q_fld Tryd.underlying43 rfl ty34 (by decide) rfl rfl) rfl rfl <| nq (v := v4) (Q_ldB (k := 1) (cs := [v4]) H.ok rfl ty34 rfl rfl rfl (fun _ => rfl) rfl) rfl rfl <| nq (Q_len Tryd.underlying34 rfl r6) rfl rfl <| nq (Q_gtr rfl rfl) rfl rfl <| nq (Q_move rfl) rfl rfl ?_
   rcases Bool.eq_false_or_eq_true (decide ((x5.length : Int) > 300)) with hb | hb
   ·rw [hb]
    replace ho101 := itT hb ho101
    refine gs rfl rfl rfl rfl <| gs rfl rfl rfl rfl <| gs rfl rfl rfl rfl <| gs rfl rfl rfl rfl <| nq (Q_pickT rfl rfl) rfl rfl <| nq (Q_move rfl) rfl rfl <| gs rfl rfl rfl rfl <| gs rfl rfl rfl rfl <| gs rfl rfl rfl rfl <| gs rfl rfl rfl rfl <| nq (Q_pickT rfl rfl) rfl rfl <| nq (Q_move rfl) rfl rfl <| gs rfl rfl rfl rfl <| gs rfl rfl rfl rfl ?_
    refine gs rfl rfl rfl rfl <| gs rfl rfl rfl rfl <| nq (Q_pickT rfl rfl) rfl rfl <| WL_nil ?_
    replace H := H.f1
    obtain rfl := Option.some.inj ho101
    refine x_A fun a hf => ⟨true, rfl, hf.sub ⟨rfl, rfl, rfl, trivial⟩, H⟩
   ·rw [hb]
    replace ho101 := itF hb ho101
    refine gq (v := .pointer (some ⟨b93, 1, none⟩)) (Q_fld Tryd.underlying51 rfl ty9 (by decide) rfl rfl) rfl rfl rfl <| gq (v := .string x8) (Q_ldB (k := 0) (cs := [.string x8]) H.ok rfl ty9 rfl rfl rfl (fun _ => rfl) rfl) rfl rfl rfl <| gq (Q_lenStr Tryd.underlying9 rfl) rfl rfl rfl <| gq (Q_gtr rfl rfl) rfl rfl rfl <| nq (Q_pickF rfl rfl) rfl rfl <| nq (Q_move rfl) rfl rfl ?_
    rcases Bool.eq_false_or_eq_true (decide ((x8.size : Int) > 50)) with hb | hb
    ·rw [hb]
     replace ho101 := itT hb ho101
     refine gs rfl rfl rfl rfl <| gs rfl rfl rfl rfl <| gs rfl rfl rfl rfl <| gs rfl rfl rfl rfl <| nq (Q_pickT rfl rfl) rfl rfl <| nq (Q_move rfl) rfl rfl <| gs rfl rfl rfl rfl <| gs rfl rfl rfl rfl <| gs rfl rfl rfl rfl <| gs rfl rfl rfl rfl <| nq (Q_pickT rfl rfl) rfl rfl <| WL_nil ?_
     replace H := H.f1
     obtain rfl := Option.some.inj ho101
     refine x_A fun a hf => ⟨true, rfl, hf.sub ⟨rfl, rfl, rfl, trivial⟩, H⟩
    ·rw [hb]
     replace ho101 := itF hb ho101
     refine gq (v := .pointer (some ⟨b93, 2, none⟩)) (Q_fld Tryd.underlying51 rfl ty9 (by decide) rfl rfl) rfl rfl rfl <| gq (v := .string x9) (Q_ldB (k := 0) (cs := [.string x9]) H.ok rfl ty9 rfl rfl rfl (fun _ => rfl) rfl) rfl rfl rfl <| gq (Q_lenStr Tryd.underlying9 rfl) rfl rfl rfl <| gq (Q_gtr rfl rfl) rfl rfl rfl <| nq (Q_pickF rfl rfl) rfl rfl <| nq (Q_move rfl) rfl rfl ?_
     rcases Bool.eq_false_or_eq_true (decide ((x9.size : Int) > 50)) with hb | hb
     ·rw [hb]
      replace ho101 := itT hb ho101
      refine gs rfl rfl rfl rfl <| gs rfl rfl rfl rfl <| gs rfl rfl rfl rfl <| gs rfl rfl rfl rfl <| nq (Q_pickT rfl rfl) rfl rfl <| WL_nil ?_
      replace H := H.f1
      obtain rfl := Option.some.inj ho101
      refine x_A fun a hf => ⟨true, rfl, hf.sub ⟨rfl, rfl, rfl, trivial⟩, H⟩
     ·rw [hb]
      replace ho101 := itF hb ho101
      refine gq (v := .pointer (some ⟨b93, 4, none⟩)) (Q_fld Tryd.underlying51 rfl ty34 (by decide) rfl rfl) rfl rfl rfl <| gq (v := v11) (Q_ldB (k := 0) (cs := [v11]) H.ok rfl ty34 rfl rfl rfl (fun _ => rfl) rfl) rfl rfl rfl <| gq (Q_len Tryd.underlying34 rfl r13) rfl rfl rfl <| gq (Q_gtr rfl rfl) rfl rfl rfl <| nq (Q_pickF rfl rfl) rfl rfl <| WL_nil ?_
      replace H := H.f1
      obtain rfl := Option.some.inj ho101
      refine x_A fun a hf => ⟨decide ((x12.length : Int) > 300), rfl, hf.sub ⟨rfl, rfl, rfl, trivial⟩, H⟩
  ·rintro a wd102 ⟨x100, rfl, hf, H⟩
   try dsimp only at hF
   refine CW.at hf ?_
   refine C_cond rfl (fun hb => ?_) (fun hb => ?_)
   ·replace hF := itT hb hF
    refine C_seq <| R_nd <| nq (Q_assign rfl) rfl rfl <| WL_nil <| x_then <| C_ret <| x_then_ret ?_
    replace H := H.drop 0 rfl
    dsimp only [List.eraseIdx] at H
    replace H := H.drop 0 rfl
    dsimp only [List.eraseIdx] at H
    obtain rfl := Option.some.inj hF
    exact fn_ret (l := [.tmp 4]) (vs := [.bool true]) rfl rfl rfl ⟨ρ, true, rfl, rfl, lw98, H⟩
   ·replace hF := itF hb hF
    refine C_skip <| x_then <| C_seq <| R_nd <| nq (v := .agg #[.int .i64 x1, .int .i64 x2, .int .i64 x3, v4]) (Q_ldB (k := 0) (cs := [.int .i64 x1, .int .i64 x2, .int .i64 x3, v4]) H.ok rfl ty43 rfl rfl rfl (fun h => nomatch h) rfl) rfl rfl ?_
    obtain ⟨q103, hq103, hF⟩ := bnd hF
    refine ne (E_call fn17 rfl (c_17 H gle  r6 hq103)) rfl rfl ?_
    rintro _ wd108 ⟨ρ, x105, x106, rfl, rfl, lw107, H⟩
    try dsimp only at hF
    replace r6 := RdSl.up lw107 r6
    replace r13 := RdSl.up lw107 r13
    replace gle := GErrs.up lw107 gle
    refine nq (Q_move rfl) rfl rfl <| nq (Q_extract rfl rfl) rfl rfl <| nq (Q_extract rfl rfl) rfl rfl <| nq (Q_assign rfl) rfl rfl <| nq (Q_assign rfl) rfl rfl <| WL_nil <| x_then <| C_seq <| R_nd <| nq (v := .agg #[.int .i64 x1, .int .i64 x2, .int .i64 x3, v4]) (Q_ldB (k := 0) (cs := [.int .i64 x1, .int .i64 x2, .int .i64 x3, v4]) H.ok rfl ty43 rfl rfl rfl (fun h => nomatch h) rfl) rfl rfl ?_
    obtain ⟨q109, hq109, hF⟩ := bnd hF
    refine ne (E_call fn18 rfl (c_18 H gle  r6 hq109)) rfl rfl ?_
    rintro _ wd113 ⟨x111, x112, rfl, rfl, H⟩
    try dsimp only at hF
    refine nq (Q_move rfl) rfl rfl <| nq (Q_extract rfl rfl) rfl rfl <| nq (Q_extract rfl rfl) rfl rfl <| nq (Q_assign rfl) rfl rfl <| nq (Q_assign rfl) rfl rfl <| WL_nil <| x_then <| C_seq ?_
    obtain ⟨o127, ho127, hF⟩ := bnd hF
    refine C_cut (fun a w' => ∃ (x126 : Bool), x126 = o127 ∧ Fr 74 a [(2, .pointer (some ⟨b91, 0, none⟩)), (5, .string x105), (8, .int .i64 x112), (59, .bool x126)] ∧ Hp C w' ρ (Box b91 [.int .i64 x1, .int .i64 x2, .int .i64 x3, v4] :: hs)) ?_ ?_
    ·refine R_dr (.take 0 (.take 1 (.take 2 (.take 3 (.take 4 (.take 6 (.one 5 (.take 7 (.take 8 (.take 9 (.take 10 (.take 12 (.one 11 (.one 13 (.take 14 (.take 15 .done)))))))))))))))) (fun w' => Ok w' ρ [Box b91 [.int .i64 x1, .int .i64 x2, .int .i64 x3, v4], Box b93 [.int .i64 x7, .string x8, .string x9, .int .i64 x10, v11]]) (by kernel_rfl) (by kernel_rfl) (by kernel_rfl) (H.drew.okS (by simp)) ?_
     replace H := H.drew
     refine dq rfl (fun _ _ => Q_move rfl) rfl rfl <| dq rfl (fun _ _ => Q_move rfl) rfl rfl <| dq (v := .bool (x105.toList != x111.toList)) rfl (fun _ _ => Q_neqStr Tryd.underlying9 rfl rfl) rfl rfl <| dq rfl (fun _ _ => Q_move rfl) rfl rfl ?_
     rcases Bool.eq_false_or_eq_true (x105.toList != x111.toList) with hb | hb
     ·rw [hb]
      replace ho127 := itT hb ho127
      refine dgs rfl rfl rfl rfl rfl <| dgs rfl rfl rfl rfl rfl ?_
      refine d1 (dges rfl rfl rfl rfl rfl ?_)
      refine dgs rfl rfl rfl rfl rfl <| dq rfl (fun _ _ => Q_pickT rfl rfl) rfl rfl <| dq rfl (fun _ _ => Q_move rfl) rfl rfl <| dgs rfl rfl rfl rfl rfl <| dgs rfl rfl rfl rfl rfl ?_
      refine d1 (dges rfl rfl rfl rfl rfl ?_)
      refine d1 (dges rfl rfl rfl rfl rfl ?_)
      refine dgs rfl rfl rfl rfl rfl <| dq rfl (fun _ _ => Q_pickT rfl rfl) rfl rfl <| DL_nil ?_
      replace H := H.drop 1 rfl
      dsimp only [List.eraseIdx] at H
      obtain rfl := Option.some.inj ho127
      refine x_A fun a hf => ⟨true, rfl, hf.sub ⟨rfl, rfl, rfl, rfl, trivial⟩, H⟩
     ·rw [hb]
      replace ho127 := itF hb ho127
      refine dgq rfl (fun _ _ => Q_move rfl) rfl rfl rfl <| dgq rfl (fun _ _ => Q_move rfl) rfl rfl rfl ?_
      obtain ⟨q128, hq128, ho127⟩ := bnd ho127
      refine d1 (dge rfl (E_call fn12 rfl (c_12 H gle   hq128)) rfl rfl rfl ?_)
      rintro _ wd131 ⟨x130, rfl, rfl, H⟩
      try dsimp only at ho127
      refine ⟨H.okS (by simp), ?_⟩
      refine dgq rfl (fun _ _ => Q_neq rfl rfl) rfl rfl rfl <| dq rfl (fun _ _ => Q_pickF rfl rfl) rfl rfl <| dq rfl (fun _ _ => Q_move rfl) rfl rfl ?_
      rcases Bool.eq_false_or_eq_true (x130 != x112) with hb | hb
      ·rw [hb]
       replace ho127 := itT hb ho127
       refine dgs rfl rfl rfl rfl rfl <| dgs rfl rfl rfl rfl rfl ?_
       refine d1 (dges rfl rfl rfl rfl rfl ?_)
       refine d1 (dges rfl rfl rfl rfl rfl ?_)
       refine dgs rfl rfl rfl rfl rfl <| dq rfl (fun _ _ => Q_pickT rfl rfl) rfl rfl <| DL_nil ?_
       replace H := H.drop 1 rfl
       dsimp only [List.eraseIdx] at H
       obtain rfl := Option.some.inj ho127
       refine x_A fun a hf => ⟨true, rfl, hf.sub ⟨rfl, rfl, rfl, rfl, trivial⟩, H⟩
      ·rw [hb]
       replace ho127 := itF hb ho127
       refine dgq (v := .agg #[.int .i64 x7, .string x8, .string x9, .int .i64 x10, v11]) rfl (fun _ hw => Q_ldB (k := 1) (cs := [.int .i64 x7, .string x8, .string x9, .int .i64 x10, v11]) hw rfl ty51 rfl rfl rfl (fun h => nomatch h) rfl) rfl rfl rfl <| dgq (v := .agg #[.int .i64 x7, .string x8, .string x9, .int .i64 x10, v11]) rfl (fun _ hw => Q_ldB (k := 1) (cs := [.int .i64 x7, .string x8, .string x9, .int .i64 x10, v11]) hw rfl ty51 rfl rfl rfl (fun h => nomatch h) rfl) rfl rfl rfl ?_
       obtain ⟨q132, hq132, ho127⟩ := bnd ho127
       refine d1 (dge rfl (E_call fn19 rfl (c_19 H gle  r13 hq132)) rfl rfl rfl ?_)
       rintro _ wd135 ⟨x134, rfl, rfl, H⟩
       try dsimp only at ho127
       refine ⟨H.okS (by simp), ?_⟩
       obtain ⟨q136, hq136, ho127⟩ := bnd ho127
       refine d1 (dge rfl (E_call fn20 rfl (c_20 H gle  r13 hq136)) rfl rfl rfl ?_)
       rintro _ wd139 ⟨x138, rfl, rfl, H⟩
       try dsimp only at ho127
       refine ⟨H.okS (by simp), ?_⟩
       refine dgq (v := .bool (x134.toList != x138.toList)) rfl (fun _ _ => Q_neqStr Tryd.underlying9 rfl rfl) rfl rfl rfl <| dq rfl (fun _ _ => Q_pickF rfl rfl) rfl rfl <| DL_nil ?_
       replace H := H.drop 1 rfl
       dsimp only [List.eraseIdx] at H
       obtain rfl := Option.some.inj ho127
       refine x_A fun a hf => ⟨x134.toList != x138.toList, rfl, hf.sub ⟨rfl, rfl, rfl, rfl, trivial⟩, H⟩
    ·rintro a wd140 ⟨x126, rfl, hf, H⟩
     try dsimp only at hF
     refine CW.at hf ?_
     refine C_cond rfl (fun hb => ?_) (fun hb => ?_)
     ·replace hF := itT hb hF
      refine C_seq <| R_nd <| nq (Q_assign rfl) rfl rfl <| WL_nil <| x_then <| C_ret <| x_then_ret ?_
      replace H := H.drop 0 rfl
      dsimp only [List.eraseIdx] at H
      obtain rfl := Option.some.inj hF
      exact fn_ret (l := [.tmp 4]) (vs := [.bool false]) rfl rfl rfl ⟨ρ, false, rfl, rfl, (View.le_trans lw98 lw107), H⟩
     ·replace hF := itF hb hF
      refine C_skip <| x_then <| C_seq <| C_seq <| R_nd <| nq (Q_move rfl) rfl rfl <| nq (Q_neq rfl rfl) rfl rfl <| WL_nil <| x_then ?_
      refine C_cond rfl (fun hb => ?_) (fun hb => ?_)
      ·replace hF := itT hb hF
       refine C_seq <| R_nd <| nq (Q_assign rfl) rfl rfl <| WL_nil <| x_then <| C_ret <| x_then_ret ?_
       replace H := H.drop 0 rfl
       dsimp only [List.eraseIdx] at H
       obtain rfl := Option.some.inj hF
       exact fn_ret (l := [.tmp 4]) (vs := [.bool true]) rfl rfl rfl ⟨ρ, true, rfl, rfl, (View.le_trans lw98 lw107), H⟩
      ·replace hF := itF hb hF
       refine C_skip <| x_then <| C_seq <| R_nd <| nq (Q_move rfl) rfl rfl ?_
       obtain ⟨q141, hq141, hF⟩ := bnd hF
       refine ne (E_call fn16 rfl (c_16_1 H gle   hq141)) rfl rfl ?_
       rintro _ wd152 ⟨ρ, v143, c144, x145, x146, x147, x148, x149, rfl, rfl, lw150, r151, H⟩
       try dsimp only at hF
       replace r6 := RdSl.up lw150 r6
       replace gle := GErrs.up lw150 gle
       refine nq (Q_move rfl) rfl rfl <| nq (Q_extract rfl rfl) rfl rfl <| nq (Q_extract rfl rfl) rfl rfl <| ne (E_alloc H ty43 (zs := [.int .i64 0, .int .i64 0, .int .i64 0, .slice none 0 0]) rfl) rfl rfl ?_
       rintro _ wd154 ⟨b153, rfl, H⟩
       refine ne (E_stB (k := 0) (cs := [.int .i64 x145, .int .i64 x146, .int .i64 x147, v143]) (vs' := [.int .i64 x145, .int .i64 x146, .int .i64 x147, v143]) H rfl ty43 rfl rfl rfl rfl (one_cons rfl (one_cons rfl (one_cons rfl (one_cons (arr_cells (H.ok.get (k := 1) rfl)).2 one_nil)))) (by simp) rfl) rfl rfl ?_
       rintro _ wd155 H
       dsimp only [List.set] at H
       refine nq (Q_assign rfl) rfl rfl <| WL_nil <| x_then ?_
       obtain ⟨o161, ho161, hF⟩ := bnd hF
       refine C_cut (fun a w' => ∃ (x160 : Bool), x160 = o161 ∧ Fr 74 a [(4, .bool x160)] ∧ Hp C w' ρ (hs)) ?_ ?_
       ·refine R_nd <| nq (Q_move rfl) rfl rfl <| nq (v := .bool (!(eOk errIds x149))) (Q_eqlV Tryd.underlying25 gle rfl) rfl rfl <| nq (Q_move rfl) rfl rfl ?_
        rcases Bool.eq_false_or_eq_true (!(eOk errIds x149)) with hb | hb
        ·rw [hb]
         replace ho161 := itT hb ho161
         refine gq (v := .agg #[.int .i64 x145, .int .i64 x146, .int .i64 x147, v143]) (Q_ldB (k := 0) (cs := [.int .i64 x145, .int .i64 x146, .int .i64 x147, v143]) H.ok rfl ty43 rfl rfl rfl (fun h => nomatch h) rfl) rfl rfl rfl <| gq (v := .agg #[.int .i64 x1, .int .i64 x2, .int .i64 x3, v4]) (Q_ldB (k := 2) (cs := [.int .i64 x1, .int .i64 x2, .int .i64 x3, v4]) H.ok rfl ty43 rfl rfl rfl (fun h => nomatch h) rfl) rfl rfl rfl ?_
         replace H := H.f1
         obtain ⟨q162, hq162, ho161⟩ := bnd ho161
         obtain ⟨C', ρ', hl163, HA, hL, hback⟩ := Hp.lend (A := []) (L := [Arr v143 1 c144]) (F := Box b153 [.int .i64 x145, .int .i64 x146, .int .i64 x147, v143] :: Box b91 [.int .i64 x1, .int .i64 x2, .int .i64 x3, v4] :: hs) H
         refine ge (E_call fn15 rfl (c_15_2 HA (gle.up hl163)  (arr_rd (by decide) hl163 (hL (Arr v143 1 c144) (by simp)) r151) (r6.up hl163) hq162)) rfl rfl rfl ?_
         rintro _ wd165 ⟨x164, rfl, rfl, H⟩
         try dsimp only at ho161
         replace H := hback H
         dsimp only [List.cons_append, List.nil_append] at H
         refine nq (Q_pickT rfl rfl) rfl rfl <| nq (Q_assign rfl) rfl rfl <| WL_nil ?_
         replace H := H.drop 0 rfl
         dsimp only [List.eraseIdx] at H
         replace H := H.drop 0 rfl
         dsimp only [List.eraseIdx] at H
         replace H := H.drop 0 rfl
         dsimp only [List.eraseIdx] at H
         obtain rfl := Option.some.inj ho161
         refine x_A fun a hf => ⟨x164, rfl, hf.sub ⟨rfl, trivial⟩, H⟩
        ·rw [hb]
         replace ho161 := itF hb ho161
         refine gs rfl rfl rfl rfl <| gs rfl rfl rfl rfl <| gs rfl rfl rfl rfl <| nq (Q_pickF rfl rfl) rfl rfl <| nq (Q_assign rfl) rfl rfl <| WL_nil ?_
         replace H := H.drop 0 rfl
         dsimp only [List.eraseIdx] at H
         replace H := H.drop 0 rfl
         dsimp only [List.eraseIdx] at H
         replace H := H.drop 0 rfl
         dsimp only [List.eraseIdx] at H
         obtain rfl := Option.some.inj ho161
         refine x_A fun a hf => ⟨false, rfl, hf.sub ⟨rfl, trivial⟩, H⟩
       ·rintro a wd166 ⟨x160, rfl, hf, H⟩
        try dsimp only at hF
        refine CW.at hf <| C_ret ?_
        obtain rfl := Option.some.inj hF
        exact fn_ret (l := [.tmp 4]) (vs := [.bool x160]) rfl rfl rfl ⟨ρ, x160, rfl, rfl, (View.le_trans lw98 (View.le_trans lw107 lw150)), H⟩
end Go.Proofs.YticipjjhbebegaaDoor
