/-
  The walks of the law ScriptLines, printed by my program, part 2: each function of the code computes its pure function.
-/
import Derived.Test.YticipjjhbebegaaDoorScriptLinesa
namespace Go.Proofs.YticipjjhbebegaaDoor
open Go Go.Eng
set_option maxRecDepth 100000
theorem c_26_1 {N : Nat} {C : Cx} {w : World} {ρ : View} {hs : List Hl} {x1 : Int} (H : Hp C w ρ (hs)) {gV : Nat → Value} (_gle : GErrs ρ 137 errIds gV) {r : (ByteArray × ByteArray)} (hF : F_dofferref36_Form_1 N x1 = some r) :
  Calls Tryd.prog 26 [.int .i64 x1].toArray w (Rets (fun v w' => (∃ (x117 : ByteArray) (x118 : ByteArray), (x117, x118) = r ∧ .tuple [.string x117, .string x118].toArray = v ∧ Hp C w' ρ (hs)))) := by
 unfold F_dofferref36_Form_1 at hF
 have h0 : Tryd.f26.body = some _ := rfl
 refine fn_calls' Tryd.func26 h0 (n := 20) rfl (by simp) <| C_seq <| R_nd <| nq (Q_assign rfl) rfl rfl <| nq (Q_assign rfl) rfl rfl <| WL_nil <| x_then <| C_seq ?_
 obtain ⟨o120, ho120, hF⟩ := bnd hF
 refine C_cut (fun a w' => ∃ (x119 : Bool), x119 = o120 ∧ Fr 20 a [(0, .int .i64 x1), (9, .bool x119)] ∧ Hp C w' ρ (hs)) ?_ ?_
 ·refine R_nd <| nq (Q_move rfl) rfl rfl <| nq (Q_lss rfl rfl) rfl rfl <| nq (Q_move rfl) rfl rfl ?_
  rcases Bool.eq_false_or_eq_true (decide (x1 < 1)) with hb | hb
  ·rw [hb]
   replace ho120 := itT hb ho120
   refine gs rfl rfl rfl rfl <| gs rfl rfl rfl rfl <| nq (Q_pickT rfl rfl) rfl rfl <| WL_nil ?_
   obtain rfl := Option.some.inj ho120
   refine x_A fun a hf => ⟨true, rfl, hf.sub ⟨rfl, rfl, trivial⟩, H⟩
  ·rw [hb]
   replace ho120 := itF hb ho120
   refine gq (Q_move rfl) rfl rfl rfl <| gq (Q_gtr rfl rfl) rfl rfl rfl <| nq (Q_pickF rfl rfl) rfl rfl <| WL_nil ?_
   obtain rfl := Option.some.inj ho120
   refine x_A fun a hf => ⟨decide (x1 > 7), rfl, hf.sub ⟨rfl, rfl, trivial⟩, H⟩
 ·rintro a wd121 ⟨x119, rfl, hf, H⟩
  try dsimp only at hF
  refine CW.at hf ?_
  refine C_cond rfl (fun hb => ?_) (fun hb => ?_)
  ·replace hF := itT hb hF
   refine C_seq <| R_nd <| nq (Q_assign rfl) rfl rfl <| nq (Q_assign rfl) rfl rfl <| WL_nil <| x_then <| C_ret <| x_then_ret ?_
   obtain rfl := Option.some.inj hF
   exact fn_ret (l := [.tmp 2, .tmp 3]) (vs := [.string ByteArray.empty, .string ByteArray.empty]) rfl rfl rfl ⟨ByteArray.empty, ByteArray.empty, rfl, rfl, H⟩
  ·replace hF := itF hb hF
   refine C_skip <| x_then ?_
   obtain ⟨o178, ho178, hF⟩ := bnd hF
   refine C_cut (fun a w' => ∃ (x176 : ByteArray) (x177 : ByteArray), (x176, x177) = o178 ∧ Fr 20 a [(2, .string x176), (3, .string x177)] ∧ Hp C w' ρ (hs)) ?_ ?_
   ·refine R_dr (.take 1 (.take 2 (.take 6 (.take 7 (.two 0 5 (.take 3 (.two 4 5 (.take 10 (.one 5 (.take 8 (.one 9 (.take 11 .done))))) (.take 8 (.two 4 9 (.take 10 (.one 9 (.take 11 .done))) (.one 4 (.take 10 (.take 11 .done))))))) (.take 8 (.two 0 9 (.take 3 (.two 4 9 (.take 10 (.one 9 (.take 11 .done))) (.one 4 (.take 10 (.take 11 .done))))) (.one 0 (.take 3 (.one 4 (.take 10 (.take 11 .done)))))))))))) (fun w' => Ok w' ρ []) (by kernel_rfl) (by kernel_rfl) (by kernel_rfl) (H.drew.okS (by simp)) ?_
    replace H := H.drew
    refine dq rfl (fun _ _ => Q_move rfl) rfl rfl <| dq rfl (fun _ _ => Q_sub rfl rfl) rfl rfl <| dq rfl (fun _ _ => Q_move rfl) rfl rfl <| dq rfl (fun _ _ => Q_sub rfl rfl) rfl rfl ?_
    refine d2 ?_ ?_
    ·refine de rfl (E_bslice (xs := [.const (.string ⟨#[111, 112, 101, 110]⟩), .const (.string ⟨#[102, 101, 101, 100]⟩), .const (.string ⟨#[99, 108, 111, 115, 101]⟩), .const (.string ⟨#[105, 110, 115, 116, 97, 108, 108]⟩), .const (.string ⟨#[100, 114, 97, 105, 110]⟩), .const (.string ⟨#[116, 105, 99, 107]⟩), .const (.string ⟨#[101, 110, 100]⟩)]) (vs := [.string (⟨#[111, 112, 101, 110]⟩ : ByteArray), .string (⟨#[102, 101, 101, 100]⟩ : ByteArray), .string (⟨#[99, 108, 111, 115, 101]⟩ : ByteArray), .string (⟨#[105, 110, 115, 116, 97, 108, 108]⟩ : ByteArray), .string (⟨#[100, 114, 97, 105, 110]⟩ : ByteArray), .string (⟨#[116, 105, 99, 107]⟩ : ByteArray), .string (⟨#[101, 110, 100]⟩ : ByteArray)]) H Tryd.underlying32 ty9 (by decide) (cs := [.string (⟨#[111, 112, 101, 110]⟩ : ByteArray), .string (⟨#[102, 101, 101, 100]⟩ : ByteArray), .string (⟨#[99, 108, 111, 115, 101]⟩ : ByteArray), .string (⟨#[105, 110, 115, 116, 97, 108, 108]⟩ : ByteArray), .string (⟨#[100, 114, 97, 105, 110]⟩ : ByteArray), .string (⟨#[116, 105, 99, 107]⟩ : ByteArray), .string (⟨#[101, 110, 100]⟩ : ByteArray)]) rfl (sz_cons rfl (sz_cons rfl (sz_cons rfl (sz_cons rfl (sz_cons rfl (sz_cons rfl (sz_cons rfl sz_nil))))))) rfl (by simp) (by simp) rfl rfl) rfl rfl ?_
     rintro _ wd180 ⟨b179, rfl, H⟩
     refine ⟨H.okS (by simp), ?_⟩
     obtain ⟨x181, hx181, ho178⟩ := bnd ho178
     obtain ⟨b182, o183, hi187, hc185, ha186⟩ := arr_at (en := eS) (hs := [Arr (.slice (some ⟨b179, 0, none⟩) 7 7) 1 ([.string (⟨#[111, 112, 101, 110]⟩ : ByteArray), .string (⟨#[102, 101, 101, 100]⟩ : ByteArray), .string (⟨#[99, 108, 111, 115, 101]⟩ : ByteArray), .string (⟨#[105, 110, 115, 116, 97, 108, 108]⟩ : ByteArray), .string (⟨#[100, 114, 97, 105, 110]⟩ : ByteArray), .string (⟨#[116, 105, 99, 107]⟩ : ByteArray), .string (⟨#[101, 110, 100]⟩ : ByteArray)])]) (k := 0) (by decide) (H.okS (by simp)) rfl (show rdL eS ρ ([(⟨#[111, 112, 101, 110]⟩ : ByteArray), (⟨#[102, 101, 101, 100]⟩ : ByteArray), (⟨#[99, 108, 111, 115, 101]⟩ : ByteArray), (⟨#[105, 110, 115, 116, 97, 108, 108]⟩ : ByteArray), (⟨#[100, 114, 97, 105, 110]⟩ : ByteArray), (⟨#[116, 105, 99, 107]⟩ : ByteArray), (⟨#[101, 110, 100]⟩ : ByteArray)]) ([.string (⟨#[111, 112, 101, 110]⟩ : ByteArray), .string (⟨#[102, 101, 101, 100]⟩ : ByteArray), .string (⟨#[99, 108, 111, 115, 101]⟩ : ByteArray), .string (⟨#[105, 110, 115, 116, 97, 108, 108]⟩ : ByteArray), .string (⟨#[100, 114, 97, 105, 110]⟩ : ByteArray), .string (⟨#[116, 105, 99, 107]⟩ : ByteArray), .string (⟨#[101, 110, 100]⟩ : ByteArray)]) from ⟨([.string (⟨#[111, 112, 101, 110]⟩ : ByteArray)]), _, rfl, rfl, ⟨([.string (⟨#[102, 101, 101, 100]⟩ : ByteArray)]), _, rfl, rfl, ⟨([.string (⟨#[99, 108, 111, 115, 101]⟩ : ByteArray)]), _, rfl, rfl, ⟨([.string (⟨#[105, 110, 115, 116, 97, 108, 108]⟩ : ByteArray)]), _, rfl, rfl, ⟨([.string (⟨#[100, 114, 97, 105, 110]⟩ : ByteArray)]), _, rfl, rfl, ⟨([.string (⟨#[116, 105, 99, 107]⟩ : ByteArray)]), _, rfl, rfl, ⟨([.string (⟨#[101, 110, 100]⟩ : ByteArray)]), _, rfl, rfl, rdL.nil⟩⟩⟩⟩⟩⟩⟩) hx181
     refine dq rfl (fun _ _ => Q_idx hi187 Tryd.underlying32 ty9 rfl rfl) rfl rfl ?_
     refine d2 ?_ ?_
     ·refine de rfl (Eff.quiet (v := .string x181) (Q_ld (show cellsAt _ _ _ [.string x181] from (show _ = [_] from hc185) ▸ (ha186 _ (Ok.subS (by simp) H.ok))) ty9 rfl (fun _ => rfl) rfl rfl)) rfl rfl ?_
      rintro _ _ ⟨rfl, rfl⟩
      refine ⟨H.okS (by simp), ?_⟩
      refine dq rfl (fun _ _ => Q_assign rfl) rfl rfl ?_
      refine d1 (de rfl (E_bslice (xs := [.const (.string ⟨#[]⟩), .const (.string ⟨#[110, 98]⟩), .const (.string ⟨#[110]⟩), .const (.string ⟨#[110, 98]⟩), .const (.string ⟨#[110, 109]⟩), .const (.string ⟨#[]⟩), .const (.string ⟨#[110, 109]⟩)]) (vs := [.string ByteArray.empty, .string (⟨#[110, 98]⟩ : ByteArray), .string (⟨#[110]⟩ : ByteArray), .string (⟨#[110, 98]⟩ : ByteArray), .string (⟨#[110, 109]⟩ : ByteArray), .string ByteArray.empty, .string (⟨#[110, 109]⟩ : ByteArray)]) H Tryd.underlying32 ty9 (by decide) (cs := [.string ByteArray.empty, .string (⟨#[110, 98]⟩ : ByteArray), .string (⟨#[110]⟩ : ByteArray), .string (⟨#[110, 98]⟩ : ByteArray), .string (⟨#[110, 109]⟩ : ByteArray), .string ByteArray.empty, .string (⟨#[110, 109]⟩ : ByteArray)]) rfl (sz_cons rfl (sz_cons rfl (sz_cons rfl (sz_cons rfl (sz_cons rfl (sz_cons rfl (sz_cons rfl sz_nil))))))) rfl (by simp) (by simp) rfl rfl) rfl rfl ?_)
      rintro _ wd189 ⟨b188, rfl, H⟩
      refine ⟨H.okS (by simp), ?_⟩
      obtain ⟨x190, hx190, ho178⟩ := bnd ho178
      obtain ⟨b191, o192, hi196, hc194, ha195⟩ := arr_at (en := eS) (hs := [Arr (.slice (some ⟨b188, 0, none⟩) 7 7) 1 ([.string ByteArray.empty, .string (⟨#[110, 98]⟩ : ByteArray), .string (⟨#[110]⟩ : ByteArray), .string (⟨#[110, 98]⟩ : ByteArray), .string (⟨#[110, 109]⟩ : ByteArray), .string ByteArray.empty, .string (⟨#[110, 109]⟩ : ByteArray)])]) (k := 0) (by decide) (H.okS (by simp)) rfl (show rdL eS ρ ([ByteArray.empty, (⟨#[110, 98]⟩ : ByteArray), (⟨#[110]⟩ : ByteArray), (⟨#[110, 98]⟩ : ByteArray), (⟨#[110, 109]⟩ : ByteArray), ByteArray.empty, (⟨#[110, 109]⟩ : ByteArray)]) ([.string ByteArray.empty, .string (⟨#[110, 98]⟩ : ByteArray), .string (⟨#[110]⟩ : ByteArray), .string (⟨#[110, 98]⟩ : ByteArray), .string (⟨#[110, 109]⟩ : ByteArray), .string ByteArray.empty, .string (⟨#[110, 109]⟩ : ByteArray)]) from ⟨([.string ByteArray.empty]), _, rfl, rfl, ⟨([.string (⟨#[110, 98]⟩ : ByteArray)]), _, rfl, rfl, ⟨([.string (⟨#[110]⟩ : ByteArray)]), _, rfl, rfl, ⟨([.string (⟨#[110, 98]⟩ : ByteArray)]), _, rfl, rfl, ⟨([.string (⟨#[110, 109]⟩ : ByteArray)]), _, rfl, rfl, ⟨([.string ByteArray.empty]), _, rfl, rfl, ⟨([.string (⟨#[110, 109]⟩ : ByteArray)]), _, rfl, rfl, rdL.nil⟩⟩⟩⟩⟩⟩⟩) hx190
      refine dq rfl (fun _ _ => Q_idx hi196 Tryd.underlying32 ty9 rfl rfl) rfl rfl ?_
      refine d1 (de rfl (Eff.quiet (v := .string x190) (Q_ld (show cellsAt _ _ _ [.string x190] from (show _ = [_] from hc194) ▸ (ha195 _ (Ok.subS (by simp) H.ok))) ty9 rfl (fun _ => rfl) rfl rfl)) rfl rfl ?_)
      rintro _ _ ⟨rfl, rfl⟩
      refine ⟨H.okS (by simp), ?_⟩
      refine dq rfl (fun _ _ => Q_assign rfl) rfl rfl <| DL_nil ?_
      replace H := H.drop 0 rfl
      dsimp only [List.eraseIdx] at H
      replace H := H.drop 0 rfl
      dsimp only [List.eraseIdx] at H
      obtain rfl := Option.some.inj ho178
      refine x_A fun a hf => ⟨x181, x190, rfl, hf.sub ⟨rfl, rfl, trivial⟩, H⟩
     ·refine de rfl (E_bslice (xs := [.const (.string ⟨#[]⟩), .const (.string ⟨#[110, 98]⟩), .const (.string ⟨#[110]⟩), .const (.string ⟨#[110, 98]⟩), .const (.string ⟨#[110, 109]⟩), .const (.string ⟨#[]⟩), .const (.string ⟨#[110, 109]⟩)]) (vs := [.string ByteArray.empty, .string (⟨#[110, 98]⟩ : ByteArray), .string (⟨#[110]⟩ : ByteArray), .string (⟨#[110, 98]⟩ : ByteArray), .string (⟨#[110, 109]⟩ : ByteArray), .string ByteArray.empty, .string (⟨#[110, 109]⟩ : ByteArray)]) H Tryd.underlying32 ty9 (by decide) (cs := [.string ByteArray.empty, .string (⟨#[110, 98]⟩ : ByteArray), .string (⟨#[110]⟩ : ByteArray), .string (⟨#[110, 98]⟩ : ByteArray), .string (⟨#[110, 109]⟩ : ByteArray), .string ByteArray.empty, .string (⟨#[110, 109]⟩ : ByteArray)]) rfl (sz_cons rfl (sz_cons rfl (sz_cons rfl (sz_cons rfl (sz_cons rfl (sz_cons rfl (sz_cons rfl sz_nil))))))) rfl (by simp) (by simp) rfl rfl) rfl rfl ?_
      rintro _ wd198 ⟨b197, rfl, H⟩
      refine ⟨H.okS (by simp), ?_⟩
      obtain ⟨x199, hx199, ho178⟩ := bnd ho178
      obtain ⟨b200, o201, hi205, hc203, ha204⟩ := arr_at (en := eS) (hs := [Arr (.slice (some ⟨b197, 0, none⟩) 7 7) 1 ([.string ByteArray.empty, .string (⟨#[110, 98]⟩ : ByteArray), .string (⟨#[110]⟩ : ByteArray), .string (⟨#[110, 98]⟩ : ByteArray), .string (⟨#[110, 109]⟩ : ByteArray), .string ByteArray.empty, .string (⟨#[110, 109]⟩ : ByteArray)])]) (k := 0) (by decide) (H.okS (by simp)) rfl (show rdL eS ρ ([ByteArray.empty, (⟨#[110, 98]⟩ : ByteArray), (⟨#[110]⟩ : ByteArray), (⟨#[110, 98]⟩ : ByteArray), (⟨#[110, 109]⟩ : ByteArray), ByteArray.empty, (⟨#[110, 109]⟩ : ByteArray)]) ([.string ByteArray.empty, .string (⟨#[110, 98]⟩ : ByteArray), .string (⟨#[110]⟩ : ByteArray), .string (⟨#[110, 98]⟩ : ByteArray), .string (⟨#[110, 109]⟩ : ByteArray), .string ByteArray.empty, .string (⟨#[110, 109]⟩ : ByteArray)]) from ⟨([.string ByteArray.empty]), _, rfl, rfl, ⟨([.string (⟨#[110, 98]⟩ : ByteArray)]), _, rfl, rfl, ⟨([.string (⟨#[110]⟩ : ByteArray)]), _, rfl, rfl, ⟨([.string (⟨#[110, 98]⟩ : ByteArray)]), _, rfl, rfl, ⟨([.string (⟨#[110, 109]⟩ : ByteArray)]), _, rfl, rfl, ⟨([.string ByteArray.empty]), _, rfl, rfl, ⟨([.string (⟨#[110, 109]⟩ : ByteArray)]), _, rfl, rfl, rdL.nil⟩⟩⟩⟩⟩⟩⟩) hx199
      refine dq rfl (fun _ _ => Q_idx hi205 Tryd.underlying32 ty9 rfl rfl) rfl rfl ?_
      refine d2 ?_ ?_
      ·refine de rfl (Eff.quiet (v := .string x181) (Q_ld (show cellsAt _ _ _ [.string x181] from (show _ = [_] from hc185) ▸ (ha186 _ (Ok.subS (by simp) H.ok))) ty9 rfl (fun _ => rfl) rfl rfl)) rfl rfl ?_
       rintro _ _ ⟨rfl, rfl⟩
       refine ⟨H.okS (by simp), ?_⟩
       refine dq rfl (fun _ _ => Q_assign rfl) rfl rfl ?_
       refine d1 (de rfl (Eff.quiet (v := .string x199) (Q_ld (show cellsAt _ _ _ [.string x199] from (show _ = [_] from hc203) ▸ (ha204 _ (Ok.subS (by simp) H.ok))) ty9 rfl (fun _ => rfl) rfl rfl)) rfl rfl ?_)
       rintro _ _ ⟨rfl, rfl⟩
       refine ⟨H.okS (by simp), ?_⟩
       refine dq rfl (fun _ _ => Q_assign rfl) rfl rfl <| DL_nil ?_
       replace H := H.drop 0 rfl
       dsimp only [List.eraseIdx] at H
       replace H := H.drop 0 rfl
       dsimp only [List.eraseIdx] at H
       obtain rfl := Option.some.inj ho178
       refine x_A fun a hf => ⟨x181, x199, rfl, hf.sub ⟨rfl, rfl, trivial⟩, H⟩
      ·refine de rfl (Eff.quiet (v := .string x199) (Q_ld (show cellsAt _ _ _ [.string x199] from (show _ = [_] from hc203) ▸ (ha204 _ (Ok.subS (by simp) H.ok))) ty9 rfl (fun _ => rfl) rfl rfl)) rfl rfl ?_
       rintro _ _ ⟨rfl, rfl⟩
       refine ⟨H.okS (by simp), ?_⟩
       refine d1 (de rfl (Eff.quiet (v := .string x181) (Q_ld (show cellsAt _ _ _ [.string x181] from (show _ = [_] from hc185) ▸ (ha186 _ (Ok.subS (by simp) H.ok))) ty9 rfl (fun _ => rfl) rfl rfl)) rfl rfl ?_)
       rintro _ _ ⟨rfl, rfl⟩
       refine ⟨H.okS (by simp), ?_⟩
       refine dq rfl (fun _ _ => Q_assign rfl) rfl rfl <| dq rfl (fun _ _ => Q_assign rfl) rfl rfl <| DL_nil ?_
       replace H := H.drop 0 rfl
       dsimp only [List.eraseIdx] at H
       replace H := H.drop 0 rfl
       dsimp only [List.eraseIdx] at H
       obtain rfl := Option.some.inj ho178
       refine x_A fun a hf => ⟨x181, x199, rfl, hf.sub ⟨rfl, rfl, trivial⟩, H⟩
    ·refine de rfl (E_bslice (xs := [.const (.string ⟨#[]⟩), .const (.string ⟨#[110, 98]⟩), .const (.string ⟨#[110]⟩), .const (.string ⟨#[110, 98]⟩), .const (.string ⟨#[110, 109]⟩), .const (.string ⟨#[]⟩), .const (.string ⟨#[110, 109]⟩)]) (vs := [.string ByteArray.empty, .string (⟨#[110, 98]⟩ : ByteArray), .string (⟨#[110]⟩ : ByteArray), .string (⟨#[110, 98]⟩ : ByteArray), .string (⟨#[110, 109]⟩ : ByteArray), .string ByteArray.empty, .string (⟨#[110, 109]⟩ : ByteArray)]) H Tryd.underlying32 ty9 (by decide) (cs := [.string ByteArray.empty, .string (⟨#[110, 98]⟩ : ByteArray), .string (⟨#[110]⟩ : ByteArray), .string (⟨#[110, 98]⟩ : ByteArray), .string (⟨#[110, 109]⟩ : ByteArray), .string ByteArray.empty, .string (⟨#[110, 109]⟩ : ByteArray)]) rfl (sz_cons rfl (sz_cons rfl (sz_cons rfl (sz_cons rfl (sz_cons rfl (sz_cons rfl (sz_cons rfl sz_nil))))))) rfl (by simp) (by simp) rfl rfl) rfl rfl ?_
     rintro _ wd207 ⟨b206, rfl, H⟩
     refine ⟨H.okS (by simp), ?_⟩
     obtain ⟨x208, hx208, ho178⟩ := bnd ho178
     obtain ⟨x209, hx209, ho178⟩ := bnd ho178
     obtain ⟨b210, o211, hi215, hc213, ha214⟩ := arr_at (en := eS) (hs := [Arr (.slice (some ⟨b206, 0, none⟩) 7 7) 1 ([.string ByteArray.empty, .string (⟨#[110, 98]⟩ : ByteArray), .string (⟨#[110]⟩ : ByteArray), .string (⟨#[110, 98]⟩ : ByteArray), .string (⟨#[110, 109]⟩ : ByteArray), .string ByteArray.empty, .string (⟨#[110, 109]⟩ : ByteArray)])]) (k := 0) (by decide) (H.okS (by simp)) rfl (show rdL eS ρ ([ByteArray.empty, (⟨#[110, 98]⟩ : ByteArray), (⟨#[110]⟩ : ByteArray), (⟨#[110, 98]⟩ : ByteArray), (⟨#[110, 109]⟩ : ByteArray), ByteArray.empty, (⟨#[110, 109]⟩ : ByteArray)]) ([.string ByteArray.empty, .string (⟨#[110, 98]⟩ : ByteArray), .string (⟨#[110]⟩ : ByteArray), .string (⟨#[110, 98]⟩ : ByteArray), .string (⟨#[110, 109]⟩ : ByteArray), .string ByteArray.empty, .string (⟨#[110, 109]⟩ : ByteArray)]) from ⟨([.string ByteArray.empty]), _, rfl, rfl, ⟨([.string (⟨#[110, 98]⟩ : ByteArray)]), _, rfl, rfl, ⟨([.string (⟨#[110]⟩ : ByteArray)]), _, rfl, rfl, ⟨([.string (⟨#[110, 98]⟩ : ByteArray)]), _, rfl, rfl, ⟨([.string (⟨#[110, 109]⟩ : ByteArray)]), _, rfl, rfl, ⟨([.string ByteArray.empty]), _, rfl, rfl, ⟨([.string (⟨#[110, 109]⟩ : ByteArray)]), _, rfl, rfl, rdL.nil⟩⟩⟩⟩⟩⟩⟩) hx209
     refine dq rfl (fun _ _ => Q_idx hi215 Tryd.underlying32 ty9 rfl rfl) rfl rfl ?_
     refine d2 ?_ ?_
     ·refine de rfl (E_bslice (xs := [.const (.string ⟨#[111, 112, 101, 110]⟩), .const (.string ⟨#[102, 101, 101, 100]⟩), .const (.string ⟨#[99, 108, 111, 115, 101]⟩), .const (.string ⟨#[105, 110, 115, 116, 97, 108, 108]⟩), .const (.string ⟨#[100, 114, 97, 105, 110]⟩), .const (.string ⟨#[116, 105, 99, 107]⟩), .const (.string ⟨#[101, 110, 100]⟩)]) (vs := [.string (⟨#[111, 112, 101, 110]⟩ : ByteArray), .string (⟨#[102, 101, 101, 100]⟩ : ByteArray), .string (⟨#[99, 108, 111, 115, 101]⟩ : ByteArray), .string (⟨#[105, 110, 115, 116, 97, 108, 108]⟩ : ByteArray), .string (⟨#[100, 114, 97, 105, 110]⟩ : ByteArray), .string (⟨#[116, 105, 99, 107]⟩ : ByteArray), .string (⟨#[101, 110, 100]⟩ : ByteArray)]) H Tryd.underlying32 ty9 (by decide) (cs := [.string (⟨#[111, 112, 101, 110]⟩ : ByteArray), .string (⟨#[102, 101, 101, 100]⟩ : ByteArray), .string (⟨#[99, 108, 111, 115, 101]⟩ : ByteArray), .string (⟨#[105, 110, 115, 116, 97, 108, 108]⟩ : ByteArray), .string (⟨#[100, 114, 97, 105, 110]⟩ : ByteArray), .string (⟨#[116, 105, 99, 107]⟩ : ByteArray), .string (⟨#[101, 110, 100]⟩ : ByteArray)]) rfl (sz_cons rfl (sz_cons rfl (sz_cons rfl (sz_cons rfl (sz_cons rfl (sz_cons rfl (sz_cons rfl sz_nil))))))) rfl (by simp) (by simp) rfl rfl) rfl rfl ?_
      rintro _ wd217 ⟨b216, rfl, H⟩
      refine ⟨H.okS (by simp), ?_⟩
      obtain ⟨b218, o219, hi223, hc221, ha222⟩ := arr_at (en := eS) (hs := [Arr (.slice (some ⟨b216, 0, none⟩) 7 7) 1 ([.string (⟨#[111, 112, 101, 110]⟩ : ByteArray), .string (⟨#[102, 101, 101, 100]⟩ : ByteArray), .string (⟨#[99, 108, 111, 115, 101]⟩ : ByteArray), .string (⟨#[105, 110, 115, 116, 97, 108, 108]⟩ : ByteArray), .string (⟨#[100, 114, 97, 105, 110]⟩ : ByteArray), .string (⟨#[116, 105, 99, 107]⟩ : ByteArray), .string (⟨#[101, 110, 100]⟩ : ByteArray)])]) (k := 0) (by decide) (H.okS (by simp)) rfl (show rdL eS ρ ([(⟨#[111, 112, 101, 110]⟩ : ByteArray), (⟨#[102, 101, 101, 100]⟩ : ByteArray), (⟨#[99, 108, 111, 115, 101]⟩ : ByteArray), (⟨#[105, 110, 115, 116, 97, 108, 108]⟩ : ByteArray), (⟨#[100, 114, 97, 105, 110]⟩ : ByteArray), (⟨#[116, 105, 99, 107]⟩ : ByteArray), (⟨#[101, 110, 100]⟩ : ByteArray)]) ([.string (⟨#[111, 112, 101, 110]⟩ : ByteArray), .string (⟨#[102, 101, 101, 100]⟩ : ByteArray), .string (⟨#[99, 108, 111, 115, 101]⟩ : ByteArray), .string (⟨#[105, 110, 115, 116, 97, 108, 108]⟩ : ByteArray), .string (⟨#[100, 114, 97, 105, 110]⟩ : ByteArray), .string (⟨#[116, 105, 99, 107]⟩ : ByteArray), .string (⟨#[101, 110, 100]⟩ : ByteArray)]) from ⟨([.string (⟨#[111, 112, 101, 110]⟩ : ByteArray)]), _, rfl, rfl, ⟨([.string (⟨#[102, 101, 101, 100]⟩ : ByteArray)]), _, rfl, rfl, ⟨([.string (⟨#[99, 108, 111, 115, 101]⟩ : ByteArray)]), _, rfl, rfl, ⟨([.string (⟨#[105, 110, 115, 116, 97, 108, 108]⟩ : ByteArray)]), _, rfl, rfl, ⟨([.string (⟨#[100, 114, 97, 105, 110]⟩ : ByteArray)]), _, rfl, rfl, ⟨([.string (⟨#[116, 105, 99, 107]⟩ : ByteArray)]), _, rfl, rfl, ⟨([.string (⟨#[101, 110, 100]⟩ : ByteArray)]), _, rfl, rfl, rdL.nil⟩⟩⟩⟩⟩⟩⟩) hx208
      refine dq rfl (fun _ _ => Q_idx hi223 Tryd.underlying32 ty9 rfl rfl) rfl rfl ?_
      refine d2 ?_ ?_
      ·refine de rfl (Eff.quiet (v := .string x208) (Q_ld (show cellsAt _ _ _ [.string x208] from (show _ = [_] from hc221) ▸ (ha222 _ (Ok.subS (by simp) H.ok))) ty9 rfl (fun _ => rfl) rfl rfl)) rfl rfl ?_
       rintro _ _ ⟨rfl, rfl⟩
       refine ⟨H.okS (by simp), ?_⟩
       refine dq rfl (fun _ _ => Q_assign rfl) rfl rfl ?_
       refine d1 (de rfl (Eff.quiet (v := .string x209) (Q_ld (show cellsAt _ _ _ [.string x209] from (show _ = [_] from hc213) ▸ (ha214 _ (Ok.subS (by simp) H.ok))) ty9 rfl (fun _ => rfl) rfl rfl)) rfl rfl ?_)
       rintro _ _ ⟨rfl, rfl⟩
       refine ⟨H.okS (by simp), ?_⟩
       refine dq rfl (fun _ _ => Q_assign rfl) rfl rfl <| DL_nil ?_
       replace H := H.drop 0 rfl
       dsimp only [List.eraseIdx] at H
       replace H := H.drop 0 rfl
       dsimp only [List.eraseIdx] at H
       obtain rfl := Option.some.inj ho178
       refine x_A fun a hf => ⟨x208, x209, rfl, hf.sub ⟨rfl, rfl, trivial⟩, H⟩
      ·refine de rfl (Eff.quiet (v := .string x209) (Q_ld (show cellsAt _ _ _ [.string x209] from (show _ = [_] from hc213) ▸ (ha214 _ (Ok.subS (by simp) H.ok))) ty9 rfl (fun _ => rfl) rfl rfl)) rfl rfl ?_
       rintro _ _ ⟨rfl, rfl⟩
       refine ⟨H.okS (by simp), ?_⟩
       refine d1 (de rfl (Eff.quiet (v := .string x208) (Q_ld (show cellsAt _ _ _ [.string x208] from (show _ = [_] from hc221) ▸ (ha222 _ (Ok.subS (by simp) H.ok))) ty9 rfl (fun _ => rfl) rfl rfl)) rfl rfl ?_)
       rintro _ _ ⟨rfl, rfl⟩
       refine ⟨H.okS (by simp), ?_⟩
       refine dq rfl (fun _ _ => Q_assign rfl) rfl rfl <| dq rfl (fun _ _ => Q_assign rfl) rfl rfl <| DL_nil ?_
       replace H := H.drop 0 rfl
       dsimp only [List.eraseIdx] at H
       replace H := H.drop 0 rfl
       dsimp only [List.eraseIdx] at H
       obtain rfl := Option.some.inj ho178
       refine x_A fun a hf => ⟨x208, x209, rfl, hf.sub ⟨rfl, rfl, trivial⟩, H⟩
     ·refine de rfl (Eff.quiet (v := .string x209) (Q_ld (show cellsAt _ _ _ [.string x209] from (show _ = [_] from hc213) ▸ (ha214 _ (Ok.subS (by simp) H.ok))) ty9 rfl (fun _ => rfl) rfl rfl)) rfl rfl ?_
      rintro _ _ ⟨rfl, rfl⟩
      refine ⟨H.okS (by simp), ?_⟩
      refine d1 (de rfl (E_bslice (xs := [.const (.string ⟨#[111, 112, 101, 110]⟩), .const (.string ⟨#[102, 101, 101, 100]⟩), .const (.string ⟨#[99, 108, 111, 115, 101]⟩), .const (.string ⟨#[105, 110, 115, 116, 97, 108, 108]⟩), .const (.string ⟨#[100, 114, 97, 105, 110]⟩), .const (.string ⟨#[116, 105, 99, 107]⟩), .const (.string ⟨#[101, 110, 100]⟩)]) (vs := [.string (⟨#[111, 112, 101, 110]⟩ : ByteArray), .string (⟨#[102, 101, 101, 100]⟩ : ByteArray), .string (⟨#[99, 108, 111, 115, 101]⟩ : ByteArray), .string (⟨#[105, 110, 115, 116, 97, 108, 108]⟩ : ByteArray), .string (⟨#[100, 114, 97, 105, 110]⟩ : ByteArray), .string (⟨#[116, 105, 99, 107]⟩ : ByteArray), .string (⟨#[101, 110, 100]⟩ : ByteArray)]) H Tryd.underlying32 ty9 (by decide) (cs := [.string (⟨#[111, 112, 101, 110]⟩ : ByteArray), .string (⟨#[102, 101, 101, 100]⟩ : ByteArray), .string (⟨#[99, 108, 111, 115, 101]⟩ : ByteArray), .string (⟨#[105, 110, 115, 116, 97, 108, 108]⟩ : ByteArray), .string (⟨#[100, 114, 97, 105, 110]⟩ : ByteArray), .string (⟨#[116, 105, 99, 107]⟩ : ByteArray), .string (⟨#[101, 110, 100]⟩ : ByteArray)]) rfl (sz_cons rfl (sz_cons rfl (sz_cons rfl (sz_cons rfl (sz_cons rfl (sz_cons rfl (sz_cons rfl sz_nil))))))) rfl (by simp) (by simp) rfl rfl) rfl rfl ?_)
      rintro _ wd225 ⟨b224, rfl, H⟩
      refine ⟨H.okS (by simp), ?_⟩
      obtain ⟨b226, o227, hi231, hc229, ha230⟩ := arr_at (en := eS) (hs := [Arr (.slice (some ⟨b224, 0, none⟩) 7 7) 1 ([.string (⟨#[111, 112, 101, 110]⟩ : ByteArray), .string (⟨#[102, 101, 101, 100]⟩ : ByteArray), .string (⟨#[99, 108, 111, 115, 101]⟩ : ByteArray), .string (⟨#[105, 110, 115, 116, 97, 108, 108]⟩ : ByteArray), .string (⟨#[100, 114, 97, 105, 110]⟩ : ByteArray), .string (⟨#[116, 105, 99, 107]⟩ : ByteArray), .string (⟨#[101, 110, 100]⟩ : ByteArray)])]) (k := 0) (by decide) (H.okS (by simp)) rfl (show rdL eS ρ ([(⟨#[111, 112, 101, 110]⟩ : ByteArray), (⟨#[102, 101, 101, 100]⟩ : ByteArray), (⟨#[99, 108, 111, 115, 101]⟩ : ByteArray), (⟨#[105, 110, 115, 116, 97, 108, 108]⟩ : ByteArray), (⟨#[100, 114, 97, 105, 110]⟩ : ByteArray), (⟨#[116, 105, 99, 107]⟩ : ByteArray), (⟨#[101, 110, 100]⟩ : ByteArray)]) ([.string (⟨#[111, 112, 101, 110]⟩ : ByteArray), .string (⟨#[102, 101, 101, 100]⟩ : ByteArray), .string (⟨#[99, 108, 111, 115, 101]⟩ : ByteArray), .string (⟨#[105, 110, 115, 116, 97, 108, 108]⟩ : ByteArray), .string (⟨#[100, 114, 97, 105, 110]⟩ : ByteArray), .string (⟨#[116, 105, 99, 107]⟩ : ByteArray), .string (⟨#[101, 110, 100]⟩ : ByteArray)]) from ⟨([.string (⟨#[111, 112, 101, 110]⟩ : ByteArray)]), _, rfl, rfl, ⟨([.string (⟨#[102, 101, 101, 100]⟩ : ByteArray)]), _, rfl, rfl, ⟨([.string (⟨#[99, 108, 111, 115, 101]⟩ : ByteArray)]), _, rfl, rfl, ⟨([.string (⟨#[105, 110, 115, 116, 97, 108, 108]⟩ : ByteArray)]), _, rfl, rfl, ⟨([.string (⟨#[100, 114, 97, 105, 110]⟩ : ByteArray)]), _, rfl, rfl, ⟨([.string (⟨#[116, 105, 99, 107]⟩ : ByteArray)]), _, rfl, rfl, ⟨([.string (⟨#[101, 110, 100]⟩ : ByteArray)]), _, rfl, rfl, rdL.nil⟩⟩⟩⟩⟩⟩⟩) hx208
      refine dq rfl (fun _ _ => Q_idx hi231 Tryd.underlying32 ty9 rfl rfl) rfl rfl ?_
      refine d1 (de rfl (Eff.quiet (v := .string x208) (Q_ld (show cellsAt _ _ _ [.string x208] from (show _ = [_] from hc229) ▸ (ha230 _ (Ok.subS (by simp) H.ok))) ty9 rfl (fun _ => rfl) rfl rfl)) rfl rfl ?_)
      rintro _ _ ⟨rfl, rfl⟩
      refine ⟨H.okS (by simp), ?_⟩
      refine dq rfl (fun _ _ => Q_assign rfl) rfl rfl <| dq rfl (fun _ _ => Q_assign rfl) rfl rfl <| DL_nil ?_
      replace H := H.drop 0 rfl
      dsimp only [List.eraseIdx] at H
      replace H := H.drop 0 rfl
      dsimp only [List.eraseIdx] at H
      obtain rfl := Option.some.inj ho178
      refine x_A fun a hf => ⟨x208, x209, rfl, hf.sub ⟨rfl, rfl, trivial⟩, H⟩
   ·rintro a wd232 ⟨x176, x177, rfl, hf, H⟩
    try dsimp only at hF
    refine CW.at hf <| C_ret ?_
    obtain rfl := Option.some.inj hF
    exact fn_ret (l := [.tmp 2, .tmp 3]) (vs := [.string x176, .string x177]) rfl rfl rfl ⟨x176, x177, rfl, rfl, H⟩
theorem c_13 {N : Nat} {C : Cx} {w : World} {ρ : View} {hs : List Hl} {x1 : ByteArray} (H : Hp C w ρ (hs)) {gV : Nat → Value} (gle : GErrs ρ 137 errIds gV) {r : (Int × Int × Int × (List Int) × Int)} (hF : F_dofferref36_Parse N x1 = some r) :
  Calls Tryd.prog 13 [.string x1].toArray w (Rets (fun v w' => (∃ (v3655 : Value) (c3656 : (List Value)) (x3652 : Int) (x3653 : Int) (x3654 : Int) (x3657 : (List Int)) (x3659 : Int), (x3652, x3653, x3654, x3657, x3659) = r ∧ .tuple [.agg #[.int .i64 x3652, .int .i64 x3653, .int .i64 x3654, v3655], .int .i64 x3659].toArray = v ∧ rdL (eI .u8) ρ x3657 c3656 ∧ Hp C w' ρ (Arr v3655 1 c3656 :: hs)))) := by
 unfold F_dofferref36_Parse at hF
 have h0 : Tryd.f13.body = some _ := rfl
 refine fn_calls' Tryd.func13 h0 (n := 93) rfl (by simp) <| C_seq <| R_nd <| ne (E_alloc H ty36 (zs := [.int .i64 0, .int .i64 0, .int .i64 0, .slice none 0 0]) rfl) rfl rfl ?_
 rintro _ wd3661 ⟨b3660, rfl, H⟩
 refine nq (Q_assign rfl) rfl rfl <| WL_nil <| x_then <| C_seq <| R_nd <| nq (Q_move rfl) rfl rfl ?_
 obtain ⟨q3662, hq3662, hF⟩ := bnd hF
 refine ne (E_call fn25 rfl (c_25 H gle   hq3662)) rfl rfl ?_
 rintro _ wd3668 ⟨v3664, c3665, x3666, rfl, rfl, r3667, H⟩
 try dsimp only at hF
 refine nq (Q_assign rfl) rfl rfl <| WL_nil <| x_then <| C_seq <| C_seq <| R_nd <| nq (Q_assign rfl) rfl rfl <| WL_nil <| x_then ?_
 obtain ⟨o5488, ho5488, hF⟩ := bnd hF
 refine C_cutQ (fun a w' => .inl () = o5488 ∧ Fr 93 a [(2, .pointer (some ⟨b3660, 0, none⟩))] ∧ Hp C w' ρ (Box b3660 [.int .i64 0, .int .i64 0, .int .i64 0, .slice none 0 0] :: hs)) ?_ ?_
 ·refine C_block ?_
  replace H := H.f1
  refine C_iter (f := fun s => F_dofferref36_Parse_l0 N x3666 s) ho5488 (fun s a w' => ∃ (x6094 : Int), x6094 = s ∧ Fr 93 a [(2, .pointer (some ⟨b3660, 0, none⟩)), (4, v3664), (5, .int .i64 x6094)] ∧ Hp C w' ρ (Box b3660 [.int .i64 0, .int .i64 0, .int .i64 0, .slice none 0 0] :: Arr v3664 1 c3665 :: hs)) ?_ ?_
  ·exact fun a hf => ⟨1, rfl, hf.sub ⟨rfl, rfl, rfl, trivial⟩, H⟩
  ·rintro s o6700 a wd6703 ⟨x6094, rfl, hf, H⟩ hB6701 hO6702
   replace hB6701 : F_dofferref36_Parse_l0 N x3666 x6094 = some o6700 := hB6701
   unfold F_dofferref36_Parse_l0 at hB6701
   refine CW.at hf <| C_seq <| C_seq <| R_nd <| nq (Q_move rfl) rfl rfl <| nq (Q_leq rfl rfl) rfl rfl <| WL_nil <| x_then ?_
   refine C_cond rfl (fun hb => ?_) (fun hb => ?_)
   ·replace hB6701 := itT hb hB6701
    refine C_skip <| x_then <| C_seq <| C_block <| C_seq <| R_nd <| nq (Q_move rfl) rfl rfl ?_
    obtain ⟨q6704, hq6704, hB6701⟩ := bnd hB6701
    refine ne (E_call fn26 rfl (c_26_1 H gle   hq6704)) rfl rfl ?_
    rintro _ wd6708 ⟨x6706, x6707, rfl, rfl, H⟩
    try dsimp only at hB6701
    refine nq (Q_move rfl) rfl rfl <| nq (Q_extract rfl rfl) rfl rfl <| nq (Q_extract rfl rfl) rfl rfl <| nq (Q_assign rfl) rfl rfl <| nq (Q_assign rfl) rfl rfl <| WL_nil <| x_then <| C_seq <| C_seq <| R_nd <| nq (Q_move rfl) rfl rfl <| nq (Q_move rfl) rfl rfl ?_
    obtain ⟨x6709, hx6709, hB6701⟩ := bnd hB6701
    obtain ⟨b6710, o6711, hi6715, hc6713, ha6714⟩ := arr_at (hs := [Arr v3664 1 c3665]) (k := 0) (by decide) (H.okS (by simp)) rfl r3667 hx6709
    refine nq (Q_idx hi6715 Tryd.underlying32 ty9 rfl rfl) rfl rfl <| nq (v := .string x6709) (Q_ld (show cellsAt _ _ _ [.string x6709] from (show _ = [_] from hc6713) ▸ (ha6714 _ (Ok.subS (by simp) H.ok))) ty9 rfl (fun _ => rfl) rfl rfl) rfl rfl <| nq (v := .bool (x6706.toList != x6709.toList)) (Q_neqStr Tryd.underlying9 rfl rfl) rfl rfl <| WL_nil <| x_then ?_
    refine C_cond rfl (fun hb => ?_) (fun hb => ?_)
    ·replace hB6701 := itT hb hB6701
     refine C_exit <| x_then_exit <| x_block_exit <| x_then <| R_nd <| nq (Q_move rfl) rfl rfl <| nq (Q_add rfl rfl) rfl rfl <| nq (Q_assign rfl) rfl rfl <| WL_nil ?_
     replace H := H.f1
     replace H := H.f1
     obtain rfl := Option.some.inj hB6701
     refine x_A fun a hf => ⟨_, rfl, w64 (x6094 + 1), rfl, hf.sub ⟨rfl, rfl, rfl, trivial⟩, H⟩
    ·replace hB6701 := itF hb hB6701
     refine C_skip <| x_then <| C_seq <| C_seq <| R_nd <| nq (Q_move rfl) rfl rfl <| nq (Q_lenA (k := 1) H.ok rfl r3667 (by decide) Tryd.underlying32 rfl) rfl rfl <| nq (Q_move rfl) rfl rfl <| nq (Q_lenStr Tryd.underlying9 rfl) rfl rfl <| nq (Q_add rfl rfl) rfl rfl <| nq (Q_lss rfl rfl) rfl rfl <| WL_nil <| x_then ?_
     refine C_cond rfl (fun hb => ?_) (fun hb => ?_)
     ·replace hB6701 := itT hb hB6701
      refine C_seq <| R_nd <| nq (v := .agg #[.int .i64 0, .int .i64 0, .int .i64 0, .slice none 0 0]) (Q_buildS st36.choose_spec (ps := []) rfl trivial rfl) rfl rfl <| ne (E_stB (k := 0) (cs := [.int .i64 0, .int .i64 0, .int .i64 0, .slice none 0 0]) (vs' := [.int .i64 0, .int .i64 0, .int .i64 0, .slice none 0 0]) H rfl ty36 rfl rfl rfl rfl (one_cons rfl (one_cons rfl (one_cons rfl (one_cons rfl one_nil)))) (by simp) rfl) rfl rfl ?_
      rintro _ wd6716 H
      dsimp only [List.set] at H
      refine nq (Q_assign rfl) rfl rfl <| WL_nil <| x_then <| C_ret <| x_then_ret <| x_block_ret <| x_then_ret <| x_then_ret <| x_block_ret <| x_then_ret <| x_then_ret ?_
      have H := H.nilArr 1
      have hRV : RV Tryd.prog wd6716 [(2, .pointer (some ⟨b3660, 0, none⟩)), (3, .int .i64 2)] [.cell 2 36, .tmp 3] [.agg #[.int .i64 0, .int .i64 0, .int .i64 0, (.slice none 0 0)], .int .i64 2] := ⟨⟨_, rfl, run_ldv ty36 rfl (fun h => nomatch h) (box_at (H.ok.get (k := 1) rfl) 0 4)⟩, rfl, trivial⟩
      replace H := H.drop 1 rfl
      dsimp only [List.eraseIdx] at H
      replace H := H.drop 1 rfl
      dsimp only [List.eraseIdx] at H
      obtain rfl := Option.some.inj hB6701
      obtain rfl := hO6702 _ rfl
      obtain rfl := Option.some.inj (show some _ = some _ from hF)
      exact fn_retV (rs := [.cell 2 36, .tmp 3]) (vs := [.agg #[.int .i64 0, .int .i64 0, .int .i64 0, (.slice none 0 0)], .int .i64 2]) rfl hRV ⟨(.slice none 0 0), [], 0, 0, 0, [], 2, rfl, rfl, rdL.nil, H⟩
     ·replace hB6701 := itF hb hB6701
      refine C_skip <| x_then <| C_seq <| C_seq <| R_nd <| nq (Q_move rfl) rfl rfl <| nq (Q_lenA (k := 1) H.ok rfl r3667 (by decide) Tryd.underlying32 rfl) rfl rfl <| nq (Q_move rfl) rfl rfl <| nq (Q_lenStr Tryd.underlying9 rfl) rfl rfl <| nq (Q_add rfl rfl) rfl rfl <| nq (Q_gtr rfl rfl) rfl rfl <| WL_nil <| x_then ?_
      refine C_cond rfl (fun hb => ?_) (fun hb => ?_)
      ·replace hB6701 := itT hb hB6701
       refine C_seq <| R_nd <| nq (v := .agg #[.int .i64 0, .int .i64 0, .int .i64 0, .slice none 0 0]) (Q_buildS st36.choose_spec (ps := []) rfl trivial rfl) rfl rfl <| ne (E_stB (k := 0) (cs := [.int .i64 0, .int .i64 0, .int .i64 0, .slice none 0 0]) (vs' := [.int .i64 0, .int .i64 0, .int .i64 0, .slice none 0 0]) H rfl ty36 rfl rfl rfl rfl (one_cons rfl (one_cons rfl (one_cons rfl (one_cons rfl one_nil)))) (by simp) rfl) rfl rfl ?_
       rintro _ wd6717 H
       dsimp only [List.set] at H
       refine nq (Q_assign rfl) rfl rfl <| WL_nil <| x_then <| C_ret <| x_then_ret <| x_block_ret <| x_then_ret <| x_then_ret <| x_block_ret <| x_then_ret <| x_then_ret ?_
       have H := H.nilArr 1
       have hRV : RV Tryd.prog wd6717 [(2, .pointer (some ⟨b3660, 0, none⟩)), (3, .int .i64 3)] [.cell 2 36, .tmp 3] [.agg #[.int .i64 0, .int .i64 0, .int .i64 0, (.slice none 0 0)], .int .i64 3] := ⟨⟨_, rfl, run_ldv ty36 rfl (fun h => nomatch h) (box_at (H.ok.get (k := 1) rfl) 0 4)⟩, rfl, trivial⟩
       replace H := H.drop 1 rfl
       dsimp only [List.eraseIdx] at H
       replace H := H.drop 1 rfl
       dsimp only [List.eraseIdx] at H
       obtain rfl := Option.some.inj hB6701
       obtain rfl := hO6702 _ rfl
       obtain rfl := Option.some.inj (show some _ = some _ from hF)
       exact fn_retV (rs := [.cell 2 36, .tmp 3]) (vs := [.agg #[.int .i64 0, .int .i64 0, .int .i64 0, (.slice none 0 0)], .int .i64 3]) rfl hRV ⟨(.slice none 0 0), [], 0, 0, 0, [], 3, rfl, rfl, rdL.nil, H⟩
      ·replace hB6701 := itF hb hB6701
       refine C_skip <| x_then <| C_seq <| R_nd <| nq (Q_move rfl) rfl rfl <| nq (v := .agg #[.int .i64 x6094, .int .i64 0, .int .i64 0, .slice none 0 0]) (Q_buildS st36.choose_spec (ps := [(0, [.int .i64 x6094])]) rfl ⟨rfl, rfl, by simp, trivial⟩ rfl) rfl rfl <| ne (E_alloc H ty36 (zs := [.int .i64 0, .int .i64 0, .int .i64 0, .slice none 0 0]) rfl) rfl rfl ?_
       rintro _ wd6719 ⟨b6718, rfl, H⟩
       refine ne (E_stB (k := 0) (cs := [.int .i64 x6094, .int .i64 0, .int .i64 0, .slice none 0 0]) (vs' := [.int .i64 x6094, .int .i64 0, .int .i64 0, .slice none 0 0]) H rfl ty36 rfl rfl rfl rfl (one_cons rfl (one_cons rfl (one_cons rfl (one_cons rfl one_nil)))) (by simp) rfl) rfl rfl ?_
       rintro _ wd6720 H
       dsimp only [List.set] at H
       refine WL_nil <| x_then <| C_seq <| C_seq <| R_nd <| nq (Q_assign rfl) rfl rfl <| WL_nil <| x_then ?_
       obtain ⟨o7016, ho7016, hB6701⟩ := bnd hB6701
       refine C_cutQ (fun a w' => ∃ (v7012 : Value) (c7013 : (List Value)) (x7010 : Int) (x7011 : Int) (x7014 : (List Int)), .inl (x7010, x7011, x7014) = o7016 ∧ rdL (eI .u8) ρ x7014 c7013 ∧ Fr 93 a [(2, .pointer (some ⟨b3660, 0, none⟩)), (8, .pointer (some ⟨b6718, 0, none⟩))] ∧ Hp C w' ρ (Box b3660 [.int .i64 0, .int .i64 0, .int .i64 0, .slice none 0 0] :: Box b6718 [.int .i64 x6094, .int .i64 x7010, .int .i64 x7011, v7012] :: Arr v7012 1 c7013 :: hs)) ?_ ?_
       ·refine C_block ?_
        have H := H.nilArr 1
        replace H := H.f1
        replace H := H.f3
        replace H := H.f3
        refine C_iter (f := fun s => F_dofferref36_Parse_l1 N x3666 x6707 s.1 s.2.1 s.2.2.1 s.2.2.2) ho7016 (fun s a w' => ∃ (v7114 : Value) (c7115 : (List Value)) (x7112 : Int) (x7113 : Int) (x7116 : (List Int)) (x7118 : Int), (x7112, x7113, x7116, x7118) = s ∧ rdL (eI .u8) ρ x7116 c7115 ∧ Fr 93 a [(2, .pointer (some ⟨b3660, 0, none⟩)), (4, v3664), (7, .string x6707), (8, .pointer (some ⟨b6718, 0, none⟩)), (9, .int .i64 x7118)] ∧ Hp C w' ρ (Box b3660 [.int .i64 0, .int .i64 0, .int .i64 0, .slice none 0 0] :: Arr v3664 1 c3665 :: Box b6718 [.int .i64 x6094, .int .i64 x7112, .int .i64 x7113, v7114] :: Arr v7114 1 c7115 :: hs)) ?_ ?_
        ·exact fun a hf => ⟨(.slice none 0 0), [], 0, 0, [], 0, rfl, rdL.nil, hf.sub ⟨rfl, rfl, rfl, rfl, rfl, trivial⟩, H⟩
        ·rintro s o7214 a wd7217 ⟨v7114, c7115, x7112, x7113, x7116, x7118, rfl, r7117, hf, H⟩ hB7215 hO7216
         replace hB7215 : F_dofferref36_Parse_l1 N x3666 x6707 x7112 x7113 x7116 x7118 = some o7214 := hB7215
         unfold F_dofferref36_Parse_l1 at hB7215
         refine CW.at hf <| C_seq <| C_seq <| R_nd <| nq (Q_move rfl) rfl rfl <| nq (Q_move rfl) rfl rfl <| nq (Q_lenStr Tryd.underlying9 rfl) rfl rfl <| nq (Q_lss rfl rfl) rfl rfl <| WL_nil <| x_then ?_
         refine C_cond rfl (fun hb => ?_) (fun hb => ?_)
         ·replace hB7215 := itT hb hB7215
          refine C_skip <| x_then ?_
          obtain ⟨o7264, ho7264, hB7215⟩ := bnd hB7215
          refine C_cut (fun a w' => ∃ (v7260 : Value) (c7261 : (List Value)) (x7258 : Int) (x7259 : Int) (x7262 : (List Int)), .inl (x7258, x7259, x7262) = o7264 ∧ rdL (eI .u8) ρ x7262 c7261 ∧ Fr 93 a [(2, .pointer (some ⟨b3660, 0, none⟩)), (4, v3664), (7, .string x6707), (8, .pointer (some ⟨b6718, 0, none⟩)), (9, .int .i64 x7118)] ∧ Hp C w' ρ (Box b3660 [.int .i64 0, .int .i64 0, .int .i64 0, .slice none 0 0] :: Arr v3664 1 c3665 :: Box b6718 [.int .i64 x6094, .int .i64 x7258, .int .i64 x7259, v7260] :: Arr v7260 1 c7261 :: hs)) ?_ ?_
          ·refine C_block <| C_seq <| C_seq <| R_nd <| nq (Q_move rfl) rfl rfl <| nq (Q_move rfl) rfl rfl ?_
           obtain ⟨x7265, hx7265, ho7264⟩ := bnd ho7264
           refine nq (Q_ixS hx7265 Tryd.underlying9 rfl rfl) rfl rfl <| nq (Q_eql rfl rfl) rfl rfl <| WL_nil <| x_then ?_
           refine C_cond rfl (fun hb => ?_) (fun hb => ?_)
           ·replace ho7264 := itT hb ho7264
            refine C_seq <| R_nd <| nq (Q_move rfl) rfl rfl <| nq (Q_move rfl) rfl rfl <| nq (Q_add rfl rfl) rfl rfl ?_
            obtain ⟨x7266, hx7266, ho7264⟩ := bnd ho7264
            obtain ⟨b7267, o7268, hi7272, hc7270, ha7271⟩ := arr_at (hs := [Arr v3664 1 c3665]) (k := 0) (by decide) (H.okS (by simp)) rfl r3667 hx7266
            refine nq (Q_idx hi7272 Tryd.underlying32 ty9 rfl rfl) rfl rfl <| nq (v := .string x7266) (Q_ld (show cellsAt _ _ _ [.string x7266] from (show _ = [_] from hc7270) ▸ (ha7271 _ (Ok.subS (by simp) H.ok))) ty9 rfl (fun _ => rfl) rfl rfl) rfl rfl ?_
            obtain ⟨q7273, hq7273, ho7264⟩ := bnd ho7264
            refine ne (E_call fn27 rfl (c_27 H gle   hq7273)) rfl rfl ?_
            rintro _ wd7280 ⟨v7275, c7276, x7277, x7278, rfl, rfl, r7279, H⟩
            try dsimp only at ho7264
            refine nq (Q_move rfl) rfl rfl <| nq (Q_extract rfl rfl) rfl rfl <| nq (Q_extract rfl rfl) rfl rfl <| nq (Q_assign rfl) rfl rfl <| nq (Q_assign rfl) rfl rfl <| WL_nil <| x_then <| C_seq <| C_seq <| R_nd <| nq (Q_move rfl) rfl rfl <| nq (Q_neq rfl rfl) rfl rfl <| WL_nil <| x_then ?_
            refine C_cond rfl (fun hb => ?_) (fun hb => ?_)
            ·replace ho7264 := itT hb ho7264
             refine C_seq <| R_nd <| nq (v := .agg #[.int .i64 0, .int .i64 0, .int .i64 0, .slice none 0 0]) (Q_buildS st36.choose_spec (ps := []) rfl trivial rfl) rfl rfl <| nq (Q_move rfl) rfl rfl <| ne (E_stB (k := 1) (cs := [.int .i64 0, .int .i64 0, .int .i64 0, .slice none 0 0]) (vs' := [.int .i64 0, .int .i64 0, .int .i64 0, .slice none 0 0]) H rfl ty36 rfl rfl rfl rfl (one_cons rfl (one_cons rfl (one_cons rfl (one_cons rfl one_nil)))) (by simp) rfl) rfl rfl ?_
             rintro _ wd7281 H
             dsimp only [List.set] at H
             refine nq (Q_assign rfl) rfl rfl <| WL_nil <| x_then <| C_ret <| x_then_ret <| x_then_ret <| x_block_ret <| x_then_ret <| x_then_ret <| x_block_ret <| x_then_ret <| x_then_ret <| x_block_ret <| x_then_ret ?_
             refine x_then_ret <| x_block_ret <| x_then_ret <| x_then_ret ?_
             have H := H.nilArr 1
             have hRV : RV Tryd.prog wd7281 [(2, .pointer (some ⟨b3660, 0, none⟩)), (3, .int .i64 x7278)] [.cell 2 36, .tmp 3] [.agg #[.int .i64 0, .int .i64 0, .int .i64 0, (.slice none 0 0)], .int .i64 x7278] := ⟨⟨_, rfl, run_ldv ty36 rfl (fun h => nomatch h) (box_at (H.ok.get (k := 2) rfl) 0 4)⟩, rfl, trivial⟩
             replace H := H.drop 1 rfl
             dsimp only [List.eraseIdx] at H
             replace H := H.drop 1 rfl
             dsimp only [List.eraseIdx] at H
             replace H := H.drop 1 rfl
             dsimp only [List.eraseIdx] at H
             replace H := H.drop 1 rfl
             dsimp only [List.eraseIdx] at H
             replace H := H.drop 1 rfl
             dsimp only [List.eraseIdx] at H
             obtain rfl := Option.some.inj ho7264
             obtain rfl := Option.some.inj (show some _ = some _ from hB7215)
             obtain rfl := hO7216 _ rfl
             obtain rfl := Option.some.inj (show some _ = some _ from hB6701)
             obtain rfl := hO6702 _ rfl
             obtain rfl := Option.some.inj (show some _ = some _ from hF)
             exact fn_retV (rs := [.cell 2 36, .tmp 3]) (vs := [.agg #[.int .i64 0, .int .i64 0, .int .i64 0, (.slice none 0 0)], .int .i64 x7278]) rfl hRV ⟨(.slice none 0 0), [], 0, 0, 0, [], x7278, rfl, rfl, rdL.nil, H⟩
            ·replace ho7264 := itF hb ho7264
             refine C_skip <| x_then <| C_seq <| R_nd <| nq (Q_move rfl) rfl rfl <| nq (v := .pointer (some ⟨b6718, 3, none⟩)) (Q_fld Tryd.underlying36 rfl ty34 (by decide) rfl rfl) rfl rfl <| ne (E_stB (k := 3) (cs := [v7275]) (vs' := [.int .i64 x6094, .int .i64 x7112, .int .i64 x7113, v7275]) H rfl ty34 rfl rfl (arr_cells (H.ok.get (k := 0) rfl)).1 rfl (one_cons (arr_cells (H.ok.get (k := 0) rfl)).2 one_nil) (by simp) rfl) rfl rfl ?_
             rintro _ wd7282 H
             dsimp only [List.set] at H
             refine WL_nil <| x_then <| C_exit <| x_then_exit <| x_block_exit ?_
             replace H := H.f3
             replace H := H.f3
             replace H := H.f3
             replace H := H.drop 4 rfl
             dsimp only [List.eraseIdx] at H
             obtain rfl := Option.some.inj ho7264
             refine x_A fun a hf => ⟨v7275, c7276, x7112, x7113, x7277, rfl, r7279, hf.sub ⟨rfl, rfl, rfl, rfl, rfl, trivial⟩, H⟩
           ·replace ho7264 := itF hb ho7264
            refine C_skip <| x_then <| C_seq <| R_nd <| nq (Q_move rfl) rfl rfl <| nq (Q_move rfl) rfl rfl <| nq (Q_add rfl rfl) rfl rfl ?_
            obtain ⟨x7283, hx7283, ho7264⟩ := bnd ho7264
            obtain ⟨b7284, o7285, hi7289, hc7287, ha7288⟩ := arr_at (hs := [Arr v3664 1 c3665]) (k := 0) (by decide) (H.okS (by simp)) rfl r3667 hx7283
            refine nq (Q_idx hi7289 Tryd.underlying32 ty9 rfl rfl) rfl rfl <| nq (v := .string x7283) (Q_ld (show cellsAt _ _ _ [.string x7283] from (show _ = [_] from hc7287) ▸ (ha7288 _ (Ok.subS (by simp) H.ok))) ty9 rfl (fun _ => rfl) rfl rfl) rfl rfl ?_
            obtain ⟨q7290, hq7290, ho7264⟩ := bnd ho7264
            refine ne (E_call fn10 rfl (c_10 H gle   hq7290)) rfl rfl ?_
            rintro _ wd7294 ⟨x7292, x7293, rfl, rfl, H⟩
            try dsimp only at ho7264
            refine nq (Q_move rfl) rfl rfl <| nq (Q_extract rfl rfl) rfl rfl <| nq (Q_extract rfl rfl) rfl rfl <| nq (Q_assign rfl) rfl rfl <| nq (Q_assign rfl) rfl rfl <| WL_nil <| x_then <| C_seq <| C_seq <| R_nd <| nq (Q_move rfl) rfl rfl <| nq (Q_not rfl) rfl rfl <| WL_nil <| x_then ?_
            refine C_cond rfl (fun hb => ?_) (fun hb => ?_)
            ·replace ho7264 := itT hb ho7264
             refine C_seq <| R_nd <| nq (v := .agg #[.int .i64 0, .int .i64 0, .int .i64 0, .slice none 0 0]) (Q_buildS st36.choose_spec (ps := []) rfl trivial rfl) rfl rfl <| ne (E_stB (k := 0) (cs := [.int .i64 0, .int .i64 0, .int .i64 0, .slice none 0 0]) (vs' := [.int .i64 0, .int .i64 0, .int .i64 0, .slice none 0 0]) H rfl ty36 rfl rfl rfl rfl (one_cons rfl (one_cons rfl (one_cons rfl (one_cons rfl one_nil)))) (by simp) rfl) rfl rfl ?_
             rintro _ wd7295 H
             dsimp only [List.set] at H
             refine nq (Q_assign rfl) rfl rfl <| WL_nil <| x_then <| C_ret <| x_then_ret <| x_block_ret <| x_then_ret <| x_then_ret <| x_block_ret <| x_then_ret <| x_then_ret <| x_block_ret <| x_then_ret <| x_then_ret ?_
             refine x_block_ret <| x_then_ret <| x_then_ret ?_
             have H := H.nilArr 1
             have hRV : RV Tryd.prog wd7295 [(2, .pointer (some ⟨b3660, 0, none⟩)), (3, .int .i64 4)] [.cell 2 36, .tmp 3] [.agg #[.int .i64 0, .int .i64 0, .int .i64 0, (.slice none 0 0)], .int .i64 4] := ⟨⟨_, rfl, run_ldv ty36 rfl (fun h => nomatch h) (box_at (H.ok.get (k := 1) rfl) 0 4)⟩, rfl, trivial⟩
             replace H := H.drop 1 rfl
             dsimp only [List.eraseIdx] at H
             replace H := H.drop 1 rfl
             dsimp only [List.eraseIdx] at H
             replace H := H.drop 1 rfl
             dsimp only [List.eraseIdx] at H
             replace H := H.drop 1 rfl
             dsimp only [List.eraseIdx] at H
             obtain rfl := Option.some.inj ho7264
             obtain rfl := Option.some.inj (show some _ = some _ from hB7215)
             obtain rfl := hO7216 _ rfl
             obtain rfl := Option.some.inj (show some _ = some _ from hB6701)
             obtain rfl := hO6702 _ rfl
             obtain rfl := Option.some.inj (show some _ = some _ from hF)
             exact fn_retV (rs := [.cell 2 36, .tmp 3]) (vs := [.agg #[.int .i64 0, .int .i64 0, .int .i64 0, (.slice none 0 0)], .int .i64 4]) rfl hRV ⟨(.slice none 0 0), [], 0, 0, 0, [], 4, rfl, rfl, rdL.nil, H⟩
            ·replace ho7264 := itF hb ho7264
             refine C_skip <| x_then <| C_seq <| R_nd <| nq (Q_move rfl) rfl rfl <| nq (Q_move rfl) rfl rfl ?_
             obtain ⟨x7296, hx7296, ho7264⟩ := bnd ho7264
             refine nq (Q_ixS hx7296 Tryd.underlying9 rfl rfl) rfl rfl <| nq (Q_eql rfl rfl) rfl rfl <| WL_nil <| x_then ?_
             obtain ⟨o7301, ho7301, ho7264⟩ := bnd ho7264
             refine C_cutQ (fun a w' => ∃ (x7299 : Int) (x7300 : Int), (x7299, x7300) = o7301 ∧ Fr 93 a [(2, .pointer (some ⟨b3660, 0, none⟩)), (4, v3664), (7, .string x6707), (8, .pointer (some ⟨b6718, 0, none⟩)), (9, .int .i64 x7118)] ∧ Hp C w' ρ (Box b3660 [.int .i64 0, .int .i64 0, .int .i64 0, .slice none 0 0] :: Arr v3664 1 c3665 :: Box b6718 [.int .i64 x6094, .int .i64 x7299, .int .i64 x7300, v7114] :: Arr v7114 1 c7115 :: hs)) ?_ ?_
             ·refine C_cond rfl (fun hb => ?_) (fun hb => ?_)
              ·replace ho7301 := itT hb ho7301
               refine R_nd <| nq (Q_move rfl) rfl rfl <| nq (v := .pointer (some ⟨b6718, 1, none⟩)) (Q_fld Tryd.underlying36 rfl ty3 (by decide) rfl rfl) rfl rfl <| ne (E_stB (k := 2) (cs := [.int .i64 x7292]) (vs' := [.int .i64 x6094, .int .i64 x7292, .int .i64 x7113, v7114]) H rfl ty3 rfl rfl rfl rfl (one_cons rfl one_nil) (by simp) rfl) rfl rfl ?_
               rintro _ wd7302 H
               dsimp only [List.set] at H
               refine WL_nil ?_
               replace H := H.f3
               replace H := H.f3
               replace H := H.f3
               replace H := H.f3
               obtain rfl := Option.some.inj ho7301
               refine x_A fun a hf => ⟨x7292, x7113, rfl, hf.sub ⟨rfl, rfl, rfl, rfl, rfl, trivial⟩, H⟩
              ·replace ho7301 := itF hb ho7301
               refine R_nd <| nq (Q_move rfl) rfl rfl <| nq (v := .pointer (some ⟨b6718, 2, none⟩)) (Q_fld Tryd.underlying36 rfl ty3 (by decide) rfl rfl) rfl rfl <| ne (E_stB (k := 2) (cs := [.int .i64 x7292]) (vs' := [.int .i64 x6094, .int .i64 x7112, .int .i64 x7292, v7114]) H rfl ty3 rfl rfl rfl rfl (one_cons rfl one_nil) (by simp) rfl) rfl rfl ?_
               rintro _ wd7303 H
               dsimp only [List.set] at H
               refine WL_nil ?_
               replace H := H.f3
               replace H := H.f3
               replace H := H.f3
               replace H := H.f3
               obtain rfl := Option.some.inj ho7301
               refine x_A fun a hf => ⟨x7112, x7292, rfl, hf.sub ⟨rfl, rfl, rfl, rfl, rfl, trivial⟩, H⟩
             ·rintro a wd7304 ⟨x7299, x7300, rfl, hf, H⟩
              try dsimp only at ho7264
              refine XX.at hf <| x_block ?_
              replace H := H.f3
              replace H := H.f3
              replace H := H.f3
              replace H := H.f3
              obtain rfl := Option.some.inj ho7264
              refine x_A fun a hf => ⟨v7114, c7115, x7299, x7300, x7116, rfl, r7117, hf.sub ⟨rfl, rfl, rfl, rfl, rfl, trivial⟩, H⟩
          ·rintro a wd7305 ⟨v7260, c7261, x7258, x7259, x7262, rfl, r7263, hf, H⟩
           try dsimp only at hB7215
           refine CW.at hf <| R_nd <| nq (Q_move rfl) rfl rfl <| nq (Q_add rfl rfl) rfl rfl <| nq (Q_assign rfl) rfl rfl <| WL_nil ?_
           replace H := H.f3
           replace H := H.f3
           replace H := H.f3
           replace H := H.f3
           obtain rfl := Option.some.inj hB7215
           refine x_A fun a hf => ⟨_, rfl, v7260, c7261, x7258, x7259, x7262, w64 (x7118 + 1), rfl, r7263, hf.sub ⟨rfl, rfl, rfl, rfl, rfl, trivial⟩, H⟩
         ·replace hB7215 := itF hb hB7215
          refine C_exit <| x_then_exit <| x_then_exit <| x_block_exit ?_
          replace H := H.f3
          replace H := H.f3
          replace H := H.f2
          replace H := H.drop 3 rfl
          dsimp only [List.eraseIdx] at H
          obtain rfl := Option.some.inj hB7215
          obtain rfl := hO7216 _ rfl
          refine x_A fun a hf => ⟨v7114, c7115, x7112, x7113, x7116, rfl, r7117, hf.sub ⟨rfl, rfl, trivial⟩, H⟩
       ·rintro a wd7306 ⟨v7012, c7013, x7010, x7011, x7014, rfl, r7015, hf, H⟩
        try dsimp only at hB6701
        refine XX.at hf <| x_then <| C_seq <| R_nd <| nq (v := .agg #[.int .i64 x6094, .int .i64 x7010, .int .i64 x7011, v7012]) (Q_ldB (k := 1) (cs := [.int .i64 x6094, .int .i64 x7010, .int .i64 x7011, v7012]) H.ok rfl ty36 rfl rfl rfl (fun h => nomatch h) rfl) rfl rfl <| ne (E_stB (k := 0) (cs := [.int .i64 x6094, .int .i64 x7010, .int .i64 x7011, v7012]) (vs' := [.int .i64 x6094, .int .i64 x7010, .int .i64 x7011, v7012]) H rfl ty36 rfl rfl rfl rfl (one_cons rfl (one_cons rfl (one_cons rfl (one_cons (arr_cells (H.ok.get (k := 2) rfl)).2 one_nil)))) (by simp) rfl) rfl rfl ?_
        rintro _ wd7307 H
        dsimp only [List.set] at H
        refine nq (Q_assign rfl) rfl rfl <| WL_nil <| x_then <| C_ret <| x_block_ret <| x_then_ret <| x_then_ret <| x_block_ret <| x_then_ret <| x_then_ret ?_
        have hRV : RV Tryd.prog wd7307 [(2, .pointer (some ⟨b3660, 0, none⟩)), (3, .int .i64 0)] [.cell 2 36, .tmp 3] [.agg #[.int .i64 x6094, .int .i64 x7010, .int .i64 x7011, v7012], .int .i64 0] := ⟨⟨_, rfl, run_ldv ty36 rfl (fun h => nomatch h) (box_at (H.ok.get (k := 0) rfl) 0 4)⟩, rfl, trivial⟩
        replace H := H.f2
        replace H := H.drop 1 rfl
        dsimp only [List.eraseIdx] at H
        replace H := H.drop 1 rfl
        dsimp only [List.eraseIdx] at H
        obtain rfl := Option.some.inj hB6701
        obtain rfl := hO6702 _ rfl
        obtain rfl := Option.some.inj (show some _ = some _ from hF)
        exact fn_retV (rs := [.cell 2 36, .tmp 3]) (vs := [.agg #[.int .i64 x6094, .int .i64 x7010, .int .i64 x7011, v7012], .int .i64 0]) rfl hRV ⟨v7012, c7013, x6094, x7010, x7011, x7014, 0, rfl, rfl, r7015, H⟩
   ·replace hB6701 := itF hb hB6701
    refine C_exit <| x_then_exit <| x_then_exit <| x_block_exit ?_
    replace H := H.drop 1 rfl
    dsimp only [List.eraseIdx] at H
    obtain rfl := Option.some.inj hB6701
    obtain rfl := hO6702 _ rfl
    refine x_A fun a hf => ⟨rfl, hf.sub ⟨rfl, trivial⟩, H⟩
 ·rintro a wd7308 ⟨rfl, hf, H⟩
  try dsimp only at hF
  refine XX.at hf <| x_then <| C_seq <| R_nd <| nq (v := .agg #[.int .i64 0, .int .i64 0, .int .i64 0, .slice none 0 0]) (Q_buildS st36.choose_spec (ps := []) rfl trivial rfl) rfl rfl <| ne (E_stB (k := 0) (cs := [.int .i64 0, .int .i64 0, .int .i64 0, .slice none 0 0]) (vs' := [.int .i64 0, .int .i64 0, .int .i64 0, .slice none 0 0]) H rfl ty36 rfl rfl rfl rfl (one_cons rfl (one_cons rfl (one_cons rfl (one_cons rfl one_nil)))) (by simp) rfl) rfl rfl ?_
  rintro _ wd7309 H
  dsimp only [List.set] at H
  refine nq (Q_assign rfl) rfl rfl <| WL_nil <| x_then <| C_ret ?_
  have H := H.nilArr 1
  have hRV : RV Tryd.prog wd7309 [(2, .pointer (some ⟨b3660, 0, none⟩)), (3, .int .i64 5)] [.cell 2 36, .tmp 3] [.agg #[.int .i64 0, .int .i64 0, .int .i64 0, (.slice none 0 0)], .int .i64 5] := ⟨⟨_, rfl, run_ldv ty36 rfl (fun h => nomatch h) (box_at (H.ok.get (k := 1) rfl) 0 4)⟩, rfl, trivial⟩
  replace H := H.drop 1 rfl
  dsimp only [List.eraseIdx] at H
  obtain rfl := Option.some.inj hF
  exact fn_retV (rs := [.cell 2 36, .tmp 3]) (vs := [.agg #[.int .i64 0, .int .i64 0, .int .i64 0, (.slice none 0 0)], .int .i64 5]) rfl hRV ⟨(.slice none 0 0), [], 0, 0, 0, [], 5, rfl, rfl, rdL.nil, H⟩
theorem c_15 {N : Nat} {C : Cx} {w : World} {ρ : View} {hs : List Hl} {v4 : Value} {v10 : Value} {x1 : Int} {x2 : Int} {x3 : Int} {x5 : (List Int)} {x7 : Int} {x8 : Int} {x9 : Int} {x11 : (List Int)} (H : Hp C w ρ (hs)) {gV : Nat → Value} (_gle : GErrs ρ 137 errIds gV) (r6 : RdSl ρ (eI .u8) v4 x5) (r12 : RdSl ρ (eI .u8) v10 x11) {r : Bool} (hF : F_dofferref36_Same N x1 x2 x3 x5 x7 x8 x9 x11 = some r) :
  Calls Tryd.prog 15 [.agg #[.int .i64 x1, .int .i64 x2, .int .i64 x3, v4], .agg #[.int .i64 x7, .int .i64 x8, .int .i64 x9, v10]].toArray w (Rets (fun v w' => (∃ (x24 : Bool), x24 = r ∧ .bool x24 = v ∧ Hp C w' ρ (hs)))) := by
 unfold F_dofferref36_Same at hF
 have h0 : Tryd.f15.body = some _ := rfl
 refine fn_calls' Tryd.func15 h0 (n := 33) rfl (by simp) <| C_seq <| R_nd <| ne (E_box H (vs := [.int .i64 x1, .int .i64 x2, .int .i64 x3, v4]) rfl rfl) rfl rfl ?_
 rintro _ wd26 ⟨b25, rfl, H⟩
 refine ne (E_box H (vs := [.int .i64 x7, .int .i64 x8, .int .i64 x9, v10]) rfl rfl) rfl rfl ?_
 rintro _ wd28 ⟨b27, rfl, H⟩
 refine nq (Q_assign rfl) rfl rfl <| WL_nil <| x_then ?_
 obtain ⟨o32, ho32, hF⟩ := bnd hF
 refine C_cut (fun a w' => ∃ (x31 : Bool), x31 = o32 ∧ Fr 33 a [(4, .bool x31)] ∧ Hp C w' ρ (hs)) ?_ ?_
 ·refine R_nd <| nq (v := .pointer (some ⟨b25, 0, none⟩)) (Q_fld Tryd.underlying36 rfl ty3 (by decide) rfl rfl) rfl rfl <| nq (v := .int .i64 x1) (Q_ldB (k := 1) (cs := [.int .i64 x1]) H.ok rfl ty3 rfl rfl rfl (fun _ => rfl) rfl) rfl rfl <| nq (v := .pointer (some ⟨b27, 0, none⟩)) (Q_fld Tryd.underlying36 rfl ty3 (by decide) rfl rfl) rfl rfl <| nq (v := .int .i64 x7) (Q_ldB (k := 0) (cs := [.int .i64 x7]) H.ok rfl ty3 rfl rfl rfl (fun _ => rfl) rfl) rfl rfl <| nq (Q_eql rfl rfl) rfl rfl <| nq (Q_move rfl) rfl rfl ?_
  rcases Bool.eq_false_or_eq_true (x1 == x7) with hb | hb
  ·rw [hb]
   replace ho32 := itT hb ho32
   refine gq (v := .pointer (some ⟨b25, 1, none⟩)) (Q_fld Tryd.underlying36 rfl ty3 (by decide) rfl rfl) rfl rfl rfl <| gq (v := .int .i64 x2) (Q_ldB (k := 1) (cs := [.int .i64 x2]) H.ok rfl ty3 rfl rfl rfl (fun _ => rfl) rfl) rfl rfl rfl <| gq (v := .pointer (some ⟨b27, 1, none⟩)) (Q_fld Tryd.underlying36 rfl ty3 (by decide) rfl rfl) rfl rfl rfl <| gq (v := .int .i64 x8) (Q_ldB (k := 0) (cs := [.int .i64 x8]) H.ok rfl ty3 rfl rfl rfl (fun _ => rfl) rfl) rfl rfl rfl <| gq (Q_eql rfl rfl) rfl rfl rfl <| nq (Q_pickT rfl rfl) rfl rfl <| nq (Q_move rfl) rfl rfl ?_
   rcases Bool.eq_false_or_eq_true (x2 == x8) with hb | hb
   ·rw [hb]
    replace ho32 := itT hb ho32
    refine gq (v := .pointer (some ⟨b25, 2, none⟩)) (Q_fld Tryd.underlying36 rfl ty3 (by decide) rfl rfl) rfl rfl rfl <| gq (v := .int .i64 x3) (Q_ldB (k := 1) (cs := [.int .i64 x3]) H.ok rfl ty3 rfl rfl rfl (fun _ => rfl) rfl) rfl rfl rfl <| gq (v := .pointer (some ⟨b27, 2, none⟩)) (Q_fld Tryd.underlying36 rfl ty3 (by decide) rfl rfl) rfl rfl rfl <| gq (v := .int .i64 x9) (Q_ldB (k := 0) (cs := [.int .i64 x9]) H.ok rfl ty3 rfl rfl rfl (fun _ => rfl) rfl) rfl rfl rfl <| gq (Q_eql rfl rfl) rfl rfl rfl <| nq (Q_pickT rfl rfl) rfl rfl <| nq (Q_move rfl) rfl rfl ?_
    rcases Bool.eq_false_or_eq_true (x3 == x9) with hb | hb
    ·rw [hb]
     replace ho32 := itT hb ho32
     refine gq (v := .pointer (some ⟨b25, 3, none⟩)) (Q_fld Tryd.underlying36 rfl ty34 (by decide) rfl rfl) rfl rfl rfl <| gq (v := v4) (Q_ldB (k := 1) (cs := [v4]) H.ok rfl ty34 rfl rfl rfl (fun _ => rfl) rfl) rfl rfl rfl <| ge (E_bstrR H Tryd.underlying34 Tryd.underlying5 Tryd.underlying9 rfl r6) rfl rfl rfl ?_
     rintro _ wd33 ⟨rfl, rfl⟩
     refine gq (v := .pointer (some ⟨b27, 3, none⟩)) (Q_fld Tryd.underlying36 rfl ty34 (by decide) rfl rfl) rfl rfl rfl <| gq (v := v10) (Q_ldB (k := 0) (cs := [v10]) H.ok rfl ty34 rfl rfl rfl (fun _ => rfl) rfl) rfl rfl rfl <| ge (E_bstrR H Tryd.underlying34 Tryd.underlying5 Tryd.underlying9 rfl r12) rfl rfl rfl ?_
     rintro _ wd34 ⟨rfl, rfl⟩
     refine gq (v := .bool ((bstr x5).toList == (bstr x11).toList)) (Q_eqlStr Tryd.underlying9 rfl rfl) rfl rfl rfl <| nq (Q_pickT rfl rfl) rfl rfl <| nq (Q_assign rfl) rfl rfl <| WL_nil ?_
     replace H := H.drop 0 rfl
     dsimp only [List.eraseIdx] at H
     replace H := H.drop 0 rfl
     dsimp only [List.eraseIdx] at H
     obtain rfl := Option.some.inj ho32
     refine x_A fun a hf => ⟨(bstr x5).toList == (bstr x11).toList, rfl, hf.sub ⟨rfl, trivial⟩, H⟩
    ·rw [hb]
     replace ho32 := itF hb ho32
     refine gs rfl rfl rfl rfl <| gs rfl rfl rfl rfl <| gs rfl rfl rfl rfl <| gs rfl rfl rfl rfl <| gs rfl rfl rfl rfl <| gs rfl rfl rfl rfl <| gs rfl rfl rfl rfl <| nq (Q_pickF rfl rfl) rfl rfl <| nq (Q_assign rfl) rfl rfl <| WL_nil ?_
     replace H := H.drop 0 rfl
     dsimp only [List.eraseIdx] at H
     replace H := H.drop 0 rfl
     dsimp only [List.eraseIdx] at H
     obtain rfl := Option.some.inj ho32
     refine x_A fun a hf => ⟨false, rfl, hf.sub ⟨rfl, trivial⟩, H⟩
   ·rw [hb]
    replace ho32 := itF hb ho32
    refine gs rfl rfl rfl rfl <| gs rfl rfl rfl rfl <| gs rfl rfl rfl rfl <| gs rfl rfl rfl rfl <| gs rfl rfl rfl rfl <| nq (Q_pickF rfl rfl) rfl rfl <| nq (Q_move rfl) rfl rfl <| gs rfl rfl rfl rfl <| gs rfl rfl rfl rfl <| gs rfl rfl rfl rfl <| gs rfl rfl rfl rfl <| gs rfl rfl rfl rfl <| gs rfl rfl rfl rfl <| gs rfl rfl rfl rfl ?_
    refine nq (Q_pickF rfl rfl) rfl rfl <| nq (Q_assign rfl) rfl rfl <| WL_nil ?_
    replace H := H.drop 0 rfl
    dsimp only [List.eraseIdx] at H
    replace H := H.drop 0 rfl
    dsimp only [List.eraseIdx] at H
    obtain rfl := Option.some.inj ho32
    refine x_A fun a hf => ⟨false, rfl, hf.sub ⟨rfl, trivial⟩, H⟩
  ·rw [hb]
   replace ho32 := itF hb ho32
   refine gs rfl rfl rfl rfl <| gs rfl rfl rfl rfl <| gs rfl rfl rfl rfl <| gs rfl rfl rfl rfl <| gs rfl rfl rfl rfl <| nq (Q_pickF rfl rfl) rfl rfl <| nq (Q_move rfl) rfl rfl <| gs rfl rfl rfl rfl <| gs rfl rfl rfl rfl <| gs rfl rfl rfl rfl <| gs rfl rfl rfl rfl <| gs rfl rfl rfl rfl <| nq (Q_pickF rfl rfl) rfl rfl <| nq (Q_move rfl) rfl rfl ?_
   refine gs rfl rfl rfl rfl <| gs rfl rfl rfl rfl <| gs rfl rfl rfl rfl <| gs rfl rfl rfl rfl <| gs rfl rfl rfl rfl <| gs rfl rfl rfl rfl <| gs rfl rfl rfl rfl <| nq (Q_pickF rfl rfl) rfl rfl <| nq (Q_assign rfl) rfl rfl <| WL_nil ?_
   replace H := H.drop 0 rfl
   dsimp only [List.eraseIdx] at H
   replace H := H.drop 0 rfl
   dsimp only [List.eraseIdx] at H
   obtain rfl := Option.some.inj ho32
   refine x_A fun a hf => ⟨false, rfl, hf.sub ⟨rfl, trivial⟩, H⟩
 ·rintro a wd35 ⟨x31, rfl, hf, H⟩
  try dsimp only at hF
  refine CW.at hf <| C_ret ?_
  obtain rfl := Option.some.inj hF
  exact fn_ret (l := [.tmp 4]) (vs := [.bool x31]) rfl rfl rfl ⟨x31, rfl, rfl, H⟩
theorem c_43 {N : Nat} {C : Cx} {w : World} {ρ : View} {hs : List Hl} {x1 : ByteArray} (H : Hp C w ρ (hs)) {gV : Nat → Value} (_gle : GErrs ρ 137 errIds gV) {r : Unit} (hF : F_strings_splitSeq N x1 = some r) :
  Calls Tryd.prog 43 [.string x1, .string (⟨#[10]⟩ : ByteArray), .int .i64 0].toArray w (Rets (fun v w' => (∃ (b8 : Nat) (b9 : Nat) (b10 : Nat), () = r ∧ .func (.func 53) #[] [.pointer (some ⟨b8, 0, none⟩), .pointer (some ⟨b9, 0, none⟩), .pointer (some ⟨b10, 0, none⟩)].toArray = v ∧ Hp C w' ρ (Box b8 [.string (⟨#[10]⟩ : ByteArray)] :: Box b9 [.string x1] :: Box b10 [.int .i64 0] :: hs)))) := by
 unfold F_strings_splitSeq at hF
 have h0 : Tryd.f43.body = some _ := rfl
 refine fn_calls' Tryd.func43 h0 (n := 8) rfl (by simp) <| C_seq <| R_nd <| ne (E_box H (vs := [.string x1]) rfl rfl) rfl rfl ?_
 rintro _ wd12 ⟨b11, rfl, H⟩
 refine ne (E_box H (vs := [.string (⟨#[10]⟩ : ByteArray)]) rfl rfl) rfl rfl ?_
 rintro _ wd14 ⟨b13, rfl, H⟩
 refine ne (E_box H (vs := [.int .i64 0]) rfl rfl) rfl rfl ?_
 rintro _ wd16 ⟨b15, rfl, H⟩
 refine nq (Q_assign rfl) rfl rfl <| WL_nil <| x_then <| C_seq <| R_nd <| nq (v := .func (.func 53) #[] [.pointer (some ⟨b13, 0, none⟩), .pointer (some ⟨b11, 0, none⟩), .pointer (some ⟨b15, 0, none⟩)].toArray) (Q_func rfl) rfl rfl <| nq (Q_assign rfl) rfl rfl <| WL_nil <| x_then <| C_ret ?_
 replace H := H.f2
 replace H := H.f2
 obtain rfl := Option.some.inj hF
 exact fn_ret (l := [.tmp 6]) (vs := [.func (.func 53) #[] [.pointer (some ⟨b13, 0, none⟩), .pointer (some ⟨b11, 0, none⟩), .pointer (some ⟨b15, 0, none⟩)].toArray]) rfl rfl rfl ⟨b13, b11, b15, rfl, rfl, H⟩
theorem c_28 {N : Nat} {C : Cx} {w : World} {ρ : View} {hs : List Hl} {x1 : ByteArray} (H : Hp C w ρ (hs)) {gV : Nat → Value} (gle : GErrs ρ 137 errIds gV) {r : Unit} (hF : F_strings_SplitSeq N x1 = some r) :
  Calls Tryd.prog 28 [.string x1, .string (⟨#[10]⟩ : ByteArray)].toArray w (Rets (fun v w' => (∃ (b8 : Nat) (b9 : Nat) (b10 : Nat), () = r ∧ .func (.func 53) #[] [.pointer (some ⟨b8, 0, none⟩), .pointer (some ⟨b9, 0, none⟩), .pointer (some ⟨b10, 0, none⟩)].toArray = v ∧ Hp C w' ρ (Box b8 [.string (⟨#[10]⟩ : ByteArray)] :: Box b9 [.string x1] :: Box b10 [.int .i64 0] :: hs)))) := by
 unfold F_strings_SplitSeq at hF
 have h0 : Tryd.f28.body = some _ := rfl
 refine fn_calls' Tryd.func28 h0 (n := 8) rfl (by simp) <| C_seq <| R_nd <| nq (Q_assign rfl) rfl rfl <| WL_nil <| x_then <| C_seq <| R_nd <| nq (Q_move rfl) rfl rfl <| nq (Q_move rfl) rfl rfl ?_
 obtain ⟨q11, hq11, hF⟩ := bnd hF
 refine ne (E_call fn43 rfl (c_43 H gle   hq11)) rfl rfl ?_
 rintro _ wd16 ⟨b13, b14, b15, rfl, rfl, H⟩
 try dsimp only at hF
 refine nq (Q_assign rfl) rfl rfl <| WL_nil <| x_then <| C_ret ?_
 replace H := H.f2
 replace H := H.f2
 replace H := H.f2
 obtain rfl := Option.some.inj hF
 exact fn_ret (l := [.tmp 4]) (vs := [.func (.func 53) #[] [.pointer (some ⟨b13, 0, none⟩), .pointer (some ⟨b14, 0, none⟩), .pointer (some ⟨b15, 0, none⟩)].toArray]) rfl rfl rfl ⟨b13, b14, b15, rfl, rfl, H⟩
theorem c_73_6 {N : Nat} {C : Cx} {w : World} {ρ : View} {hs : List Hl} {x1 : ByteArray} (H : Hp C w ρ (hs)) {gV : Nat → Value} (_gle : GErrs ρ 137 errIds gV) {r : Unit} (hF : F_internal_stringslite_IndexByte_6 N x1 = some r) :
  Calls Tryd.prog 73 [.string x1, .int .u8 10].toArray w (Rets (fun v w' => (() = r ∧ .int .i64 (sfind x1 10) = v ∧ Hp C w' ρ (hs)))) := by
 unfold F_internal_stringslite_IndexByte_6 at hF
 have h0 : Tryd.f73.body = some _ := rfl
 refine fn_calls' Tryd.func73 h0 (n := 8) rfl (by simp) <| C_seq <| R_nd <| nq (Q_assign rfl) rfl rfl <| WL_nil <| x_then <| C_seq <| R_nd <| nq (Q_move rfl) rfl rfl <| nq (Q_move rfl) rfl rfl <| nq (v := .int .i64 (sfind x1 10)) (Q_idxByte ext80 rfl rfl) rfl rfl <| nq (Q_assign rfl) rfl rfl <| WL_nil <| x_then ?_
 refine C_ret ?_
 obtain rfl := Option.some.inj hF
 exact fn_ret (l := [.tmp 4]) (vs := [.int .i64 (sfind x1 10)]) rfl rfl rfl ⟨rfl, rfl, H⟩
theorem c_64_2 {N : Nat} {C : Cx} {w : World} {ρ : View} {hs : List Hl} {x1 : ByteArray} (H : Hp C w ρ (hs)) {gV : Nat → Value} (gle : GErrs ρ 137 errIds gV) {r : Int} (hF : F_internal_stringslite_Index_2 N x1 = some r) :
  Calls Tryd.prog 64 [.string x1, .string (⟨#[10]⟩ : ByteArray)].toArray w (Rets (fun v w' => (∃ (x7 : Int), x7 = r ∧ .int .i64 x7 = v ∧ Hp C w' ρ (hs)))) := by
 unfold F_internal_stringslite_Index_2 at hF
 have h0 : Tryd.f64.body = some _ := rfl
 refine fn_calls' Tryd.func64 h0 (n := 143) rfl (by simp) <| C_seq <| R_nd <| nq (Q_assign rfl) rfl rfl <| WL_nil <| x_then <| C_seq <| R_nd <| nq (Q_move rfl) rfl rfl <| nq (v := .int .i64 1) (Q_lenStrC Tryd.underlying9 rfl (by decide)) rfl rfl <| nq (Q_assign rfl) rfl rfl <| WL_nil <| x_then <| C_seq ?_
 refine C_block ?_
 obtain ⟨o8, ho8, hF⟩ := bnd hF
 refine C_cut (fun a w' => Fr 143 a [(0, .string x1), (1, .string (⟨#[10]⟩ : ByteArray)), (5, .int .i64 1), (16, .bool ((⟨#[10]⟩ : ByteArray).toList == x1.toList))] ∧ Hp C w' ρ (hs)) ?_ ?_
 ·refine R_nd <| nq (Q_move rfl) rfl rfl <| nq (v := .bool false) (Q_known (by decide) (Q_eql rfl rfl)) rfl rfl <| nq (Q_move rfl) rfl rfl <| gq (Q_move rfl) rfl rfl rfl <| gq (Q_move rfl) rfl rfl rfl <| gq (v := .bool ((⟨#[10]⟩ : ByteArray).toList == x1.toList)) (Q_eqlStr Tryd.underlying9 rfl rfl) rfl rfl rfl <| nq (Q_pickF rfl rfl) rfl rfl <| nq (Q_assign rfl) rfl rfl <| WL_nil ?_
  obtain rfl := Option.some.inj ho8
  refine x_A fun a hf => ⟨hf.sub ⟨rfl, rfl, rfl, rfl, trivial⟩, H⟩
 ·rintro a wd9 ⟨hf, H⟩
  try dsimp only at hF
  refine CW.at hf ?_
  refine C_cond rfl (fun hb => ?_) (fun hb => ?_)
  ·replace hF := itT hb hF
   refine C_seq <| R_nd <| nq (Q_assign rfl) rfl rfl <| WL_nil <| x_then <| C_ret <| x_block_ret <| x_then_ret ?_
   obtain rfl := Option.some.inj hF
   exact fn_ret (l := [.tmp 4]) (vs := [.int .i64 0]) rfl rfl rfl ⟨0, rfl, rfl, H⟩
  ·replace hF := itF hb hF
   refine C_seq <| R_nd <| nq (Q_move rfl) rfl rfl <| nq (v := .bool true) (Q_known (by decide) (Q_eql rfl rfl)) rfl rfl <| nq (Q_assign rfl) rfl rfl <| WL_nil <| x_then ?_
   refine C_cond rfl (fun _ => ?_) (fun h => nomatch h)
   refine C_seq <| R_nd <| nq (Q_move rfl) rfl rfl <| nq (Q_move rfl) rfl rfl <| nq (v := .int .u8 10) (Q_ixS rfl Tryd.underlying9 rfl rfl) rfl rfl ?_
   obtain ⟨q10, hq10, hF⟩ := bnd hF
   refine ne (E_call fn73 rfl (c_73_6 H gle   hq10)) rfl rfl ?_
   rintro _ wd12 ⟨rfl, rfl, H⟩
   try dsimp only at hF
   refine nq (Q_assign rfl) rfl rfl <| WL_nil <| x_then <| C_ret <| x_block_ret <| x_then_ret ?_
   obtain rfl := Option.some.inj hF
   exact fn_ret (l := [.tmp 4]) (vs := [.int .i64 (sfind x1 10)]) rfl rfl rfl ⟨sfind x1 10, rfl, rfl, H⟩
theorem c_55_2 {N : Nat} {C : Cx} {w : World} {ρ : View} {hs : List Hl} {x1 : ByteArray} (H : Hp C w ρ (hs)) {gV : Nat → Value} (gle : GErrs ρ 137 errIds gV) {r : Int} (hF : F_strings_Index_2 N x1 = some r) :
  Calls Tryd.prog 55 [.string x1, .string (⟨#[10]⟩ : ByteArray)].toArray w (Rets (fun v w' => (∃ (x6 : Int), x6 = r ∧ .int .i64 x6 = v ∧ Hp C w' ρ (hs)))) := by
 unfold F_strings_Index_2 at hF
 have h0 : Tryd.f55.body = some _ := rfl
 refine fn_calls' Tryd.func55 h0 (n := 8) rfl (by simp) <| C_seq <| R_nd <| nq (Q_assign rfl) rfl rfl <| WL_nil <| x_then <| C_seq <| R_nd <| nq (Q_move rfl) rfl rfl <| nq (Q_move rfl) rfl rfl ?_
 obtain ⟨q7, hq7, hF⟩ := bnd hF
 refine ne (E_call fn64 rfl (c_64_2 H gle   hq7)) rfl rfl ?_
 rintro _ wd10 ⟨x9, rfl, rfl, H⟩
 try dsimp only at hF
 refine nq (Q_assign rfl) rfl rfl <| WL_nil <| x_then <| C_ret ?_
 obtain rfl := Option.some.inj hF
 exact fn_ret (l := [.tmp 4]) (vs := [.int .i64 x9]) rfl rfl rfl ⟨x9, rfl, rfl, H⟩
theorem c_53 {N : Nat} {C : Cx} {w : World} {ρ : View} {hs : List Hl} {σ : Type} {I : View → σ → Hl → Prop} {l : Nat} {rec : Bool → σ → Loop} {A0 : Hl} {b1 : Nat} {b2 : Nat} {b4 : Nat} {Y : ByteArray → σ → Option (σ × Bool)} {s0 : σ} {x3 : ByteArray} (H : Hp C w ρ (Yd l (rec true s0) A0 :: Box b1 [.string (⟨#[10]⟩ : ByteArray)] :: Box b2 [.string x3] :: Box b4 [.int .i64 0] :: hs)) {gV : Nat → Value} (gle : GErrs ρ 137 errIds gV) (hY : YC Tryd.prog l rec I (fun _ x args => args = #[.string x]) Y ρ) (hI0 : I ρ s0 A0) (_hImono : ∀ {ρ1 ρ2 : View} {s : σ} {A : Hl}, View.le ρ1 ρ2 → I ρ1 s A → I ρ2 s A) {r : (σ × Bool)} (hF : F_strings_splitSeq_1 N Y s0 x3 = some r) :
  Calls Tryd.prog 53 [.func (.yield l) #[] #[], .pointer (some ⟨b1, 0, none⟩), .pointer (some ⟨b2, 0, none⟩), .pointer (some ⟨b4, 0, none⟩)].toArray w (Rets (fun v w' => (∃ (ρ' : View) (A123 : Hl) (x124 : σ) (x125 : Bool), (x124, x125) = r ∧ .tuple [].toArray = v ∧ View.le ρ ρ' ∧ I ρ' x124 A123 ∧ Hp C w' ρ' (Yd l (rec x125 x124) A123 :: hs)))) := by
 unfold F_strings_splitSeq_1 at hF
 have h0 : Tryd.f53.body = some _ := rfl
 refine fn_calls' Tryd.func53 h0 (n := 52) rfl (by simp) <| C_seq <| C_seq <| R_nd <| nq (v := .string (⟨#[10]⟩ : ByteArray)) (Q_ldB (k := 1) (cs := [.string (⟨#[10]⟩ : ByteArray)]) H.ok rfl ty9 rfl rfl rfl (fun _ => rfl) rfl) rfl rfl <| nq (v := .int .i64 1) (Q_lenStrC Tryd.underlying9 rfl (by decide)) rfl rfl <| nq (v := .bool false) (Q_known (by decide) (Q_eql rfl rfl)) rfl rfl <| WL_nil <| x_then ?_
 refine C_cond rfl (fun h => nomatch h) (fun _ => ?_)
 refine C_skip <| x_then ?_
 obtain ⟨o184, ho184, hF⟩ := bnd hF
 refine C_cut (fun a w' => ∃ (ρ' : View) (A180 : Hl) (x181 : σ) (x183 : ByteArray), View.le ρ ρ' ∧ .inl (x181, x183) = o184 ∧ I ρ' x181 A180 ∧ Fr 52 a [(0, .func (.yield l) #[] #[]), (2, .pointer (some ⟨b2, 0, none⟩))] ∧ Hp C w' ρ' (Yd l (rec true x181) A180 :: Box b1 [.string (⟨#[10]⟩ : ByteArray)] :: Box b2 [.string x183] :: Box b4 [.int .i64 0] :: hs)) ?_ ?_
 ·refine C_block ?_
  replace H := H.f3
  replace H := H.f3
  replace H := H.f3
  replace H := H.f3
  refine C_iter (f := fun s => F_strings_splitSeq_1_l0 N Y s.1 s.2) ho184 (fun s a w' => ∃ (ρ' : View) (A201 : Hl) (x202 : σ) (x204 : ByteArray), View.le ρ ρ' ∧ (x202, x204) = s ∧ I ρ' x202 A201 ∧ Fr 52 a [(0, .func (.yield l) #[] #[]), (1, .pointer (some ⟨b1, 0, none⟩)), (2, .pointer (some ⟨b2, 0, none⟩)), (3, .pointer (some ⟨b4, 0, none⟩))] ∧ Hp C w' ρ' (Yd l (rec true x202) A201 :: Box b1 [.string (⟨#[10]⟩ : ByteArray)] :: Box b2 [.string x204] :: Box b4 [.int .i64 0] :: hs)) ?_ ?_
  ·exact fun a hf => ⟨ρ, A0, s0, x3, (View.le_refl _), rfl, hI0, hf.sub ⟨rfl, rfl, rfl, rfl, trivial⟩, H⟩
  ·rintro s o221 a wd224 ⟨ρ, A201, x202, x204, lw225, rfl, hI203, hf, H⟩ hB222 hO223
   replace hB222 : F_strings_splitSeq_1_l0 N Y x202 x204 = some o221 := hB222
   unfold F_strings_splitSeq_1_l0 at hB222
   refine CW.at hf ?_
   replace gle := GErrs.up lw225 gle
   refine C_block <| C_seq <| R_nd <| nq (v := .string x204) (Q_ldB (k := 2) (cs := [.string x204]) H.ok rfl ty9 rfl rfl rfl (fun _ => rfl) rfl) rfl rfl <| nq (v := .string (⟨#[10]⟩ : ByteArray)) (Q_ldB (k := 1) (cs := [.string (⟨#[10]⟩ : ByteArray)]) H.ok rfl ty9 rfl rfl rfl (fun _ => rfl) rfl) rfl rfl ?_
   obtain ⟨q226, hq226, hB222⟩ := bnd hB222
   refine ne (E_call fn55 rfl (c_55_2 H gle   hq226)) rfl rfl ?_
   rintro _ wd229 ⟨x228, rfl, rfl, H⟩
   try dsimp only at hB222
   refine nq (Q_assign rfl) rfl rfl <| WL_nil <| x_then <| C_seq <| C_seq <| R_nd <| nq (Q_move rfl) rfl rfl <| nq (Q_lss rfl rfl) rfl rfl <| WL_nil <| x_then ?_
   refine C_cond rfl (fun hb => ?_) (fun hb => ?_)
   ·replace hB222 := itT hb hB222
    refine C_exit <| x_then_exit <| x_block_other rfl <| x_then_exit <| x_block_exit ?_
    replace H := H.f3
    replace H := H.f3
    replace H := H.f3
    replace H := H.f3
    obtain rfl := Option.some.inj hB222
    obtain rfl := hO223 _ rfl
    refine x_A fun a hf => ⟨ρ, A201, x202, x204, lw225, rfl, hI203, hf.sub ⟨rfl, rfl, trivial⟩, H⟩
   ·replace hB222 := itF hb hB222
    refine C_skip <| x_then <| C_seq <| R_nd <| nq (v := .string x204) (Q_ldB (k := 2) (cs := [.string x204]) H.ok rfl ty9 rfl rfl rfl (fun _ => rfl) rfl) rfl rfl <| nq (Q_move rfl) rfl rfl <| nq (v := .int .i64 0) (Q_ldB (k := 3) (cs := [.int .i64 0]) H.ok rfl ty3 rfl rfl rfl (fun _ => rfl) rfl) rfl rfl <| nq (Q_add rfl rfl) rfl rfl ?_
    obtain ⟨x230, hx230, hB222⟩ := bnd hB222
    refine nq (Q_slStr hx230 Tryd.underlying9 rfl rfl ⟨_, rfl⟩) rfl rfl <| nq (Q_assign rfl) rfl rfl <| WL_nil <| x_then <| C_seq <| C_seq <| R_nd <| nq (Q_move rfl) rfl rfl <| nq (Q_move rfl) rfl rfl ?_
    obtain ⟨q231, hq231, hB222⟩ := bnd hB222
    refine neI (E_yield (x := x230) (vs := [.string x230]) hY lw225 hI203 H rfl hq231 rfl rfl) rfl rfl ?_
    rintro _ wd232 ⟨rfl, ρ, A233, lw234, hI235, H⟩
    replace gle := GErrs.up lw234 gle
    refine nq (Q_not rfl) rfl rfl <| WL_nil <| x_then ?_
    refine C_cond rfl (fun hb => ?_) (fun hb => ?_)
    ·replace hB222 := itT hb hB222
     replace hb : q231.2 = false := bnT hb
     rw [hb] at H
     refine C_ret <| x_then_ret <| x_block_ret <| x_then_ret <| x_block_ret <| x_then_ret ?_
     replace H := H.drop 1 rfl
     dsimp only [List.eraseIdx] at H
     replace H := H.drop 1 rfl
     dsimp only [List.eraseIdx] at H
     replace H := H.drop 1 rfl
     dsimp only [List.eraseIdx] at H
     obtain rfl := Option.some.inj hB222
     obtain rfl := hO223 _ rfl
     obtain rfl := Option.some.inj (show some _ = some _ from hF)
     exact fn_ret (l := []) (vs := []) rfl rfl rfl ⟨ρ, A233, q231.1, false, rfl, rfl, (View.le_trans lw225 lw234), hI235, H⟩
    ·replace hB222 := itF hb hB222
     replace hb : q231.2 = true := bnF hb
     rw [hb] at H
     refine C_skip <| x_then <| R_nd <| nq (v := .string x204) (Q_ldB (k := 2) (cs := [.string x204]) H.ok rfl ty9 rfl rfl rfl (fun _ => rfl) rfl) rfl rfl <| nq (Q_move rfl) rfl rfl <| nq (v := .string (⟨#[10]⟩ : ByteArray)) (Q_ldB (k := 1) (cs := [.string (⟨#[10]⟩ : ByteArray)]) H.ok rfl ty9 rfl rfl rfl (fun _ => rfl) rfl) rfl rfl <| nq (v := .int .i64 1) (Q_lenStrC Tryd.underlying9 rfl (by decide)) rfl rfl <| nq (Q_add rfl rfl) rfl rfl ?_
     obtain ⟨x236, hx236, hB222⟩ := bnd hB222
     refine nq (Q_slStr hx236 Tryd.underlying9 rfl ⟨_, rfl⟩ rfl) rfl rfl <| ne (E_stB (k := 2) (cs := [.string x236]) (vs' := [.string x236]) H rfl ty9 rfl rfl rfl rfl (one_cons rfl one_nil) (by simp) rfl) rfl rfl ?_
     rintro _ wd237 H
     dsimp only [List.set] at H
     refine WL_nil <| x_block ?_
     replace H := H.f3
     replace H := H.f3
     replace H := H.f3
     replace H := H.f3
     obtain rfl := Option.some.inj hB222
     refine x_A fun a hf => ⟨_, rfl, ρ, A233, q231.1, x236, (View.le_trans lw225 lw234), rfl, hI235, hf.sub ⟨rfl, rfl, rfl, rfl, trivial⟩, H⟩
 ·rintro a wd238 ⟨ρ, A180, x181, x183, lw239, rfl, hI182, hf, H⟩
  try dsimp only at hF
  replace gle := GErrs.up lw239 gle
  refine CW.at hf <| R_nd <| nq (Q_move rfl) rfl rfl <| nq (v := .string x183) (Q_ldB (k := 2) (cs := [.string x183]) H.ok rfl ty9 rfl rfl rfl (fun _ => rfl) rfl) rfl rfl ?_
  obtain ⟨q240, hq240, hF⟩ := bnd hF
  refine neI (E_yield (x := x183) (vs := [.string x183]) hY lw239 hI182 H rfl hq240 rfl rfl) rfl rfl ?_
  rintro _ wd241 ⟨rfl, ρ, A242, lw243, hI244, H⟩
  replace gle := GErrs.up lw243 gle
  refine WL_nil ?_
  replace H := H.drop 1 rfl
  dsimp only [List.eraseIdx] at H
  replace H := H.drop 1 rfl
  dsimp only [List.eraseIdx] at H
  replace H := H.drop 1 rfl
  dsimp only [List.eraseIdx] at H
  obtain rfl := Option.some.inj hF
  exact fn_end (l := []) (vs := []) rfl rfl rfl ⟨ρ, A242, q240.1, q240.2, rfl, rfl, (View.le_trans lw239 lw243), hI244, H⟩
theorem c_14 {N : Nat} {C : Cx} {w : World} {ρ : View} {hs : List Hl} {x1 : ByteArray} (H : Hp C w ρ (hs)) {gV : Nat → Value} (gle : GErrs ρ 137 errIds gV) {r : ((List (Int × Int × Int × (List Int))) × Int × Int)} (hF : F_script_Script N x1 = some r) :
  Calls Tryd.prog 14 [.string x1].toArray w (Rets (fun v w' => (∃ (ρ' : View) (v531 : Value) (c532 : (List Value)) (x533 : (List (Int × Int × Int × (List Int)))) (x535 : Int) (x536 : Int), (x533, x535, x536) = r ∧ .tuple [v531, .int .i64 x535, errV errIds gV x536].toArray = v ∧ View.le ρ ρ' ∧ rdL (eP (eI .i64) (eP (eI .i64) (eP (eI .i64) (eL (eI .u8))))) ρ' x533 c532 ∧ Hp C w' ρ' (Arr v531 4 c532 :: hs)))) := by
 unfold F_script_Script at hF
 have h0 : Tryd.f14.body = some _ := rfl
 refine fn_callsM Tryd.func14 h0 (n := 32) rfl (by simp) <| C_seq <| R_nd <| ne (E_alloc H ty39 (zs := [.slice none 0 0]) rfl) rfl rfl ?_
 rintro _ wd538 ⟨b537, rfl, H⟩
 refine ne (E_alloc H ty3 (zs := [.int .i64 0]) rfl) rfl rfl ?_
 rintro _ wd540 ⟨b539, rfl, H⟩
 refine ne (E_alloc H ty25 (zs := [.nilIface]) rfl) rfl rfl ?_
 rintro _ wd542 ⟨b541, rfl, H⟩
 refine WL_nil <| x_then <| C_seq <| R_nd <| ne (E_alloc H ty39 (zs := [.slice none 0 0]) rfl) rfl rfl ?_
 rintro _ wd544 ⟨b543, rfl, H⟩
 refine WL_nil <| x_then <| C_seq <| R_nd <| ne (E_alloc H ty3 (zs := [.int .i64 0]) rfl) rfl rfl ?_
 rintro _ wd546 ⟨b545, rfl, H⟩
 refine ne (E_stB (k := 0) (cs := [.int .i64 0]) (vs' := [.int .i64 0]) H rfl ty3 rfl rfl rfl rfl (one_cons rfl one_nil) (by simp) rfl) rfl rfl ?_
 rintro _ wd547 H
 dsimp only [List.set] at H
 refine WL_nil <| x_then <| C_seq <| C_seq <| R_nd <| nq (Q_move rfl) rfl rfl ?_
 obtain ⟨q548, hq548, hF⟩ := bnd hF
 refine ne (E_call fn28 rfl (c_28 H gle   hq548)) rfl rfl ?_
 rintro _ wd553 ⟨b550, b551, b552, rfl, rfl, H⟩
 try dsimp only at hF
 refine WL_nil <| x_then <| C_block ?_
 have H := H.nilArr 4
 replace H := H.f3
 replace H := H.f3
 replace H := H.f3
 replace H := H.f4
 replace H := H.f4
 replace H := H.f5
 replace H := H.f6
 replace H := H.f7
 replace H := H.f8
 obtain ⟨q894, hq894, hF⟩ := bnd hF
 obtain ⟨q8941_, b895⟩ := q894
 refine C_range (σ := (((List (Int × Int × Int × (List Int))) × Int) ⊕ ((List (Int × Int × Int × (List Int))) × Int × Int))) (α := ByteArray) (s0 := (.inl ([], 0))) (r := (q8941_, b895)) (I := (IS (fun ρ (s : ((List (Int × Int × Int × (List Int))) × Int)) A => ∃ (v719 : Value) (c720 : (List Value)) (x721 : (List (Int × Int × Int × (List Int)))) (x723 : Int), (x721, x723) = s ∧ A = Star [Box b537 [.slice none 0 0], Box b539 [.int .i64 0], Box b541 [.nilIface], Box b543 [v719], Arr v719 4 c720, Box b545 [.int .i64 x723]] ∧ rdL (eP (eI .i64) (eP (eI .i64) (eP (eI .i64) (eL (eI .u8))))) ρ x721 c720) (fun ρ (s : ((List (Int × Int × Int × (List Int))) × Int × Int)) A => ∃ (v888 : Value) (c889 : (List Value)) (x890 : (List (Int × Int × Int × (List Int)))) (x892 : Int) (x893 : Int), (x890, x892, x893) = s ∧ A = Star [Box b537 [v888], Arr v888 4 c889, Box b539 [.int .i64 x892], Box b541 [errV errIds gV x893]] ∧ rdL (eP (eI .i64) (eP (eI .i64) (eP (eI .i64) (eL (eI .u8))))) ρ x890 c889))) (R := (fun _ x args => args = #[.string x])) (Y := (YS (σ1 := ((List (Int × Int × Int × (List Int))) × Int)) (σ2 := ((List (Int × Int × Int × (List Int))) × Int × Int)) (fun x s => F_script_Script_r0 N x s.1 s.2))) [Box b550 [.string (⟨#[10]⟩ : ByteArray)], Box b551 [.string x1], Box b552 [.int .i64 0]] (fun _ => .ret) rfl fn53 (Hp.star (L := [Box b537 [.slice none 0 0], Box b539 [.int .i64 0], Box b541 [.nilIface], Box b543 [.slice none 0 0], Arr (.slice none 0 0) 4 ([]), Box b545 [.int .i64 0]]) H) (IS.l ⟨(.slice none 0 0), [], [], 0, rfl, rfl, rdL.nil⟩) rfl ?_ ?_ ?_
 ·intro a_ hfa l fn_ D
  refine YC.of2 ?_
  intro C w ρ hs s A x554 args r896 hle hIx hA898 H hF897
  obtain ⟨v719, c720, x721, x723, rfl, rfl, r722⟩ := hIx
  obtain rfl := hA898
  replace gle := GErrs.up hle gle
  replace hF897 : F_script_Script_r0 N x554 x721 x723 = some r896 := hF897
  unfold F_script_Script_r0 at hF897
  refine yieldAt (n := 32) (E := ((12, .string x554) :: [(2, .pointer (some ⟨b537, 0, none⟩)), (3, .pointer (some ⟨b539, 0, none⟩)), (4, .pointer (some ⟨b541, 0, none⟩)), (5, .pointer (some ⟨b543, 0, none⟩)), (6, .pointer (some ⟨b545, 0, none⟩))])) (ps := [12]) (vs := [.string x554]) H rfl rfl rfl rfl rfl rfl rfl ?_ (Fr.params (E := [(2, .pointer (some ⟨b537, 0, none⟩)), (3, .pointer (some ⟨b539, 0, none⟩)), (4, .pointer (some ⟨b541, 0, none⟩)), (5, .pointer (some ⟨b543, 0, none⟩)), (6, .pointer (some ⟨b545, 0, none⟩))]) ⟨hfa.size, rfl, (hfa.sub (E' := [(2, .pointer (some ⟨b537, 0, none⟩)), (3, .pointer (some ⟨b539, 0, none⟩)), (4, .pointer (some ⟨b541, 0, none⟩)), (5, .pointer (some ⟨b543, 0, none⟩)), (6, .pointer (some ⟨b545, 0, none⟩))]) ⟨rfl, rfl, rfl, rfl, rfl, trivial⟩).slots⟩ (by decide) rfl)
  obtain ⟨o, ho, H⟩ := H.ydOpen
  dsimp only [List.cons_append, List.nil_append] at H
  refine R_nd <| nq (Q_assign rfl) rfl rfl <| WL_nil <| x_begin (by rw [ho]; rfl) H ?_
  intro wd899 H
  obtain ⟨o980, ho980, hF897⟩ := bnd hF897
  refine C_cutQ (fun a w' => ∃ (ρ' : View) (v976 : Value) (c977 : (List Value)) (x978 : (List (Int × Int × Int × (List Int)))), View.le ρ ρ' ∧ .inl x978 = o980 ∧ rdL (eP (eI .i64) (eP (eI .i64) (eP (eI .i64) (eL (eI .u8))))) ρ' x978 c977 ∧ Fr 32 a [] ∧ Hp C w' ρ' (Box b537 [.slice none 0 0] :: Box b539 [.int .i64 0] :: Box b541 [.nilIface] :: Box b543 [v976] :: Arr v976 4 c977 :: Box b545 [.int .i64 (w64 (x723 + 1))] :: Yd l ({ o with state := .busy }) (Star []) :: hs)) ?_ ?_
  ·refine C_block <| C_seq <| C_seq <| R_nd <| nq (Q_move rfl) rfl rfl <| nq (v := .bool (x554.toList != ByteArray.empty.toList)) (Q_neqStr Tryd.underlying9 rfl rfl) rfl rfl <| WL_nil <| x_then ?_
   obtain ⟨o1019, ho1019, ho980⟩ := bnd ho980
   refine C_cutQ (fun a w' => ∃ (ρ' : View) (v1015 : Value) (c1016 : (List Value)) (x1017 : (List (Int × Int × Int × (List Int)))), View.le ρ ρ' ∧ .inl x1017 = o1019 ∧ rdL (eP (eI .i64) (eP (eI .i64) (eP (eI .i64) (eL (eI .u8))))) ρ' x1017 c1016 ∧ Fr 32 a [(6, .pointer (some ⟨b545, 0, none⟩))] ∧ Hp C w' ρ' (Box b537 [.slice none 0 0] :: Box b539 [.int .i64 0] :: Box b541 [.nilIface] :: Box b543 [v1015] :: Arr v1015 4 c1016 :: Box b545 [.int .i64 x723] :: Yd l ({ o with state := .busy }) (Star []) :: hs)) ?_ ?_
   ·refine C_cond rfl (fun hb => ?_) (fun hb => ?_)
    ·replace ho1019 := itT hb ho1019
     refine C_seq <| R_nd <| nq (Q_move rfl) rfl rfl ?_
     obtain ⟨q1020, hq1020, ho1019⟩ := bnd ho1019
     refine ne (E_call fn16 rfl (c_16_1 H gle   hq1020)) rfl rfl ?_
     rintro _ wd1031 ⟨ρ, v1022, c1023, x1024, x1025, x1026, x1027, x1028, rfl, rfl, lw1029, r1030, H⟩
     try dsimp only at ho1019
     replace r722 := rdL.up lw1029 r722
     replace gle := GErrs.up lw1029 gle
     refine nq (Q_move rfl) rfl rfl <| nq (Q_extract rfl rfl) rfl rfl <| nq (Q_extract rfl rfl) rfl rfl <| ne (E_alloc H ty43 (zs := [.int .i64 0, .int .i64 0, .int .i64 0, .slice none 0 0]) rfl) rfl rfl ?_
     rintro _ wd1033 ⟨b1032, rfl, H⟩
     refine ne (E_stB (k := 0) (cs := [.int .i64 x1024, .int .i64 x1025, .int .i64 x1026, v1022]) (vs' := [.int .i64 x1024, .int .i64 x1025, .int .i64 x1026, v1022]) H rfl ty43 rfl rfl rfl rfl (one_cons rfl (one_cons rfl (one_cons rfl (one_cons (arr_cells (H.ok.get (k := 1) rfl)).2 one_nil)))) (by simp) rfl) rfl rfl ?_
     rintro _ wd1034 H
     dsimp only [List.set] at H
     refine nq (Q_assign rfl) rfl rfl <| WL_nil <| x_then <| C_seq <| C_seq <| R_nd <| nq (Q_move rfl) rfl rfl <| nq (v := .bool (eOk errIds x1028)) (Q_neqV Tryd.underlying25 gle rfl) rfl rfl <| WL_nil <| x_then ?_
     refine C_cond rfl (fun hb => ?_) (fun hb => ?_)
     ·replace ho1019 := itT hb ho1019
      obtain ⟨o1038, ho1038, ho1019⟩ := bnd ho1019
      refine C_cut (fun a w' => Fr 32 a [(2, .pointer (some ⟨b537, 0, none⟩)), (3, .pointer (some ⟨b539, 0, none⟩)), (4, .pointer (some ⟨b541, 0, none⟩))] ∧ Hp C w' ρ (Box b537 [v719] :: Arr v719 4 c720 :: Box b539 [.int .i64 x723] :: Box b541 [errV errIds gV x1028] :: Box b543 [v719] :: Box b545 [.int .i64 x723] :: Yd l ({ o with state := .busy }) (Star []) :: hs)) ?_ ?_
      ·refine R_dr (.take 0 (.take 1 (.take 2 (.one 3 (.one 4 (.one 5 .done)))))) (fun w' => Ok w' ρ [Box b1032 [.int .i64 x1024, .int .i64 x1025, .int .i64 x1026, v1022], Arr v1022 1 c1023, Yd l ({ o with state := .busy }) (Star []), Box b543 [v719], Arr v719 4 c720, Box b545 [.int .i64 x723]]) (by kernel_rfl) (by kernel_rfl) (by kernel_rfl) (H.drew.okS (by simp)) ?_
       replace H := H.drew
       refine dq (v := v719) rfl (fun _ hw => Q_ldB (k := 3) (cs := [v719]) hw rfl ty39 rfl rfl rfl (fun _ => rfl) rfl) rfl rfl <| dq (v := .int .i64 x723) rfl (fun _ hw => Q_ldB (k := 5) (cs := [.int .i64 x723]) hw rfl ty3 rfl rfl rfl (fun _ => rfl) rfl) rfl rfl <| dq rfl (fun _ _ => Q_move rfl) rfl rfl ?_
       refine d1 (de rfl (E_stB (k := 3) (cs := [v719]) (vs' := [v719]) H rfl ty39 rfl rfl (arr_cells (H.ok.get (k := 7) rfl)).1 rfl (one_cons (arr_cells (H.ok.get (k := 7) rfl)).2 one_nil) (by simp) rfl) rfl rfl ?_)
       rintro _ wd1039 H
       dsimp only [List.set] at H
       refine ⟨H.okS (by simp), ?_⟩
       refine d1 (de rfl (E_stB (k := 4) (cs := [.int .i64 x723]) (vs' := [.int .i64 x723]) H rfl ty3 rfl rfl rfl rfl (one_cons rfl one_nil) (by simp) rfl) rfl rfl ?_)
       rintro _ wd1040 H
       dsimp only [List.set] at H
       refine ⟨H.okS (by simp), ?_⟩
       refine d1 (de rfl (E_stB (k := 5) (cs := [errV errIds gV x1028]) (vs' := [errV errIds gV x1028]) H rfl ty25 rfl rfl (errV_cells gle x1028) rfl (one_cons (errV_one gle x1028) one_nil) (by simp) rfl) rfl rfl ?_)
       rintro _ wd1041 H
       dsimp only [List.set] at H
       refine ⟨H.okS (by simp), ?_⟩
       refine DL_nil ?_
       replace H := H.f2
       replace H := H.f8
       replace H := H.f7
       replace H := H.f7
       replace H := H.f7
       replace H := H.f8
       replace H := H.f8
       replace H := H.drop 7 rfl
       dsimp only [List.eraseIdx] at H
       replace H := H.drop 7 rfl
       dsimp only [List.eraseIdx] at H
       obtain rfl := Option.some.inj ho1038
       refine x_A fun a hf => ⟨hf.sub ⟨rfl, rfl, rfl, trivial⟩, H⟩
      ·rintro a wd1042 ⟨hf, H⟩
       try dsimp only at ho1019
       refine CW.at hf <| C_ret <| x_then_ret <| x_then_ret <| x_then_ret <| x_block_ret <| x_then_ret ?_
       replace H := H.f6
       replace H := H.f4
       replace H := H.f4
       replace H := H.f4
       replace H := H.f4
       replace H := H.drop 5 rfl
       dsimp only [List.eraseIdx] at H
       replace H := H.drop 5 rfl
       dsimp only [List.eraseIdx] at H
       replace H := H.f4
       obtain rfl := Option.some.inj ho1019
       obtain rfl := Option.some.inj (show some _ = some _ from ho980)
       obtain rfl := Option.some.inj (show some _ = some _ from hF897)
       subst ho
       refine x_round_ret H (fun w_ H => ?_)
       exact ⟨rfl, ρ, _, lw1029, IS.r ⟨v719, c720, x721, x723, x1028, rfl, rfl, r722⟩, Hp.ydClose (L := [Box b537 [v719], Arr v719 4 c720, Box b539 [.int .i64 x723], Box b541 [errV errIds gV x1028]]) H⟩
     ·replace ho1019 := itF hb ho1019
      refine C_skip <| x_then <| R_nd <| nq (v := v719) (Q_ldB (k := 6) (cs := [v719]) H.ok rfl ty39 rfl rfl rfl (fun _ => rfl) rfl) rfl rfl <| nq (v := .agg #[.int .i64 x1024, .int .i64 x1025, .int .i64 x1026, v1022]) (Q_ldB (k := 0) (cs := [.int .i64 x1024, .int .i64 x1025, .int .i64 x1026, v1022]) H.ok rfl ty43 rfl rfl rfl (fun h => nomatch h) rfl) rfl rfl ?_
      replace H := H.f1
      obtain ⟨ρ, lw1043, H, r1044⟩ := Hp.frz (en := (eI .u8)) H (by decide) r1030
      replace r722 := rdL.up lw1043 r722
      replace gle := GErrs.up lw1043 gle
      refine ne (E_bslice (xs := [.tmp 26]) (vs := [.agg #[.int .i64 x1024, .int .i64 x1025, .int .i64 x1026, v1022]]) H Tryd.underlying39 ty43 (by decide) (cs := [.int .i64 x1024, .int .i64 x1025, .int .i64 x1026, v1022]) rfl (sz_cons rfl sz_nil) rfl (by simp) (by simp) rfl rfl) rfl rfl ?_
      rintro _ wd1046 ⟨b1045, rfl, H⟩
      obtain ⟨x1047, hx1047, ho1019⟩ := bnd ho1019
      obtain ⟨ha1048a, ha1048b⟩ := app_some hx1047
      have r1050 : rdL (eP (eI .i64) (eP (eI .i64) (eP (eI .i64) (eL (eI .u8))))) ρ x1047 (c720 ++ ([.int .i64 x1024, .int .i64 x1025, .int .i64 x1026, v1022])) := ha1048b ▸ rdL.app r722 (show rdL (eP (eI .i64) (eP (eI .i64) (eP (eI .i64) (eL (eI .u8))))) ρ ([(x1024, x1025, x1026, x1027)]) ([.int .i64 x1024, .int .i64 x1025, .int .i64 x1026, v1022]) from ⟨([.int .i64 x1024, .int .i64 x1025, .int .i64 x1026, v1022]), _, rfl, ⟨[.int .i64 x1024], _, rfl, rfl, ⟨[.int .i64 x1025], _, rfl, rfl, ⟨[.int .i64 x1026], _, rfl, rfl, ⟨_, rfl, r1044⟩⟩⟩⟩, rdL.nil⟩)
      refine ne (E_append (k := 7) H rfl Tryd.underlying39 ty43 rfl (by decide) (by decide) rfl rfl (Src.ofArr (k := 0) H.ok rfl) (rdL.one (show rdL (eP (eI .i64) (eP (eI .i64) (eP (eI .i64) (eL (eI .u8))))) ρ ([(x1024, x1025, x1026, x1027)]) ([.int .i64 x1024, .int .i64 x1025, .int .i64 x1026, v1022]) from ⟨([.int .i64 x1024, .int .i64 x1025, .int .i64 x1026, v1022]), _, rfl, ⟨[.int .i64 x1024], _, rfl, rfl, ⟨[.int .i64 x1025], _, rfl, rfl, ⟨[.int .i64 x1026], _, rfl, rfl, ⟨_, rfl, r1044⟩⟩⟩⟩, rdL.nil⟩)) (app_fit r722 (show rdL (eP (eI .i64) (eP (eI .i64) (eP (eI .i64) (eL (eI .u8))))) ρ ([(x1024, x1025, x1026, x1027)]) ([.int .i64 x1024, .int .i64 x1025, .int .i64 x1026, v1022]) from ⟨([.int .i64 x1024, .int .i64 x1025, .int .i64 x1026, v1022]), _, rfl, ⟨[.int .i64 x1024], _, rfl, rfl, ⟨[.int .i64 x1025], _, rfl, rfl, ⟨[.int .i64 x1026], _, rfl, rfl, ⟨_, rfl, r1044⟩⟩⟩⟩, rdL.nil⟩) ha1048a)) rfl rfl ?_
      rintro v1049 wd1052 ⟨H, hc1051⟩
      dsimp only [List.set] at H
      refine ne (E_stB (k := 6) (cs := [v1049]) (vs' := [v1049]) H rfl ty39 rfl rfl (arr_cells (H.ok.get (k := 7) rfl)).1 rfl (one_cons (arr_cells (H.ok.get (k := 7) rfl)).2 one_nil) (by simp) rfl) rfl rfl ?_
      rintro _ wd1053 H
      dsimp only [List.set] at H
      refine WL_nil ?_
      replace H := H.f2
      replace H := H.f8
      replace H := H.f8
      replace H := H.f8
      replace H := H.f8
      replace H := H.f8
      replace H := H.f8
      replace H := H.drop 7 rfl
      dsimp only [List.eraseIdx] at H
      replace H := H.drop 7 rfl
      dsimp only [List.eraseIdx] at H
      obtain rfl := Option.some.inj ho1019
      refine x_A fun a hf => ⟨ρ, v1049, (c720 ++ ([.int .i64 x1024, .int .i64 x1025, .int .i64 x1026, v1022])), x1047, (View.le_trans lw1029 lw1043), rfl, r1050, hf.sub ⟨rfl, trivial⟩, H⟩
    ·replace ho1019 := itF hb ho1019
     refine C_skip ?_
     replace H := H.f6
     replace H := H.f6
     replace H := H.f6
     replace H := H.f6
     replace H := H.f6
     replace H := H.f6
     obtain rfl := Option.some.inj ho1019
     refine x_A fun a hf => ⟨ρ, v719, c720, x721, (View.le_refl _), rfl, r722, hf.sub ⟨rfl, trivial⟩, H⟩
   ·rintro a wd1054 ⟨ρ, v1015, c1016, x1017, lw1055, rfl, r1018, hf, H⟩
    try dsimp only at ho980
    replace gle := GErrs.up lw1055 gle
    refine XX.at hf <| x_then <| R_nd <| nq (v := .int .i64 x723) (Q_ldB (k := 5) (cs := [.int .i64 x723]) H.ok rfl ty3 rfl rfl rfl (fun _ => rfl) rfl) rfl rfl <| nq (Q_add rfl rfl) rfl rfl <| ne (E_stB (k := 5) (cs := [.int .i64 (w64 (x723 + 1))]) (vs' := [.int .i64 (w64 (x723 + 1))]) H rfl ty3 rfl rfl rfl rfl (one_cons rfl one_nil) (by simp) rfl) rfl rfl ?_
    rintro _ wd1056 H
    dsimp only [List.set] at H
    refine WL_nil <| x_block ?_
    replace H := H.f6
    replace H := H.f6
    replace H := H.f6
    replace H := H.f6
    replace H := H.f6
    replace H := H.f6
    replace H := H.f6
    obtain rfl := Option.some.inj ho980
    refine x_A fun a hf => ⟨ρ, v1015, c1016, x1017, lw1055, rfl, r1018, hf.sub trivial, H⟩
  ·rintro a wd1057 ⟨ρ, v976, c977, x978, lw1058, rfl, r979, hf, H⟩
   try dsimp only at hF897
   replace gle := GErrs.up lw1058 gle
   refine XX.at hf ?_
   replace H := H.f6
   replace H := H.f6
   replace H := H.f6
   replace H := H.f6
   replace H := H.f6
   replace H := H.f6
   replace H := H.f6
   replace H := H.f6
   obtain rfl := Option.some.inj hF897
   subst ho
   refine x_round H (fun w_ H => ?_)
   exact ⟨rfl, ρ, _, lw1058, IS.l ⟨v976, c977, x978, w64 (x723 + 1), rfl, rfl, r979⟩, Hp.ydClose (L := [Box b537 [.slice none 0 0], Box b539 [.int .i64 0], Box b541 [.nilIface], Box b543 [v976], Arr v976 4 c977, Box b545 [.int .i64 (w64 (x723 + 1))]]) H⟩
 ·intro l rec W hs' hY H
  refine (c_53 H gle  hY (IS.l ⟨(.slice none 0 0), [], [], 0, rfl, rfl, rdL.nil⟩) (IS.mono (fun hl h => by obtain ⟨v719, c720, x721, x723, e1_, e2_, r722⟩ := h; exact ⟨v719, c720, x721, x723, e1_, e2_, rdL.up hl r722⟩) (fun hl h => by obtain ⟨v888, c889, x890, x892, x893, e1_, e2_, r891⟩ := h; exact ⟨v888, c889, x890, x892, x893, e1_, e2_, rdL.up hl r891⟩))  hq894).mono fun e w' he => ?_
  obtain ⟨v, rfl, ρ', A', x, b, hr_, _, h1, h2, h3⟩ := he
  cases hr_
  exact ⟨_, rfl, ρ', A', h1, h2, h3⟩
 ·intro D1059 wd1060 ρ A' lw1061 hIx H
  rcases q8941_ with q8941_ | q8941_
  ·obtain ⟨v719, c720, x721, x723, rfl, rfl, r722⟩ := IS.unl hIx
   replace H := Hp.unstar H
   dsimp only [List.cons_append, List.nil_append] at H
   replace gle := GErrs.up lw1061 gle
   refine ⟨fun hb => ?_, fun hb => ?_⟩
   ·subst hb
    try dsimp only at hF
    refine x_block <| x_then <| C_seq <| R_nd <| nq (v := v719) (Q_ldB (k := 3) (cs := [v719]) H.ok rfl ty39 rfl rfl rfl (fun _ => rfl) rfl) rfl rfl <| ne (E_stB (k := 0) (cs := [v719]) (vs' := [v719]) H rfl ty39 rfl rfl (arr_cells (H.ok.get (k := 4) rfl)).1 rfl (one_cons (arr_cells (H.ok.get (k := 4) rfl)).2 one_nil) (by simp) rfl) rfl rfl ?_
    rintro _ wd1062 H
    dsimp only [List.set] at H
    refine ne (E_stB (k := 1) (cs := [.int .i64 0]) (vs' := [.int .i64 0]) H rfl ty3 rfl rfl rfl rfl (one_cons rfl one_nil) (by simp) rfl) rfl rfl ?_
    rintro _ wd1063 H
    dsimp only [List.set] at H
    refine ne (E_stB (k := 2) (cs := [.nilIface]) (vs' := [.nilIface]) H rfl ty25 rfl rfl rfl rfl (one_cons rfl one_nil) (by simp) rfl) rfl rfl ?_
    rintro _ wd1064 H
    dsimp only [List.set] at H
    refine WL_nil <| x_then <| C_ret ?_
    replace H := H.f6
    refine x_take H ?_
    intro wd1065 H
    have hRV : RV Tryd.prog wd1065 [(2, .pointer (some ⟨b537, 0, none⟩)), (3, .pointer (some ⟨b539, 0, none⟩)), (4, .pointer (some ⟨b541, 0, none⟩))] [.cell 2 39, .cell 3 3, .cell 4 25] [v719, .int .i64 0, errV errIds gV 0] := ⟨⟨_, rfl, run_ldv ty39 rfl (fun _ => rfl) (box_at (H.ok.get (k := 0) rfl) 0 1)⟩, ⟨_, rfl, run_ldv ty3 rfl (fun _ => rfl) (box_at (H.ok.get (k := 1) rfl) 0 1)⟩, ⟨_, rfl, run_ldv ty25 rfl (fun _ => rfl) (box_at (H.ok.get (k := 2) rfl) 0 1)⟩, trivial⟩
    replace H := H.f4
    replace H := H.drop 1 rfl
    dsimp only [List.eraseIdx] at H
    replace H := H.drop 1 rfl
    dsimp only [List.eraseIdx] at H
    replace H := H.drop 1 rfl
    dsimp only [List.eraseIdx] at H
    replace H := H.drop 1 rfl
    dsimp only [List.eraseIdx] at H
    replace H := H.drop 1 rfl
    dsimp only [List.eraseIdx] at H
    obtain rfl := Option.some.inj hF
    exact fn_retM (rs := [.cell 2 39, .cell 3 3, .cell 4 25]) (vs := [v719, .int .i64 0, errV errIds gV 0]) rfl hRV ⟨ρ, v719, c720, x721, 0, 0, rfl, rfl, lw1061, r722, H⟩
   ·subst hb
    try dsimp only at hF
    cases hF
  ·obtain ⟨v888, c889, x890, x892, x893, rfl, rfl, r891⟩ := IS.unr hIx
   replace H := Hp.unstar H
   dsimp only [List.cons_append, List.nil_append] at H
   replace gle := GErrs.up lw1061 gle
   refine ⟨fun hb => ?_, fun hb => ?_⟩
   ·subst hb
    try dsimp only at hF
    cases hF
   ·subst hb
    try dsimp only at hF
    refine C_ret <| x_block_ret <| x_then_ret ?_
    replace H := H.f4
    refine x_take H ?_
    intro wd1066 H
    have hRV : RV Tryd.prog wd1066 [(2, .pointer (some ⟨b537, 0, none⟩)), (3, .pointer (some ⟨b539, 0, none⟩)), (4, .pointer (some ⟨b541, 0, none⟩))] [.cell 2 39, .cell 3 3, .cell 4 25] [v888, .int .i64 x892, errV errIds gV x893] := ⟨⟨_, rfl, run_ldv ty39 rfl (fun _ => rfl) (box_at (H.ok.get (k := 0) rfl) 0 1)⟩, ⟨_, rfl, run_ldv ty3 rfl (fun _ => rfl) (box_at (H.ok.get (k := 2) rfl) 0 1)⟩, ⟨_, rfl, run_ldv ty25 rfl (fun _ => rfl) (box_at (H.ok.get (k := 3) rfl) 0 1)⟩, trivial⟩
    replace H := H.f1
    replace H := H.drop 1 rfl
    dsimp only [List.eraseIdx] at H
    replace H := H.drop 1 rfl
    dsimp only [List.eraseIdx] at H
    replace H := H.drop 1 rfl
    dsimp only [List.eraseIdx] at H
    obtain rfl := Option.some.inj hF
    exact fn_retM (rs := [.cell 2 39, .cell 3 3, .cell 4 25]) (vs := [v888, .int .i64 x892, errV errIds gV x893]) rfl hRV ⟨ρ, v888, c889, x890, x892, x893, rfl, rfl, lw1061, r891, H⟩
theorem c_4 {N : Nat} {C : Cx} {w : World} {ρ : View} {hs : List Hl} {v1 : Value} {x2 : (List ByteArray)} (H : Hp C w ρ (hs)) {gV : Nat → Value} (gle : GErrs ρ 137 errIds gV) (r3 : RdSl ρ eS v1 x2) {r : Bool} (hF : F_dofferlaw36_ScriptLines N x2 = some r) :
  Calls Tryd.prog 4 [v1].toArray w (Rets (fun v w' => (∃ (ρ' : View) (x1826 : Bool), x1826 = r ∧ .bool x1826 = v ∧ View.le ρ ρ' ∧ Hp C w' ρ' (hs)))) := by
 unfold F_dofferlaw36_ScriptLines at hF
 have h0 : Tryd.f4.body = some _ := rfl
 refine fn_calls' Tryd.func4 h0 (n := 107) rfl (by simp) <| C_seq <| R_nd <| nq (Q_assign rfl) rfl rfl <| WL_nil <| x_then <| C_seq <| C_seq <| R_nd ?_
 obtain ⟨q1827, hq1827, hF⟩ := bnd hF
 refine ne (E_call fn7 rfl (c_7 H gle   hq1827)) rfl rfl ?_
 rintro _ wd1831 ⟨ρ, x1829, rfl, rfl, lw1830, H⟩
 try dsimp only at hF
 replace r3 := RdSl.up lw1830 r3
 replace gle := GErrs.up lw1830 gle
 refine nq (Q_not rfl) rfl rfl <| WL_nil <| x_then ?_
 refine C_cond rfl (fun hb => ?_) (fun hb => ?_)
 ·replace hF := itT hb hF
  refine C_seq <| R_nd <| nq (Q_assign rfl) rfl rfl <| WL_nil <| x_then <| C_ret <| x_then_ret ?_
  obtain rfl := Option.some.inj hF
  exact fn_ret (l := [.tmp 2]) (vs := [.bool false]) rfl rfl rfl ⟨ρ, false, rfl, rfl, lw1830, H⟩
 ·replace hF := itF hb hF
  refine C_skip <| x_then <| C_seq <| C_seq <| R_nd <| nq (Q_move rfl) rfl rfl <| nq (Q_len Tryd.underlying32 rfl r3) rfl rfl <| nq (Q_gtr rfl rfl) rfl rfl <| WL_nil <| x_then ?_
  refine C_cond rfl (fun hb => ?_) (fun hb => ?_)
  ·replace hF := itT hb hF
   refine C_seq <| R_nd <| nq (Q_assign rfl) rfl rfl <| WL_nil <| x_then <| C_ret <| x_then_ret ?_
   obtain rfl := Option.some.inj hF
   exact fn_ret (l := [.tmp 2]) (vs := [.bool true]) rfl rfl rfl ⟨ρ, true, rfl, rfl, lw1830, H⟩
  ·replace hF := itF hb hF
   refine C_skip <| x_then <| C_seq <| R_nd <| nq (Q_assign rfl) rfl rfl <| WL_nil <| x_then <| C_seq <| R_nd <| ne (E_bslice0 H Tryd.underlying33 ty36) rfl rfl ?_
   rintro _ wd1833 ⟨b1832, rfl, H⟩
   refine nq (Q_assign rfl) rfl rfl <| WL_nil <| x_then <| C_seq <| R_nd <| nq (Q_assign rfl) rfl rfl <| nq (Q_assign rfl) rfl rfl <| WL_nil <| x_then <| C_seq <| C_seq <| R_nd <| nq (Q_move rfl) rfl rfl <| nq (Q_len Tryd.underlying32 rfl r3) rfl rfl ?_
   refine nq (Q_move rfl) rfl rfl <| WL_nil <| x_then ?_
   obtain ⟨o2563, ho2563, hF⟩ := bnd hF
   refine C_cutQ (fun a w' => ∃ (ρ' : View) (v2557 : Value) (c2558 : (List Value)) (x2556 : ByteArray) (x2559 : (List (Int × Int × Int × (List Int)))) (x2561 : Int) (x2562 : Int), View.le ρ ρ' ∧ .inl (x2556, x2559, x2561, x2562) = o2563 ∧ rdL (eP (eI .i64) (eP (eI .i64) (eP (eI .i64) (eL (eI .u8))))) ρ' x2559 c2558 ∧ Fr 107 a [(3, .string x2556), (4, v2557), (5, .int .i64 x2561), (6, .int .i64 x2562)] ∧ Hp C w' ρ' (Arr v2557 4 c2558 :: hs)) ?_ ?_
   ·refine C_block ?_
    refine C_iter (f := fun s => F_dofferlaw36_ScriptLines_l0 N x2 s.1 s.2.1 s.2.2.1 s.2.2.2.1 s.2.2.2.2) ho2563 (fun s a w' => ∃ (ρ' : View) (v2923 : Value) (c2924 : (List Value)) (x2921 : Int) (x2922 : ByteArray) (x2925 : (List (Int × Int × Int × (List Int)))) (x2927 : Int) (x2928 : Int), View.le ρ ρ' ∧ (x2921, x2922, x2925, x2927, x2928) = s ∧ rdL (eP (eI .i64) (eP (eI .i64) (eP (eI .i64) (eL (eI .u8))))) ρ' x2925 c2924 ∧ Fr 107 a [(3, .string x2922), (4, v2923), (5, .int .i64 x2927), (6, .int .i64 x2928), (22, v1), (23, .int .i64 (x2.length : Int)), (24, .int .i64 x2921)] ∧ Hp C w' ρ' (Arr v2923 4 c2924 :: hs)) ?_ ?_
    ·exact fun a hf => ⟨ρ, (.slice (some ⟨b1832, 0, none⟩) 0 0), [], 0, ByteArray.empty, [], 0, 0, (View.le_refl _), rfl, rdL.nil, hf.sub ⟨rfl, rfl, rfl, rfl, rfl, rfl, rfl, trivial⟩, H⟩
    ·rintro s o3109 a wd3112 ⟨ρ, v2923, c2924, x2921, x2922, x2925, x2927, x2928, lw3113, rfl, r2926, hf, H⟩ hB3110 hO3111
     replace hB3110 : F_dofferlaw36_ScriptLines_l0 N x2 x2921 x2922 x2925 x2927 x2928 = some o3109 := hB3110
     unfold F_dofferlaw36_ScriptLines_l0 at hB3110
     refine CW.at hf ?_
     replace r3 := RdSl.up lw3113 r3
     replace gle := GErrs.up lw3113 gle
     refine C_seq <| R_nd <| nq (Q_lss rfl rfl) rfl rfl <| WL_nil <| x_then <| C_seq ?_
     refine C_cond rfl (fun hb => ?_) (fun hb => ?_)
     ·replace hB3110 := itT hb hB3110
      refine C_skip <| x_then ?_
      obtain ⟨o3202, ho3202, hB3110⟩ := bnd hB3110
      refine C_cut (fun a w' => ∃ (ρ' : View) (v3196 : Value) (c3197 : (List Value)) (x3195 : ByteArray) (x3198 : (List (Int × Int × Int × (List Int)))) (x3200 : Int) (x3201 : Int), View.le ρ ρ' ∧ .inl (x3195, x3198, x3200, x3201) = o3202 ∧ rdL (eP (eI .i64) (eP (eI .i64) (eP (eI .i64) (eL (eI .u8))))) ρ' x3198 c3197 ∧ Fr 107 a [(3, .string x3195), (4, v3196), (5, .int .i64 x3200), (6, .int .i64 x3201), (22, v1), (23, .int .i64 (x2.length : Int)), (24, .int .i64 x2921)] ∧ Hp C w' ρ' (Arr v3196 4 c3197 :: hs)) ?_ ?_
      ·refine C_block <| C_seq <| R_nd <| nq (Q_move rfl) rfl rfl ?_
       obtain ⟨x3203, hx3203, ho3202⟩ := bnd ho3202
       obtain ⟨b3204, o3205, c3206, hc3207, ha3208, hi3209⟩ := idxR r3 hx3203
       refine nq (Q_idx hi3209 Tryd.underlying32 ty9 rfl rfl) rfl rfl <| nq (v := .string x3203) (Q_ld (show cellsAt _ _ _ [.string x3203] from (show _ = [_] from hc3207) ▸ (ha3208.up H.ok.view)) ty9 rfl (fun _ => rfl) rfl rfl) rfl rfl <| nq (Q_assign rfl) rfl rfl <| nq (Q_assign rfl) rfl rfl <| WL_nil <| x_then <| C_seq <| C_seq <| R_nd <| nq (Q_move rfl) rfl rfl <| nq (Q_lenStr Tryd.underlying9 rfl) rfl rfl <| nq (Q_gtr rfl rfl) rfl rfl <| WL_nil <| x_then ?_
       refine C_cond rfl (fun hb => ?_) (fun hb => ?_)
       ·replace ho3202 := itT hb ho3202
        refine C_seq <| R_nd <| nq (Q_assign rfl) rfl rfl <| WL_nil <| x_then <| C_ret <| x_then_ret <| x_block_ret <| x_then_ret <| x_then_ret <| x_block_ret <| x_then_ret <| x_then_ret ?_
        replace H := H.drop 0 rfl
        dsimp only [List.eraseIdx] at H
        obtain rfl := Option.some.inj ho3202
        obtain rfl := Option.some.inj (show some _ = some _ from hB3110)
        obtain rfl := hO3111 _ rfl
        obtain rfl := Option.some.inj (show some _ = some _ from hF)
        exact fn_ret (l := [.tmp 2]) (vs := [.bool true]) rfl rfl rfl ⟨ρ, true, rfl, rfl, (View.le_trans lw1830 lw3113), H⟩
       ·replace ho3202 := itF hb ho3202
        refine C_skip <| x_then <| C_seq <| C_seq <| R_nd <| nq (Q_assign rfl) rfl rfl <| WL_nil <| x_then ?_
        obtain ⟨o3220, ho3220, ho3202⟩ := bnd ho3202
        refine C_cutQ (fun a w' => .inl () = o3220 ∧ Fr 107 a [(3, .string x2922), (4, v2923), (5, .int .i64 x2927), (6, .int .i64 x2928), (7, .int .i64 x2921), (8, .string x3203), (22, v1), (23, .int .i64 (x2.length : Int)), (24, .int .i64 x2921)] ∧ Hp C w' ρ (Arr v2923 4 c2924 :: hs)) ?_ ?_
        ·refine C_block ?_
         refine C_iter (f := fun s => F_dofferlaw36_ScriptLines_l1 N x3203 s) ho3220 (fun s a w' => ∃ (x3223 : Int), x3223 = s ∧ Fr 107 a [(3, .string x2922), (4, v2923), (5, .int .i64 x2927), (6, .int .i64 x2928), (7, .int .i64 x2921), (8, .string x3203), (9, .int .i64 x3223), (22, v1), (23, .int .i64 (x2.length : Int)), (24, .int .i64 x2921)] ∧ Hp C w' ρ (Arr v2923 4 c2924 :: hs)) ?_ ?_
         ·exact fun a hf => ⟨0, rfl, hf.sub ⟨rfl, rfl, rfl, rfl, rfl, rfl, rfl, rfl, rfl, rfl, trivial⟩, H⟩
         ·rintro s o3226 a wd3229 ⟨x3223, rfl, hf, H⟩ hB3227 hO3228
          replace hB3227 : F_dofferlaw36_ScriptLines_l1 N x3203 x3223 = some o3226 := hB3227
          unfold F_dofferlaw36_ScriptLines_l1 at hB3227
          refine CW.at hf <| C_seq <| C_seq <| R_nd <| nq (Q_move rfl) rfl rfl <| nq (Q_move rfl) rfl rfl <| nq (Q_lenStr Tryd.underlying9 rfl) rfl rfl <| nq (Q_lss rfl rfl) rfl rfl <| WL_nil <| x_then ?_
          refine C_cond rfl (fun hb => ?_) (fun hb => ?_)
          ·replace hB3227 := itT hb hB3227
           refine C_skip <| x_then <| C_seq <| C_block <| C_seq <| R_nd <| nq (Q_move rfl) rfl rfl <| nq (Q_move rfl) rfl rfl ?_
           obtain ⟨x3230, hx3230, hB3227⟩ := bnd hB3227
           refine nq (Q_ixS hx3230 Tryd.underlying9 rfl rfl) rfl rfl <| nq (Q_eql rfl rfl) rfl rfl <| WL_nil <| x_then ?_
           refine C_cond rfl (fun hb => ?_) (fun hb => ?_)
           ·replace hB3227 := itT hb hB3227
            refine C_seq <| R_nd <| nq (Q_assign rfl) rfl rfl <| WL_nil <| x_then <| C_ret <| x_block_ret <| x_then_ret <| x_then_ret <| x_block_ret <| x_then_ret <| x_then_ret <| x_block_ret <| x_then_ret ?_
            refine x_then_ret <| x_block_ret <| x_then_ret <| x_then_ret ?_
            replace H := H.drop 0 rfl
            dsimp only [List.eraseIdx] at H
            obtain rfl := Option.some.inj hB3227
            obtain rfl := hO3228 _ rfl
            obtain rfl := Option.some.inj (show some _ = some _ from ho3202)
            obtain rfl := Option.some.inj (show some _ = some _ from hB3110)
            obtain rfl := hO3111 _ rfl
            obtain rfl := Option.some.inj (show some _ = some _ from hF)
            exact fn_ret (l := [.tmp 2]) (vs := [.bool true]) rfl rfl rfl ⟨ρ, true, rfl, rfl, (View.le_trans lw1830 lw3113), H⟩
           ·replace hB3227 := itF hb hB3227
            refine C_skip <| x_block <| x_then <| R_nd <| nq (Q_move rfl) rfl rfl <| nq (Q_add rfl rfl) rfl rfl <| nq (Q_assign rfl) rfl rfl <| WL_nil ?_
            obtain rfl := Option.some.inj hB3227
            refine x_A fun a hf => ⟨_, rfl, w64 (x3223 + 1), rfl, hf.sub ⟨rfl, rfl, rfl, rfl, rfl, rfl, rfl, rfl, rfl, rfl, trivial⟩, H⟩
          ·replace hB3227 := itF hb hB3227
           refine C_exit <| x_then_exit <| x_then_exit <| x_block_exit ?_
           obtain rfl := Option.some.inj hB3227
           obtain rfl := hO3228 _ rfl
           refine x_A fun a hf => ⟨rfl, hf.sub ⟨rfl, rfl, rfl, rfl, rfl, rfl, rfl, rfl, rfl, trivial⟩, H⟩
        ·rintro a wd3231 ⟨rfl, hf, H⟩
         try dsimp only at ho3202
         refine XX.at hf <| x_then <| C_seq <| C_seq <| R_nd <| nq (Q_move rfl) rfl rfl <| nq (Q_gtr rfl rfl) rfl rfl <| WL_nil <| x_then ?_
         obtain ⟨o3234, ho3234, ho3202⟩ := bnd ho3202
         refine C_cutQ (fun a w' => ∃ (x3233 : ByteArray), x3233 = o3234 ∧ Fr 107 a [(3, .string x3233), (4, v2923), (5, .int .i64 x2927), (6, .int .i64 x2928), (7, .int .i64 x2921), (8, .string x3203), (22, v1), (23, .int .i64 (x2.length : Int)), (24, .int .i64 x2921)] ∧ Hp C w' ρ (Arr v2923 4 c2924 :: hs)) ?_ ?_
         ·refine C_cond rfl (fun hb => ?_) (fun hb => ?_)
          ·replace ho3234 := itT hb ho3234
           refine R_nd <| nq (Q_move rfl) rfl rfl ?_
           obtain ⟨x3235, hx3235, ho3234⟩ := bnd ho3234
           refine nq (Q_cat hx3235 rfl rfl) rfl rfl <| nq (Q_assign rfl) rfl rfl <| WL_nil ?_
           obtain rfl := Option.some.inj ho3234
           refine x_A fun a hf => ⟨x3235, rfl, hf.sub ⟨rfl, rfl, rfl, rfl, rfl, rfl, rfl, rfl, rfl, trivial⟩, H⟩
          ·replace ho3234 := itF hb ho3234
           refine C_skip ?_
           obtain rfl := Option.some.inj ho3234
           refine x_A fun a hf => ⟨x2922, rfl, hf.sub ⟨rfl, rfl, rfl, rfl, rfl, rfl, rfl, rfl, rfl, trivial⟩, H⟩
         ·rintro a wd3236 ⟨x3233, rfl, hf, H⟩
          try dsimp only at ho3202
          refine XX.at hf <| x_then <| C_seq <| R_nd <| nq (Q_move rfl) rfl rfl <| nq (Q_move rfl) rfl rfl ?_
          obtain ⟨x3237, hx3237, ho3202⟩ := bnd ho3202
          refine nq (Q_cat hx3237 rfl rfl) rfl rfl <| nq (Q_assign rfl) rfl rfl <| WL_nil <| x_then <| C_seq ?_
          obtain ⟨o3239, ho3239, ho3202⟩ := bnd ho3202
          refine C_cut (fun a w' => ∃ (x3238 : Bool), x3238 = o3239 ∧ Fr 107 a [(3, .string x3237), (4, v2923), (5, .int .i64 x2927), (6, .int .i64 x2928), (7, .int .i64 x2921), (8, .string x3203), (22, v1), (23, .int .i64 (x2.length : Int)), (24, .int .i64 x2921), (54, .bool x3238)] ∧ Hp C w' ρ (Arr v2923 4 c2924 :: hs)) ?_ ?_
          ·refine R_nd <| nq (Q_move rfl) rfl rfl <| nq (Q_neq rfl rfl) rfl rfl <| nq (Q_move rfl) rfl rfl ?_
           rcases Bool.eq_false_or_eq_true (x2927 != 0) with hb | hb
           ·rw [hb]
            replace ho3239 := itT hb ho3239
            refine gs rfl rfl rfl rfl <| gs rfl rfl rfl rfl <| nq (Q_pickT rfl rfl) rfl rfl <| WL_nil ?_
            obtain rfl := Option.some.inj ho3239
            refine x_A fun a hf => ⟨true, rfl, hf.sub ⟨rfl, rfl, rfl, rfl, rfl, rfl, rfl, rfl, rfl, rfl, trivial⟩, H⟩
           ·rw [hb]
            replace ho3239 := itF hb ho3239
            refine gq (Q_move rfl) rfl rfl rfl <| gq (v := .bool (x3203.toList == ByteArray.empty.toList)) (Q_eqlStr Tryd.underlying9 rfl rfl) rfl rfl rfl <| nq (Q_pickF rfl rfl) rfl rfl <| WL_nil ?_
            obtain rfl := Option.some.inj ho3239
            refine x_A fun a hf => ⟨x3203.toList == ByteArray.empty.toList, rfl, hf.sub ⟨rfl, rfl, rfl, rfl, rfl, rfl, rfl, rfl, rfl, rfl, trivial⟩, H⟩
          ·rintro a wd3240 ⟨x3238, rfl, hf, H⟩
           try dsimp only at ho3202
           refine CW.at hf ?_
           refine C_cond rfl (fun hb => ?_) (fun hb => ?_)
           ·replace ho3202 := itT hb ho3202
            refine C_exit <| x_then_exit <| x_block_exit ?_
            obtain rfl := Option.some.inj ho3202
            refine x_A fun a hf => ⟨ρ, v2923, c2924, x3237, x2925, x2927, x2928, (View.le_refl _), rfl, r2926, hf.sub ⟨rfl, rfl, rfl, rfl, rfl, rfl, rfl, trivial⟩, H⟩
           ·replace ho3202 := itF hb ho3202
            refine C_skip <| x_then <| C_seq <| R_nd <| nq (Q_move rfl) rfl rfl ?_
            obtain ⟨q3241, hq3241, ho3202⟩ := bnd ho3202
            refine ne (E_call fn13 rfl (c_13 H gle   hq3241)) rfl rfl ?_
            rintro _ wd3251 ⟨v3243, c3244, x3245, x3246, x3247, x3248, x3249, rfl, rfl, r3250, H⟩
            try dsimp only at ho3202
            refine nq (Q_move rfl) rfl rfl <| nq (Q_extract rfl rfl) rfl rfl <| nq (Q_extract rfl rfl) rfl rfl <| ne (E_alloc H ty36 (zs := [.int .i64 0, .int .i64 0, .int .i64 0, .slice none 0 0]) rfl) rfl rfl ?_
            rintro _ wd3253 ⟨b3252, rfl, H⟩
            refine ne (E_stB (k := 0) (cs := [.int .i64 x3245, .int .i64 x3246, .int .i64 x3247, v3243]) (vs' := [.int .i64 x3245, .int .i64 x3246, .int .i64 x3247, v3243]) H rfl ty36 rfl rfl rfl rfl (one_cons rfl (one_cons rfl (one_cons rfl (one_cons (arr_cells (H.ok.get (k := 1) rfl)).2 one_nil)))) (by simp) rfl) rfl rfl ?_
            rintro _ wd3254 H
            dsimp only [List.set] at H
            refine nq (Q_assign rfl) rfl rfl <| WL_nil <| x_then <| C_seq <| R_nd <| nq (Q_move rfl) rfl rfl <| nq (Q_neq rfl rfl) rfl rfl <| WL_nil <| x_then ?_
            obtain ⟨o3271, ho3271, ho3202⟩ := bnd ho3202
            refine C_cutQ (fun a w' => ∃ (ρ' : View) (v3265 : Value) (c3266 : (List Value)) (x3267 : (List (Int × Int × Int × (List Int)))) (x3269 : Int) (x3270 : Int), View.le ρ ρ' ∧ (x3267, x3269, x3270) = o3271 ∧ rdL (eP (eI .i64) (eP (eI .i64) (eP (eI .i64) (eL (eI .u8))))) ρ' x3267 c3266 ∧ Fr 107 a [(3, .string x3237), (4, v3265), (5, .int .i64 x3269), (6, .int .i64 x3270), (22, v1), (23, .int .i64 (x2.length : Int)), (24, .int .i64 x2921)] ∧ Hp C w' ρ' (Arr v3265 4 c3266 :: hs)) ?_ ?_
            ·refine C_cond rfl (fun hb => ?_) (fun hb => ?_)
             ·replace ho3271 := itT hb ho3271
              refine R_nd <| nq (Q_move rfl) rfl rfl <| nq (Q_move rfl) rfl rfl <| nq (Q_assign rfl) rfl rfl <| nq (Q_assign rfl) rfl rfl <| WL_nil ?_
              replace H := H.f2
              replace H := H.drop 1 rfl
              dsimp only [List.eraseIdx] at H
              replace H := H.drop 1 rfl
              dsimp only [List.eraseIdx] at H
              obtain rfl := Option.some.inj ho3271
              refine x_A fun a hf => ⟨ρ, v2923, c2924, x2925, x3249, x2921, (View.le_refl _), rfl, r2926, hf.sub ⟨rfl, rfl, rfl, rfl, rfl, rfl, rfl, trivial⟩, H⟩
             ·replace ho3271 := itF hb ho3271
              refine R_nd <| nq (Q_move rfl) rfl rfl <| nq (v := .agg #[.int .i64 x3245, .int .i64 x3246, .int .i64 x3247, v3243]) (Q_ldB (k := 0) (cs := [.int .i64 x3245, .int .i64 x3246, .int .i64 x3247, v3243]) H.ok rfl ty36 rfl rfl rfl (fun h => nomatch h) rfl) rfl rfl ?_
              replace H := H.f1
              obtain ⟨ρ, lw3272, H, r3273⟩ := Hp.frz (en := (eI .u8)) H (by decide) r3250
              replace r3 := RdSl.up lw3272 r3
              replace r2926 := rdL.up lw3272 r2926
              replace gle := GErrs.up lw3272 gle
              refine ne (E_bslice (xs := [.tmp 65]) (vs := [.agg #[.int .i64 x3245, .int .i64 x3246, .int .i64 x3247, v3243]]) H Tryd.underlying33 ty36 (by decide) (cs := [.int .i64 x3245, .int .i64 x3246, .int .i64 x3247, v3243]) rfl (sz_cons rfl sz_nil) rfl (by simp) (by simp) rfl rfl) rfl rfl ?_
              rintro _ wd3275 ⟨b3274, rfl, H⟩
              obtain ⟨x3276, hx3276, ho3271⟩ := bnd ho3271
              obtain ⟨ha3277a, ha3277b⟩ := app_some hx3276
              have r3279 : rdL (eP (eI .i64) (eP (eI .i64) (eP (eI .i64) (eL (eI .u8))))) ρ x3276 (c2924 ++ ([.int .i64 x3245, .int .i64 x3246, .int .i64 x3247, v3243])) := ha3277b ▸ rdL.app r2926 (show rdL (eP (eI .i64) (eP (eI .i64) (eP (eI .i64) (eL (eI .u8))))) ρ ([(x3245, x3246, x3247, x3248)]) ([.int .i64 x3245, .int .i64 x3246, .int .i64 x3247, v3243]) from ⟨([.int .i64 x3245, .int .i64 x3246, .int .i64 x3247, v3243]), _, rfl, ⟨[.int .i64 x3245], _, rfl, rfl, ⟨[.int .i64 x3246], _, rfl, rfl, ⟨[.int .i64 x3247], _, rfl, rfl, ⟨_, rfl, r3273⟩⟩⟩⟩, rdL.nil⟩)
              refine ne (E_append (k := 2) H rfl Tryd.underlying33 ty36 rfl (by decide) (by decide) rfl rfl (Src.ofArr (k := 0) H.ok rfl) (rdL.one (show rdL (eP (eI .i64) (eP (eI .i64) (eP (eI .i64) (eL (eI .u8))))) ρ ([(x3245, x3246, x3247, x3248)]) ([.int .i64 x3245, .int .i64 x3246, .int .i64 x3247, v3243]) from ⟨([.int .i64 x3245, .int .i64 x3246, .int .i64 x3247, v3243]), _, rfl, ⟨[.int .i64 x3245], _, rfl, rfl, ⟨[.int .i64 x3246], _, rfl, rfl, ⟨[.int .i64 x3247], _, rfl, rfl, ⟨_, rfl, r3273⟩⟩⟩⟩, rdL.nil⟩)) (app_fit r2926 (show rdL (eP (eI .i64) (eP (eI .i64) (eP (eI .i64) (eL (eI .u8))))) ρ ([(x3245, x3246, x3247, x3248)]) ([.int .i64 x3245, .int .i64 x3246, .int .i64 x3247, v3243]) from ⟨([.int .i64 x3245, .int .i64 x3246, .int .i64 x3247, v3243]), _, rfl, ⟨[.int .i64 x3245], _, rfl, rfl, ⟨[.int .i64 x3246], _, rfl, rfl, ⟨[.int .i64 x3247], _, rfl, rfl, ⟨_, rfl, r3273⟩⟩⟩⟩, rdL.nil⟩) ha3277a)) rfl rfl ?_
              rintro v3278 wd3281 ⟨H, hc3280⟩
              dsimp only [List.set] at H
              refine nq (Q_assign rfl) rfl rfl <| WL_nil ?_
              replace H := H.f2
              replace H := H.drop 1 rfl
              dsimp only [List.eraseIdx] at H
              replace H := H.drop 1 rfl
              dsimp only [List.eraseIdx] at H
              obtain rfl := Option.some.inj ho3271
              refine x_A fun a hf => ⟨ρ, v3278, (c2924 ++ ([.int .i64 x3245, .int .i64 x3246, .int .i64 x3247, v3243])), x3276, x2927, x2928, lw3272, rfl, r3279, hf.sub ⟨rfl, rfl, rfl, rfl, rfl, rfl, rfl, trivial⟩, H⟩
            ·rintro a wd3282 ⟨ρ, v3265, c3266, x3267, x3269, x3270, lw3283, rfl, r3268, hf, H⟩
             try dsimp only at ho3202
             replace r3 := RdSl.up lw3283 r3
             replace gle := GErrs.up lw3283 gle
             refine XX.at hf <| x_block ?_
             obtain rfl := Option.some.inj ho3202
             refine x_A fun a hf => ⟨ρ, v3265, c3266, x3237, x3267, x3269, x3270, lw3283, rfl, r3268, hf.sub ⟨rfl, rfl, rfl, rfl, rfl, rfl, rfl, trivial⟩, H⟩
      ·rintro a wd3284 ⟨ρ, v3196, c3197, x3195, x3198, x3200, x3201, lw3285, rfl, r3199, hf, H⟩
       try dsimp only at hB3110
       replace r3 := RdSl.up lw3285 r3
       replace gle := GErrs.up lw3285 gle
       refine CW.at hf <| R_nd <| nq (Q_add rfl rfl) rfl rfl <| nq (Q_move rfl) rfl rfl <| WL_nil ?_
       obtain rfl := Option.some.inj hB3110
       refine x_A fun a hf => ⟨_, rfl, ρ, v3196, c3197, w64 (x2921 + 1), x3195, x3198, x3200, x3201, (View.le_trans lw3113 lw3285), rfl, r3199, hf.sub ⟨rfl, rfl, rfl, rfl, rfl, rfl, rfl, trivial⟩, H⟩
     ·replace hB3110 := itF hb hB3110
      refine C_exit <| x_then_exit <| x_then_exit <| x_block_exit ?_
      obtain rfl := Option.some.inj hB3110
      obtain rfl := hO3111 _ rfl
      refine x_A fun a hf => ⟨ρ, v2923, c2924, x2922, x2925, x2927, x2928, lw3113, rfl, r2926, hf.sub ⟨rfl, rfl, rfl, rfl, trivial⟩, H⟩
   ·rintro a wd3286 ⟨ρ, v2557, c2558, x2556, x2559, x2561, x2562, lw3287, rfl, r2560, hf, H⟩
    try dsimp only at hF
    replace gle := GErrs.up lw3287 gle
    refine XX.at hf <| x_then <| C_seq <| R_nd <| nq (Q_move rfl) rfl rfl ?_
    obtain ⟨q3288, hq3288, hF⟩ := bnd hF
    refine ne (E_call fn14 rfl (c_14 H gle   hq3288)) rfl rfl ?_
    rintro _ wd3297 ⟨ρ, v3290, c3291, x3292, x3293, x3294, rfl, rfl, lw3295, r3296, H⟩
    try dsimp only at hF
    replace r2560 := rdL.up lw3295 r2560
    replace gle := GErrs.up lw3295 gle
    refine nq (Q_move rfl) rfl rfl <| nq (Q_extract rfl rfl) rfl rfl <| nq (Q_extract rfl rfl) rfl rfl <| nq (Q_extract rfl rfl) rfl rfl <| nq (Q_assign rfl) rfl rfl <| nq (Q_assign rfl) rfl rfl <| nq (Q_assign rfl) rfl rfl <| WL_nil <| x_then <| C_seq ?_
    obtain ⟨o3303, ho3303, hF⟩ := bnd hF
    refine C_cut (fun a w' => ∃ (x3302 : Bool), x3302 = o3303 ∧ Fr 107 a [(4, v2557), (12, v3290), (90, .bool x3302)] ∧ Hp C w' ρ (Arr v3290 4 c3291 :: Arr v2557 4 c2558 :: hs)) ?_ ?_
    ·refine R_nd <| nq (Q_move rfl) rfl rfl ?_
     obtain ⟨q3304, hq3304, ho3303⟩ := bnd ho3303
     refine ne (E_call fn12 rfl (c_12 H gle   hq3304)) rfl rfl ?_
     rintro _ wd3307 ⟨x3306, rfl, rfl, H⟩
     try dsimp only at ho3303
     refine nq (Q_move rfl) rfl rfl <| nq (Q_neq rfl rfl) rfl rfl <| nq (Q_move rfl) rfl rfl ?_
     rcases Bool.eq_false_or_eq_true (x3306 != x2561) with hb | hb
     ·rw [hb]
      replace ho3303 := itT hb ho3303
      refine gs rfl rfl rfl rfl <| gs rfl rfl rfl rfl <| gs rfl rfl rfl rfl <| gs rfl rfl rfl rfl <| gs rfl rfl rfl rfl <| nq (Q_pickT rfl rfl) rfl rfl <| nq (Q_move rfl) rfl rfl <| gs rfl rfl rfl rfl <| gs rfl rfl rfl rfl <| gs rfl rfl rfl rfl <| nq (Q_pickT rfl rfl) rfl rfl <| WL_nil ?_
      replace H := H.f1
      replace H := H.f1
      obtain rfl := Option.some.inj ho3303
      refine x_A fun a hf => ⟨true, rfl, hf.sub ⟨rfl, rfl, rfl, trivial⟩, H⟩
     ·rw [hb]
      replace ho3303 := itF hb ho3303
      refine gq (Q_move rfl) rfl rfl rfl <| gq (Q_lenA (k := 0) H.ok rfl r3296 (by decide) Tryd.underlying39 rfl) rfl rfl rfl <| gq (Q_move rfl) rfl rfl rfl <| gq (Q_lenA (k := 1) H.ok rfl r2560 (by decide) Tryd.underlying33 rfl) rfl rfl rfl <| gq (Q_neq rfl rfl) rfl rfl rfl <| nq (Q_pickF rfl rfl) rfl rfl <| nq (Q_move rfl) rfl rfl ?_
      rcases Bool.eq_false_or_eq_true ((x3292.length : Int) != (x2559.length : Int)) with hb | hb
      ·rw [hb]
       replace ho3303 := itT hb ho3303
       refine gs rfl rfl rfl rfl <| gs rfl rfl rfl rfl <| gs rfl rfl rfl rfl <| nq (Q_pickT rfl rfl) rfl rfl <| WL_nil ?_
       replace H := H.f1
       replace H := H.f1
       obtain rfl := Option.some.inj ho3303
       refine x_A fun a hf => ⟨true, rfl, hf.sub ⟨rfl, rfl, rfl, trivial⟩, H⟩
      ·rw [hb]
       replace ho3303 := itF hb ho3303
       refine gq (Q_move rfl) rfl rfl rfl <| gq (Q_move rfl) rfl rfl rfl <| gq (Q_neq rfl rfl) rfl rfl rfl <| nq (Q_pickF rfl rfl) rfl rfl <| WL_nil ?_
       replace H := H.f1
       replace H := H.f1
       obtain rfl := Option.some.inj ho3303
       refine x_A fun a hf => ⟨x3293 != x2562, rfl, hf.sub ⟨rfl, rfl, rfl, trivial⟩, H⟩
    ·rintro a wd3308 ⟨x3302, rfl, hf, H⟩
     try dsimp only at hF
     refine CW.at hf ?_
     refine C_cond rfl (fun hb => ?_) (fun hb => ?_)
     ·replace hF := itT hb hF
      refine C_seq <| R_nd <| nq (Q_assign rfl) rfl rfl <| WL_nil <| x_then <| C_ret <| x_then_ret ?_
      replace H := H.drop 0 rfl
      dsimp only [List.eraseIdx] at H
      replace H := H.drop 0 rfl
      dsimp only [List.eraseIdx] at H
      obtain rfl := Option.some.inj hF
      exact fn_ret (l := [.tmp 2]) (vs := [.bool false]) rfl rfl rfl ⟨ρ, false, rfl, rfl, (View.le_trans lw1830 (View.le_trans lw3287 lw3295)), H⟩
     ·replace hF := itF hb hF
      refine C_skip <| x_then <| C_seq <| C_seq <| R_nd <| nq (Q_move rfl) rfl rfl <| nq (Q_lenA (k := 0) H.ok rfl r3296 (by decide) Tryd.underlying39 rfl) rfl rfl <| nq (Q_move rfl) rfl rfl <| WL_nil <| x_then ?_
      obtain ⟨o3478, ho3478, hF⟩ := bnd hF
      refine C_cutQ (fun a w' => .inl () = o3478 ∧ Fr 107 a [] ∧ Hp C w' ρ (hs)) ?_ ?_
      ·refine C_block ?_
       replace H := H.f1
       replace H := H.f1
       refine C_iter (f := fun s => F_dofferlaw36_ScriptLines_l2 N x2559 x3292 s) ho3478 (fun s a w' => ∃ (x3534 : Int), x3534 = s ∧ Fr 107 a [(4, v2557), (12, v3290), (92, .int .i64 (x3292.length : Int)), (93, .int .i64 x3534)] ∧ Hp C w' ρ (Arr v3290 4 c3291 :: Arr v2557 4 c2558 :: hs)) ?_ ?_
       ·exact fun a hf => ⟨0, rfl, hf.sub ⟨rfl, rfl, rfl, rfl, trivial⟩, H⟩
       ·rintro s o3590 a wd3593 ⟨x3534, rfl, hf, H⟩ hB3591 hO3592
        replace hB3591 : F_dofferlaw36_ScriptLines_l2 N x2559 x3292 x3534 = some o3590 := hB3591
        unfold F_dofferlaw36_ScriptLines_l2 at hB3591
        refine CW.at hf <| C_seq <| R_nd <| nq (Q_lss rfl rfl) rfl rfl <| WL_nil <| x_then <| C_seq ?_
        refine C_cond rfl (fun hb => ?_) (fun hb => ?_)
        ·replace hB3591 := itT hb hB3591
         refine C_skip <| x_then <| C_seq <| C_block <| C_seq <| R_nd <| nq (Q_move rfl) rfl rfl <| nq (Q_assign rfl) rfl rfl <| WL_nil <| x_then <| C_seq <| R_dr (.take 0 (.take 1 (.take 2 (.take 3 (.take 4 (.take 5 (.take 6 (.take 7 (.one 8 (.take 9 .done)))))))))) (fun w' => Ok w' ρ [Arr v3290 4 c3291, Arr v2557 4 c2558]) (by kernel_rfl) (by kernel_rfl) (by kernel_rfl) (H.drew.okS (by simp)) ?_
         replace H := H.drew
         refine dq rfl (fun _ _ => Q_move rfl) rfl rfl <| dq rfl (fun _ _ => Q_move rfl) rfl rfl ?_
         obtain ⟨x3594, hx3594, hB3591⟩ := bnd hB3591
         obtain ⟨b3595, o3596, hi3600, hc3598, ha3599⟩ := arr_at (hs := [Arr v3290 4 c3291]) (k := 0) (by decide) (H.okS (by simp)) rfl r3296 hx3594
         refine dq rfl (fun _ _ => Q_idx hi3600 Tryd.underlying39 ty43 rfl rfl) rfl rfl ?_
         obtain ⟨c3601, c3602, he3603, hc3604, hc3605⟩ := hc3598
         obtain ⟨c3606, c3607, he3608, hc3609, hc3610⟩ := hc3605
         obtain ⟨c3611, c3612, he3613, hc3614, hc3615⟩ := hc3610
         obtain ⟨v3616, he3617, r3618⟩ := hc3615
         refine dq (v := .agg #[.int .i64 x3594.1, .int .i64 x3594.2.1, .int .i64 x3594.2.2.1, v3616]) rfl (fun _ hw => Q_ld (show cellsAt _ _ _ [.int .i64 x3594.1, .int .i64 x3594.2.1, .int .i64 x3594.2.2.1, v3616] from cellsAt.cg (cat2 he3603 (rdI hc3604) (cat2 he3608 (rdI hc3609) (cat2 he3613 (rdI hc3614) he3617))) (ha3599 _ (Ok.subS (by simp) hw))) ty43 rfl (fun h => nomatch h) rfl rfl) rfl rfl <| dq rfl (fun _ _ => Q_move rfl) rfl rfl <| dq rfl (fun _ _ => Q_move rfl) rfl rfl ?_
         obtain ⟨x3619, hx3619, hB3591⟩ := bnd hB3591
         obtain ⟨b3620, o3621, hi3625, hc3623, ha3624⟩ := arr_at (hs := [Arr v2557 4 c2558]) (k := 0) (by decide) (H.okS (by simp)) rfl r2560 hx3619
         refine dq rfl (fun _ _ => Q_idx hi3625 Tryd.underlying33 ty36 rfl rfl) rfl rfl ?_
         obtain ⟨c3626, c3627, he3628, hc3629, hc3630⟩ := hc3623
         obtain ⟨c3631, c3632, he3633, hc3634, hc3635⟩ := hc3630
         obtain ⟨c3636, c3637, he3638, hc3639, hc3640⟩ := hc3635
         obtain ⟨v3641, he3642, r3643⟩ := hc3640
         refine dq (v := .agg #[.int .i64 x3619.1, .int .i64 x3619.2.1, .int .i64 x3619.2.2.1, v3641]) rfl (fun _ hw => Q_ld (show cellsAt _ _ _ [.int .i64 x3619.1, .int .i64 x3619.2.1, .int .i64 x3619.2.2.1, v3641] from cellsAt.cg (cat2 he3628 (rdI hc3629) (cat2 he3633 (rdI hc3634) (cat2 he3638 (rdI hc3639) he3642))) (ha3624 _ (Ok.subS (by simp) hw))) ty36 rfl (fun h => nomatch h) rfl rfl) rfl rfl ?_
         obtain ⟨q3644, hq3644, hB3591⟩ := bnd hB3591
         refine d1 (de rfl (E_call fn15 rfl (c_15 H gle  r3618 r3643 hq3644)) rfl rfl ?_)
         rintro _ wd3647 ⟨x3646, rfl, rfl, H⟩
         try dsimp only at hB3591
         refine ⟨H.okS (by simp), ?_⟩
         refine dq rfl (fun _ _ => Q_not rfl) rfl rfl <| DL_nil <| x_then ?_
         refine C_cond rfl (fun hb => ?_) (fun hb => ?_)
         ·replace hB3591 := itT hb hB3591
          refine C_seq <| R_nd <| nq (Q_assign rfl) rfl rfl <| WL_nil <| x_then <| C_ret <| x_block_ret <| x_then_ret <| x_then_ret <| x_block_ret <| x_then_ret <| x_then_ret ?_
          replace H := H.drop 0 rfl
          dsimp only [List.eraseIdx] at H
          replace H := H.drop 0 rfl
          dsimp only [List.eraseIdx] at H
          obtain rfl := Option.some.inj hB3591
          obtain rfl := hO3592 _ rfl
          obtain rfl := Option.some.inj (show some _ = some _ from hF)
          exact fn_ret (l := [.tmp 2]) (vs := [.bool false]) rfl rfl rfl ⟨ρ, false, rfl, rfl, (View.le_trans lw1830 (View.le_trans lw3287 lw3295)), H⟩
         ·replace hB3591 := itF hb hB3591
          refine C_skip <| x_block <| x_then <| R_nd <| nq (Q_add rfl rfl) rfl rfl <| nq (Q_move rfl) rfl rfl <| WL_nil ?_
          replace H := H.f1
          replace H := H.f1
          obtain rfl := Option.some.inj hB3591
          refine x_A fun a hf => ⟨_, rfl, w64 (x3534 + 1), rfl, hf.sub ⟨rfl, rfl, rfl, rfl, trivial⟩, H⟩
        ·replace hB3591 := itF hb hB3591
         refine C_exit <| x_then_exit <| x_then_exit <| x_block_exit ?_
         replace H := H.drop 0 rfl
         dsimp only [List.eraseIdx] at H
         replace H := H.drop 0 rfl
         dsimp only [List.eraseIdx] at H
         obtain rfl := Option.some.inj hB3591
         obtain rfl := hO3592 _ rfl
         refine x_A fun a hf => ⟨rfl, hf.sub trivial, H⟩
      ·rintro a wd3648 ⟨rfl, hf, H⟩
       try dsimp only at hF
       refine XX.at hf <| x_then <| C_seq <| R_nd <| nq (Q_assign rfl) rfl rfl <| WL_nil <| x_then <| C_ret ?_
       obtain rfl := Option.some.inj hF
       exact fn_ret (l := [.tmp 2]) (vs := [.bool true]) rfl rfl rfl ⟨ρ, true, rfl, rfl, (View.le_trans lw1830 (View.le_trans lw3287 lw3295)), H⟩
end Go.Proofs.YticipjjhbebegaaDoor
