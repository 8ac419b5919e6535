/-
  The engine: how code is walked (what this claim needs of it).
-/
import Derived.Test.YtealkahefalaeaaGreatDoorWalkClosedE2
namespace Go.Cr
open Go Go.Eng
section
variable {P : Program} {B : Base} {γ γ' : Gh} {h h' : HS} {w w' w1 : World} {T T' : FT} {c : CV} {X : XI} {rc : RC} {n : Nat} {ds : List Nat} {a : Act}
theorem Go1.off (G : Go1 γ h w γ' h' w1) {D : Nat} (hD : w.heap.size ≤ D) (o : Obj) : Go1 γ h w γ' h' (w1.putObj D o) :=
  ⟨G.os, G.tape, G.out, by rw [World.putObj_size]; exact G.size, G.le, G.nx, fun b hb hn => (World.putObj_heap_other (by omega)).trans (G.pres b hb hn), G.own, G.used, G.gnew⟩
theorem leaves_ok {fn : Func} {tm : Array Value} (hs : ∀ k, SR γ' (fget T k) (tm.getD k undef)) (hu : anyU ((resK P fn.results.toList).f T h') = false) :
    ∀ (ds : List Nat) {w1 : World}, Go1 γ h w γ' h' w1 → Inv γ' h' w1 → (∀ D ∈ ds, hv w1 D = some (.deferred (some [])) ∧ ¬ Used γ' h' D ∧ w.heap.size ≤ D) → ds.Nodup →
      LeavesInM Fence.wide 0 P fn tm (Rets (After γ h w (packC ((resK P fn.results.toList).f T h')) h')) (marks ds) .returning w1
  | [], w1, G, V, _, _ => by
    obtain ⟨vs, h1, h2⟩ := resK_ok V hs fn.results.toList hu
    exact ⟨_, results_rt h2, _, rfl, γ', G, V, pack_ok h1⟩
  | D :: ds, w1, G, V, hd, hn => by
    obtain ⟨h1, h2, h3⟩ := hd D (by simp)
    have hnd := List.nodup_cons.1 hn
    refine ⟨by simp, .inl ⟨_, _, rfl, run_takeDeferred h1, ?_⟩⟩
    refine leaves_ok hs hu ds (G.off h3 _) (V.keep fun b hb => World.putObj_heap_other (fun e => h2 (e ▸ hb))) (fun E hE => ?_) hnd.2
    obtain ⟨g1, g2, g3⟩ := hd E (by simp [hE])
    exact ⟨(World.putObj_heap_other (fun e => hnd.1 (by rw [← e]; exact hE))).trans g1, g2, g3⟩
theorem args_getD {vs : List Value} {m k : Nat} : (vs.toArray ++ Array.replicate m undef).getD k undef = vs.getD k undef := by
  by_cases hk : k < vs.length
  · simp [Array.getElem?_append, hk]
  · by_cases h2 : k - vs.length < m
    · simp [Array.getElem?_append, hk, h2]
    · simp [Array.getElem?_append, hk, h2]
theorem fn_ok (hrc : RcOk P rc) (hm : P.follows .mixedOrders = true) {fid : Nat} {fn : Func} {cd : Code} (hf : P.funcs[fid]? = some fn) (hb : fn.body = some cd) (hname : (fn.name == "runtime.NumGoroutine") = false) (V : Inv γ h w)
    {args : List CV} {vs : List Value} (ha : srs γ args vs) (hc : (fnK P X fid fn).f rc args h = .ok c h') : Calls P fid vs.toArray w (Rets (After γ h w c h')) := by
  unfold fnK at hc
  simp only [hb, hname, cond_false] at hc
  cases hq : Nat.ble (lenF args) fn.ntmps with
  | false => rw [hq] at hc; cases hc
  | true =>
    rw [hq] at hc
    simp only [cond_true] at hc
    have hle := Nat.le_of_ble_eq_true hq
    rw [lenF_eq] at hle
    have hlen := ha.len
    have S : St ⟨γ, h, w⟩ γ h w (wrC args 0 .nil) fn.ntmps [] { tmps := vs.toArray ++ Array.replicate (fn.ntmps - vs.toArray.size) undef, defers := [] } :=
      ⟨Go1.refl _ _ _, V, by simp; omega, rfl, fun k => by
        rw [args_getD, wrC_get]
        split
        · rw [Nat.sub_zero]; exact ha.get
        · exact .inl (gK_nil _), fun D hD => (nomatch hD), List.nodup_nil⟩
    have fin : ∀ {T1 : FT} {h1 : HS} {γ1 : Gh} {w1 : World} {ds : List Nat} {a1 : Act}, finC ((resK P fn.results.toList).f T1 h1) h1 = .ok c h' → St ⟨γ, h, w⟩ γ1 h1 w1 T1 fn.ntmps ds a1 →
        LeavesInM Fence.wide 0 P fn a1.tmps (Rets (After γ h w c h')) a1.defers .returning w1 := by
      intro T1 h1 γ1 w1 ds a1 hfin S1
      unfold finC at hfin
      cases hu : anyU ((resK P fn.results.toList).f T1 h1) with
      | true => rw [hu] at hfin; cases hfin
      | false =>
        rw [hu] at hfin
        simp only [cond_false, Rs.ok.injEq] at hfin
        obtain ⟨rfl, rfl⟩ := hfin
        rw [S1.defers]
        exact leaves_ok S1.slots hu ds S1.go S1.inv S1.dss S1.nod
    refine (callsIn_wide (n := 0)).1 (callsIn_of_wp_marks hf hb trivial ?_)
    unfold retO at hc
    split at hc
    · rename_i T1 h1 hx
      exact code_ok hrc hm cd true none (fun _ => rfl) S hx (Q := bodyPostM Fence.wide 0 P fn (Rets (After γ h w c h'))) fun γ1 w1 ds a1 S1 => fin hc S1
    · rename_i T1 h1 hx
      exact code_ok hrc hm cd true none (fun _ => rfl) S hx (Q := bodyPostM Fence.wide 0 P fn (Rets (After γ h w c h'))) fun γ1 w1 ds a1 S1 => fin hc S1
    · cases hc
theorem putPs_ok {n : Nat} : ∀ {ps : List Nat} {args : List CV} {vs : List Value} {T T1 : FT} {tm : Array Value}, srs γ args vs → tm.size = n → (∀ k, SR γ (fget T k) (tm.getD k undef)) → putPs n ps args T = some T1 →
    vs.length = ps.length ∧ ((ps.zip vs).foldl (fun (t : Array Value) (p, v) => t.setIfInBounds p v) tm).size = n ∧ ∀ k, SR γ (fget T1 k) (((ps.zip vs).foldl (fun (t : Array Value) (p, v) => t.setIfInBounds p v) tm).getD k undef)
  | [], [], [], T, T1, tm, _, hn, hs, hc => by
    have hc' : some T = some T1 := hc
    obtain rfl := Option.some.inj hc'
    exact ⟨rfl, hn, hs⟩
  | [], _ :: _, _, _, _, _, _, _, _, hc => by
    have hc' : (none : Option FT) = some _ := hc
    cases hc'
  | [], [], _ :: _, _, _, _, ha, _, _, _ => ha.elim
  | _ :: _, [], _, _, _, _, _, _, _, hc => by
    have hc' : (none : Option FT) = some _ := hc
    cases hc'
  | _ :: _, _ :: _, [], _, _, _, ha, _, _, _ => ha.elim
  | p :: ps, a :: args, v :: vs, T, T1, tm, ha, hn, hs, hc => by
    have hc' : (bif Nat.blt p n then putPs n ps args (fput T p a) else none) = some T1 := hc
    cases hb : Nat.blt p n with
    | false => rw [hb] at hc'; cases hc'
    | true =>
      rw [hb] at hc'
      simp only [cond_true] at hc'
      have hlt : p < n := by rwa [Nat.blt_eq] at hb
      have := putPs_ok (tm := tm.setIfInBounds p v) ha.2 (by simpa using hn) (fun k => by
        have e : fget (fput T p a) k = if k = p then a else fget T k := tget_tput _ _ _ _ _
        rw [e]
        split
        · rename_i e; subst e
          have : (tm.setIfInBounds k v).getD k undef = v := by simp [hn, hlt]
          rw [this]; exact ha.1
        · rename_i e
          have : (tm.setIfInBounds p v).getD k undef = tm.getD k undef := by
            simp only [Array.getD_eq_getD_getElem?]
            rw [Array.getElem?_setIfInBounds_ne (Ne.symm e)]
          rw [this]; exact hs k) hc'
      simpa using this
theorem St.go' (S : St B γ h w T n ds a) (hA : Go1 γ h w γ' h' w') (V : Inv γ' h' w') : St B γ' h' w' T n ds a := S.step none hA V (v := undef) (.inl rfl)
theorem yield_ok (hrc : RcOk P rc) (hm : P.follows .mixedOrders = true) {id b m : Nat} (hk : γ id = some (b, m)) (V : Inv γ h w) {args : List CV} {vs : List Value} (ha : srs γ args vs) (hc : yldO P rc id args h (hget h id) = .ok c h') :
    YieldAt Fence.wide 0 P b vs.toArray w (Rets (After γ h w c h')) := by
  have hrel := V.rel id
  unfold yldO at hc
  split at hc
  · rename_i st pd n T ps assign body hob
    rw [hob] at hrel
    obtain ⟨b', n0, fn, tmps, D, k1, k2, k3, k4⟩ := hrel
    rw [hk] at k1
    obtain ⟨rfl, rfl⟩ := Prod.mk.inj (Option.some.inj k1)
    split at hc
    · rename_i T1 hT1
      obtain ⟨p1, p2, p3⟩ := putPs_ok ha k3 k4 hT1
      refine ⟨fn, _, assign, body, run_yield k2 (by simp [p1]), roundIn_of_wpIn trivial ?_⟩
      have e : (Array.zip ps.toArray vs.toArray).foldl (fun (t : Array Value) (p, v) => t.setIfInBounds p v) tmps = (ps.zip vs).foldl (fun (t : Array Value) (p, v) => t.setIfInBounds p v) tmps := by simp
      have S : St ⟨γ, h, w⟩ γ h w T1 n [] { tmps := (Array.zip ps.toArray vs.toArray).foldl (fun (t : Array Value) (p, v) => t.setIfInBounds p v) tmps, defers := [] } := by
        rw [e]
        exact ⟨Go1.refl _ _ _, V, p2, rfl, p3, fun D hD => (nomatch hD), List.nodup_nil⟩
      unfold assO at hc
      split at hc
      · rename_i T2 h2 hx
        refine code_ok hrc hm assign false (some b) (fun hh => by cases hh) S hx fun γ2 w2 ds2 a2 S2 => ?_
        unfold begO at hc
        split at hc
        · rename_i st2 pd2 n2 T2' ps2 as2 bd2 hob2
          cases hst : Nat.beq st2 0 with
          | false => rw [hst] at hc; cases hc
          | true =>
            rw [hst] at hc
            simp only [cond_true] at hc
            obtain rfl := Nat.eq_of_beq_eq_true hst
            have hrel2 := S2.inv.rel id
            rw [hob2] at hrel2
            obtain ⟨b2, m2, fn2, tm2, D2, q1, q2, q3, q4⟩ := hrel2
            have hk2 := S2.go.le _ _ hk
            rw [q1] at hk2
            obtain ⟨rfl, rfl⟩ := Prod.mk.inj (Option.some.inj hk2)
            have hlt2 := lt_of_hv q2
            obtain ⟨V3, G3⟩ := S2.inv.put (w1 := w2.putObj b2 (.loop ⟨.busy, pd2, fn2, tm2, ps2.toArray, as2, bd2, D2⟩)) (o := .l 1 pd2 n2 T2' ps2 as2 bd2) q1 (by rw [hob2]; rfl) rfl rfl rfl (by simp) (fun b' hb' => World.putObj_heap_other hb')
              ⟨b2, m2, fn2, tm2, D2, q1, World.putObj_heap_same hlt2, q3, q4⟩
            have S3 := S2.go' G3 V3
            refine ⟨_, run_beginRound q2 rfl, ?_⟩
            unfold bodO at hc
            split at hc
            · rename_i e3 T4 h4 hy
              refine code_ok hrc hm body false (some b2) (fun hh => by cases hh) S3 hy fun γ4 w4 ds4 a4 S4 => ?_
              unfold endO at hc
              split at hc
              · rename_i st4 pd4 n4 T4' ps4 as4 bd4 hob4
                have hrel4 := S4.inv.rel id
                rw [hob4] at hrel4
                obtain ⟨b4, m4, fn4, tm4, D4, r1, r2, r3, r4⟩ := hrel4
                have hk4 := S4.go.le _ _ hk
                rw [r1] at hk4
                obtain ⟨rfl, rfl⟩ := Prod.mk.inj (Option.some.inj hk4)
                have hlt4 := lt_of_hv r2
                have put : ∀ (s : Nat) (p : Option Code), Inv γ4 (hput h4 id (.l s p n4 T4' ps4 as4 bd4)) (w4.putObj b4 (.loop ⟨lst s, p, fn4, tm4, ps4.toArray, as4, bd4, D4⟩)) ∧ Go1 γ4 h4 w4 γ4 (hput h4 id (.l s p n4 T4' ps4 as4 bd4)) (w4.putObj b4 (.loop ⟨lst s, p, fn4, tm4, ps4.toArray, as4, bd4, D4⟩)) := fun s p =>
                  S4.inv.put (w1 := w4.putObj b4 (.loop ⟨lst s, p, fn4, tm4, ps4.toArray, as4, bd4, D4⟩)) (o := .l s p n4 T4' ps4 as4 bd4) r1 (by rw [hob4]; rfl) rfl rfl rfl (by simp) (fun b' hb' => World.putObj_heap_other hb') ⟨b4, m4, fn4, tm4, D4, r1, World.putObj_heap_same hlt4, r3, r4⟩
                split at hc
                · simp only [Rs.ok.injEq] at hc
                  obtain ⟨rfl, rfl⟩ := hc
                  exact ⟨_, _, run_endRound none r2, _, rfl, γ4, S4.go.trans (put 0 none).2, (put 0 none).1, rfl⟩
                · simp only [Rs.ok.injEq] at hc
                  obtain ⟨rfl, rfl⟩ := hc
                  exact ⟨_, _, run_endRound (some .ret) r2, _, rfl, γ4, S4.go.trans (put 2 (some .ret)).2, (put 2 (some .ret)).1, rfl⟩
                · rename_i i
                  simp only [Rs.ok.injEq] at hc
                  obtain ⟨rfl, rfl⟩ := hc
                  exact ⟨_, _, run_endRound (some (.exit i)) r2, _, rfl, γ4, S4.go.trans (put 2 (some (.exit i))).2, (put 2 (some (.exit i))).1, rfl⟩
              · cases hc
            · cases hc
        · cases hc
      · cases hc
    · cases hc
  · cases hc
theorem step_ok (hX : XOk P X) (hm : P.follows .mixedOrders = true) (hrc : RcOk P rc) : RcOk P (stepF P X rc) := by
  intro γ h w fv args c h' fV vs hc V hf ha
  unfold stepF at hc
  split at hc
  · rename_i fid caps
    have hfv := hf.get rfl
    simp only [val] at hfv
    split at hfv
    · rename_i cs hcs
      obtain rfl := Option.some.inj hfv
      split at hc
      · rename_i fn hfn
        have hall : srs γ (args ++ caps) (vs ++ cs) := ha.app (srs.of_vals hcs)
        have plain : (fnK P X fid fn).f rc (args ++ caps) h = .ok c h' → CallW P (.func (.func fid) #[] cs.toArray) vs w (After γ h w c h') := by
          intro hc
          cases hb : fn.body with
          | some cd =>
            cases hname : (fn.name == "runtime.NumGoroutine") with
            | true =>
              unfold fnK at hc
              simp only [hb, hname, cond_true] at hc
              cases hc
            | false =>
              have := fn_ok hrc hm hfn hb hname V hall hc
              exact .inl ⟨fid, cs.toArray, rfl, ⟨fn, cd, hfn, hname, hb⟩, by simpa using this⟩
          | none =>
            unfold fnK at hc
            simp only [hb] at hc
            obtain ⟨v, h1, h2, s, h3⟩ := extF_ok hX hfn V hall hc
            exact .inr (.inl ⟨fid, cs.toArray, v, w, rfl, by simpa using h1, h2, s, by simpa using h3⟩)
        cases hix : Nat.beq fid X.ix with
        | false => rw [hix] at hc; exact plain hc
        | true =>
          rw [hix] at hc
          simp only [cond_true] at hc
          unfold ixO at hc
          split at hc
          · rename_i i hn
            simp only [Rs.ok.injEq] at hc
            obtain ⟨rfl, rfl⟩ := hc
            obtain rfl := Nat.eq_of_beq_eq_true hix
            rcases hX.2.2 with hno | ⟨hfn', hix'⟩
            · rw [hno] at hfn; cases hfn
            · have := ix_ok hix' V hall hn
              exact .inl ⟨X.ix, cs.toArray, rfl, hfn', by simpa using this⟩
          · exact plain hc
      · cases hc
    · cases hfv
  · rename_i id
    have hfv := hf.get rfl
    simp only [val] at hfv
    split at hfv
    · rename_i b hb
      obtain rfl := Option.some.inj hfv
      exact .inr (.inr ⟨b.1, rfl, yield_ok hrc hm (m := b.2) hb V ha hc⟩)
    · cases hfv
  · cases hc
theorem run_ok (hX : XOk P X) (hm : P.follows .mixedOrders = true) : ∀ n, RcOk P (run P X n)
  | 0 => by
    intro hc V hf ha
    have hc' : Rs.no = .ok _ _ := hc
    cases hc'
  | n + 1 => step_ok hX hm (run_ok hX hm n)
/-- a closed call that the runner ends with 'true' -/
theorem run_true (hX : XOk P X) (hm : P.follows .mixedOrders = true) {n fid : Nat} (hr : isTrue (run P X n (.f fid []) [] h) = true) (V : Inv γ h w) :
    Calls P fid #[] w (Rets fun v w' => v = .bool true ∧ ∃ γ' h', Go1 γ h w γ' h' w') := by
  unfold isTrue at hr
  split at hr
  · rename_i b h' hrun
    subst hr
    rcases run_ok hX hm n (fV := .func (.func fid) #[] #[]) (vs := []) hrun V (.inr (by simp [val, vals])) trivial with ⟨f, caps, hf, _, hcall⟩ | ⟨f, caps, v, w', hf, _, _, s, hs⟩ | ⟨l, hf, _⟩
    · simp only [Value.func.injEq, Fn.func.injEq, true_and] at hf
      obtain ⟨rfl, rfl⟩ := hf
      refine (show Calls P fid #[] w _ by simpa using hcall).mono fun e w' he => ?_
      obtain ⟨v, rfl, γ', G, _, hv⟩ := he
      exact ⟨v, rfl, by simpa [val] using hv.symm, γ', _, G⟩
    · simp only [Value.func.injEq, Fn.func.injEq, true_and] at hf
      obtain ⟨rfl, rfl⟩ := hf
      simp at hs
    · simp only [Value.func.injEq, reduceCtorEq, false_and] at hf
  · cases hr
end
end Go.Cr
namespace Go.Cr
open Go Go.Eng
/-- a call without arguments that says true; D: what it asks of memory -/
def RunC (P : Program) (f : FuncId) (D : View → Prop) : Prop := HasFn P f ∧ ∀ (w : World), D (hv w) → Calls P f #[] w (Rets fun v w' => v = .bool true ∧ RowKit.Below w.heap.size w w')
theorem c_run {P : Program} {f : FuncId} {D : View → Prop} {C : Cx} {w : World} {ρ : View} {hs : List Hl} (h : RunC P f D) (hD : ∀ {ρ' : View}, View.le ρ ρ' → D ρ') (H : Hp C w ρ hs) :
    Calls P f (([] : List Value).toArray) w (Rets fun v w' => v = .bool true ∧ Hp C w' ρ hs) := by
  refine (h.2 w (hD H.view)).mono fun e w' he => ?_
  obtain ⟨v, rfl, h1, hb⟩ := he
  have hlt : ∀ b ∈ fps hs, b < w.heap.size := H.lt
  have hvo : ∀ b, b < w.heap.size → hv w' b = hv w b := hb.block
  refine ⟨v, rfl, h1, hb.os.trans H.os, hb.tape.trans H.tape, hb.output.trans H.out, Nat.le_trans H.size hb.size, fun b h1 h2 => (hb.block b (Nat.lt_of_lt_of_le h1 H.size)).trans (H.old b h1 h2), H.fresh, fun b h1 => Nat.lt_of_lt_of_le (hlt b h1) hb.size, H.nodup, fun b o h1 => ?_, H.apart, fun h hh => h.loc (fun b h1 => (hvo b (hlt b (mem_fps.2 ⟨h, hh, h1⟩))).symm) (H.all h hh)⟩
  have h2 := H.view b o h1
  rw [hvo b (lt_of_hv h2)]
  exact h2
/-- the memory before a run: a table, and other globals, of which nothing is known -/
noncomputable def mapK (k : IntKind) (l : List Int) : List CV := List.rec (motive := fun _ => List CV) [] (fun x _ ih => .i k x :: ih) l
noncomputable def tabT (k : IntKind) (l : List Int) : Tr CV := wrC (mapK k l) 0 .nil
noncomputable def h0T (g : Nat) (k : IntKind) (l : List Int) : HS := ⟨tput .no .nil g (.r (lenF l) (tabT k l)), 1000⟩
def γ0 (n : Nat) : Gh := fun g => if g < 1000 then some (g, n) else none
theorem mapK_eq (k : IntKind) : ∀ (l : List Int), mapK k l = l.map (.i k)
  | [] => rfl
  | x :: l => congrArg (CV.i k x :: ·) (mapK_eq k l)
theorem invT {w : World} {g : Nat} {k : IntKind} {l : List Int} (hg : g < 1000) (hl : l ≠ []) (ht : GTab (hv w) g k l) : ∃ n, Inv (γ0 n) (h0T g k l) w := by
  have h0 : ∀ j, hget (h0T g k l) j = if j = g then .r (lenF l) (tabT k l) else .no := fun j => by
    have : hget (h0T g k l) j = if j = g then .r (lenF l) (tabT k l) else tget .no .nil j := tget_tput _ _ _ _ _
    rw [this, show tget CO.no .nil j = .no from gK_nil _]
  have hc : ∃ cur T fr, hv w g = some (.cells cur T fr) := by
    cases l with
    | nil => exact absurd rfl hl
    | cons x r =>
      have := ht 0 _ rfl
      unfold View.cell at this
      split at this
      · rename_i cur T fr h; exact ⟨cur, T, fr, h⟩
      · cases this
  obtain ⟨cur, T, fr, hcur⟩ := hc
  have hcell : ∀ (j : Nat) (x : Int), l[j]? = some x → cur[j]? = some (Value.int k x) := fun j x hx => by
    have := ht j (.int k x) (by rw [List.getElem?_map, hx]; rfl)
    unfold View.cell at this
    rw [hcur] at this
    simpa using this
  refine ⟨cur.size, fun j x h => ?_, fun g hg => ⟨cur.size, by simp [γ0, hg]⟩, fun i j b n n' _ _ h _ => ?_, fun j => ?_⟩
  · unfold γ0 at h
    show j < 1000
    split at h <;> simp_all
  · rw [h0] at h
    split at h <;> cases h
  · rw [h0]
    split
    · rename_i e; subst e
      refine ⟨j, cur, T, fr, by simp [γ0, hg], hcur, ?_, fun i hi => ?_⟩
      · rw [lenF_eq]
        cases hq : l.length with
        | zero => omega
        | succ m =>
          have hm : m < l.length := by omega
          have := hcell m _ (List.getElem?_eq_getElem hm)
          have := (Array.getElem?_eq_some_iff.1 this).1
          omega
      · rw [lenF_eq] at hi
        have hx := List.getElem?_eq_getElem hi
        refine ⟨.int k l[i], hcell i _ hx, ?_⟩
        unfold tabT
        rw [wrC_get, mapK_eq, if_pos (by simp; omega)]
        simp [hi, val]
    · trivial
variable {P : Program} {X : XI}
theorem below_of {γ γ' : Gh} {h h' : HS} {w w' : World} (G : Go1 γ h w γ' h' w') (hn : ∀ k, live (hget h k) = false) : RowKit.Below w.heap.size w w' :=
  ⟨G.os, G.tape, G.out, G.size, fun b hb => G.pres b hb (fun ⟨k, n, _, hk⟩ => by rw [hn k] at hk; cases hk)⟩
theorem runCT (hX : XOk P X) (hm : P.follows .mixedOrders = true) {n f g : Nat} {k : IntKind} {l : List Int} (hr : isTrue (run P X n (.f f []) [] (h0T g k l)) = true) (hf : HasFn P f) (hg : g < 1000) (hl : l ≠ []) : RunC P f (fun ρ => GTab ρ g k l) :=
  ⟨hf, fun w ht => by
    obtain ⟨m, V⟩ := invT hg hl ht
    refine (run_true hX hm hr V).mono fun e w' he => ?_
    obtain ⟨v, rfl, h1, γ', h', G⟩ := he
    refine ⟨v, rfl, h1, below_of G fun j => ?_⟩
    have : hget (h0T g k l) j = if j = g then .r (lenF l) (tabT k l) else tget .no .nil j := tget_tput _ _ _ _ _
    rw [this, show tget CO.no .nil j = .no from gK_nil _]
    split <;> rfl⟩
end Go.Cr
