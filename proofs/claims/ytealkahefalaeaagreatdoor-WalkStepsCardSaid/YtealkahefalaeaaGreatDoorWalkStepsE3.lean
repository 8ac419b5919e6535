/-
  The engine: how code is walked (what this claim needs of it).
-/
import Derived.Test.YtealkahefalaeaaGreatDoorWalkStepsE2
namespace Go.Cr
open Go Go.Eng
/-- a function without a body, of the model's own -/
def HasX (P : Program) (f : FuncId) (e : Array Value → Sem Value) : Prop := ∃ fn, P.funcs[f]? = some fn ∧ (fn.name == "runtime.NumGoroutine") = false ∧ fn.body.isNone = true ∧ Extern.findNext fn = none ∧ Extern.find fn = some e
/-- what slices.IndexFunc must do -/
def IxC (P : Program) (X : XI) : Prop := ∀ {w : World} {v : Value} {xs : List Int} {b o : Nat} {n : Int}, RdSl (hv w) (eI .i64) v xs → xs.length ≤ 1048576 → cellsAt (hv w) b o [.int .i64 n] →
  Calls P X.ix #[v, .func (.func X.pr) #[] #[.pointer (some ⟨b, o, none⟩)]] w (Rets fun u w' => u = .int .i64 (firB n xs 0) ∧ RowKit.Below w.heap.size w w')
def XOk (P : Program) (X : XI) : Prop := HasX P X.ib Extern.BytealgIndexByte.indexByte ∧ HasX P X.cs Extern.BytealgCount.count ∧ (P.funcs[X.ix]? = none ∨ HasFn P X.ix ∧ IxC P X)
theorem byte_eq {c : Nat} (hc : c < 256) (x : UInt8) : (x == (Int.ofNat c).toNat.toUInt8) = Nat.beq x.toNat c := by
  have h1 : ((Int.ofNat c).toNat.toUInt8).toNat = c := by simp; omega
  rw [Bool.eq_iff_iff]
  constructor
  · intro h
    have h2 : x = (Int.ofNat c).toNat.toUInt8 := by simpa using h
    rw [h2, h1]; exact Nat.beq_refl c
  · intro h
    have h2 := Nat.eq_of_beq_eq_true h
    have : x = (Int.ofNat c).toNat.toUInt8 := UInt8.toNat_inj.1 (by rw [h1, h2])
    simpa using this
theorem idxB_eq {c : Nat} (hc : c < 256) : ∀ (l : List UInt8) (i : Nat), idxB c l i = if Lib.indexByte l (Int.ofNat c).toNat.toUInt8 = -1 then -1 else Lib.indexByte l (Int.ofNat c).toNat.toUInt8 + i
  | [], i => rfl
  | x :: l, i => by
    have e : idxB c (x :: l) i = bif Nat.beq x.toNat c then .ofNat i else idxB c l (i + 1) := rfl
    have hge := Lib.indexByte_ge l (Int.ofNat c).toNat.toUInt8
    have e2 : Lib.indexByte (x :: l) (Int.ofNat c).toNat.toUInt8 = if x == (Int.ofNat c).toNat.toUInt8 then 0 else if Lib.indexByte l (Int.ofNat c).toNat.toUInt8 == -1 then -1 else Lib.indexByte l (Int.ofNat c).toNat.toUInt8 + 1 := rfl
    rw [e, idxB_eq hc l (i + 1), e2, byte_eq hc]
    generalize Lib.indexByte l (Int.ofNat c).toNat.toUInt8 = q at hge ⊢
    cases Nat.beq x.toNat c with
    | true => simp
    | false =>
      simp only [cond_false, Bool.false_eq_true, if_false]
      by_cases h1 : q = -1
      · subst h1; simp
      · rw [if_neg h1]
        have h2 : (q == -1) = false := by simpa using h1
        rw [h2]
        simp only [Bool.false_eq_true, if_false]
        rw [if_neg (by omega)]
        push_cast
        omega
theorem idxB0 {c : Nat} (hc : c < 256) (l : List UInt8) : idxB c l 0 = Lib.indexByte l (Int.ofNat c).toNat.toUInt8 := by
  rw [idxB_eq hc]
  split
  · rename_i h; exact h.symm
  · simp
theorem cntB_eq {c : Nat} (hc : c < 256) : ∀ (l : List UInt8), cntB c l = Lib.countByte l (Int.ofNat c).toNat.toUInt8
  | [] => rfl
  | x :: l => by
    have e : cntB c (x :: l) = bif Nat.beq x.toNat c then Nat.succ (cntB c l) else cntB c l := rfl
    have h := cntB_eq hc l
    unfold Lib.countByte at h ⊢
    rw [e, List.count_cons, byte_eq hc, h]
    cases Nat.beq x.toNat c <;> simp
section
variable {P : Program} {γ γ' : Gh} {h h' : HS} {w w' : World} {T : FT} {c : CV} {X : XI}
theorem extF_ok (hX : XOk P X) {fid : Nat} {fn : Func} (_hf : P.funcs[fid]? = some fn) {args : List CV} {vs : List Value} (V : Inv γ h w) (ha : srs γ args vs) (hc : extF X fid h args = .ok c h') :
    ∃ v, (callFunc fid vs.toArray).run P w = .ok (.value v) w ∧ After γ h w c h' v w ∧ ∃ s, vs.head? = some (.string s) := by
  unfold extF at hc
  split at hc
  · rename_i l k
    match vs, ha with
    | [v1, v2], ha =>
      obtain ⟨h1, h2, _⟩ := ha
      obtain rfl := h1.s
      obtain rfl := h2.i
      cases hk : Nat.blt k 256 with
      | false => rw [hk] at hc; cases hc
      | true =>
        rw [hk] at hc
        simp only [cond_true] at hc
        have hlt : k < 256 := by rwa [Nat.blt_eq] at hk
        cases hb : Nat.beq fid X.ib with
        | true =>
          rw [hb] at hc
          simp only [cond_true, Rs.ok.injEq] at hc
          obtain ⟨rfl, rfl⟩ := hc
          obtain rfl := Nat.eq_of_beq_eq_true hb
          obtain ⟨fn, g1, g2, g3, g4, g5⟩ := hX.1
          refine ⟨_, by rw [run_callFunc_extern g1 g2 g3 g4 g5, Lib.run_indexByteString]; rfl, ⟨γ, Go1.refl _ _ _, V, ?_⟩, _, rfl⟩
          rw [idxB0 hlt]; rfl
        | false =>
          rw [hb] at hc
          simp only [cond_false] at hc
          cases hb2 : Nat.beq fid X.cs with
          | true =>
            rw [hb2] at hc
            simp only [cond_true, Rs.ok.injEq] at hc
            obtain ⟨rfl, rfl⟩ := hc
            obtain rfl := Nat.eq_of_beq_eq_true hb2
            obtain ⟨fn, g1, g2, g3, g4, g5⟩ := hX.2.1
            refine ⟨_, by rw [run_callFunc_extern g1 g2 g3 g4 g5, Lib.run_countString]; rfl, ⟨γ, Go1.refl _ _ _, V, ?_⟩, _, rfl⟩
            rw [cntB_eq hlt]; rfl
          | false => rw [hb2] at hc; cases hc
    | [], ha => exact ha.elim
    | [_], ha => exact ha.2.elim
    | _ :: _ :: _ :: _, ha => exact ha.2.2.elim
  · cases hc
theorem rdL_ints {ρ : View} {k : IntKind} : ∀ (xs : List Int), rdL (eI k) ρ xs (xs.map (.int k))
  | [] => rfl
  | x :: xs => ⟨[.int k x], xs.map (.int k), rfl, rfl, rdL_ints xs⟩
/-- slices.IndexFunc at one blow -/
theorem ix_ok (hX : IxC P X) {args : List CV} {vs : List Value} {i : Int} (V : Inv γ h w) (ha : srs γ args vs) (hc : natI X h args = some i) : Calls P X.ix vs.toArray w (Rets (After γ h w (.i .i64 i) h)) := by
  unfold natI at hc
  split at hc
  · rename_i id o len es c kn g q z
    match vs, ha with
    | [v1, v2], ha =>
      obtain ⟨h1, h2, _⟩ := ha
      cases hq : (Nat.beq g X.pr && Nat.beq es 1 && Nat.ble len 1048576 && (bif kn then Nat.ble len c else true)) with
      | false => rw [hq] at hc; cases hc
      | true =>
        rw [hq] at hc
        simp only [cond_true] at hc
        simp only [Bool.and_eq_true] at hq
        obtain ⟨⟨⟨q1, q2⟩, q3⟩, q4⟩ := hq
        obtain rfl := Nat.eq_of_beq_eq_true q1
        obtain rfl := Nat.eq_of_beq_eq_true q2
        have hlen := Nat.le_of_ble_eq_true q3
        obtain ⟨b, hb, rfl, hkn⟩ := h1.sl
        have hv2 := h2.get rfl
        unfold natJ at hc
        split at hc
        · rename_i n hm
          split at hc
          · rename_i l hl
            split at hc
            · rename_i xs hxs
              obtain rfl := Option.some.inj hc
              obtain ⟨b1, cs, r1, r2, r3, r4⟩ := rdO_ok V hl
              obtain ⟨b2, cs2, s1, s2, s3, s4⟩ := rdO_ok V hm
              rw [hb] at r1
              obtain rfl := Option.some.inj r1
              have e1 := (intsC_val (γ := γ) hxs).symm.trans r2
              obtain rfl := Option.some.inj e1
              simp only [vals, val] at s2
              obtain rfl := Option.some.inj s2
              simp only [val, vals, s1, Option.some.injEq] at hv2
              subst hv2
              have hxl : xs.length = len := by simpa using r3
              have hrd : RdSl (hv w) (eI .i64) (.slice (some ⟨b.1, o, none⟩) len (bif kn then c else b.2 / 1)) xs := by
                refine .inr ⟨b.1, o, _, xs.map (.int .i64), by rw [hxl], ?_, rdL_ints xs, r4⟩
                cases kn with
                | true => simp only [cond_true] at q4 ⊢; rw [hxl]; exact Nat.le_of_ble_eq_true q4
                | false => simp only [cond_false]; rw [hxl]; exact hkn rfl
              refine (hX hrd (by omega) s4).mono fun e w' he => ?_
              obtain ⟨u, rfl, rfl, hbel⟩ := he
              refine ⟨_, rfl, γ, ⟨hbel.os, hbel.tape, hbel.output, hbel.size, Gh.le_refl _, Nat.le_refl _, fun b hb _ => hbel.block b hb, fun _ h => .inl h, fun _ h => .inl h, fun _ _ h => .inl h⟩, ⟨V.dom, V.glob, V.inj, fun k => ?_⟩, rfl⟩
              by_cases hsm : some? (hget h k) = true
              · exact (V.rel k).up (Gh.le_refl _) (fun b' m hb' => hbel.block b' (V.lt ⟨k, m, hb', hsm⟩))
              · have : hget h k = .no := by cases hh : hget h k <;> simp_all [some?]
                rw [this]; trivial
            · cases hc
          · cases hc
        · cases hc
    | [], ha => exact ha.elim
    | [_], ha => exact ha.2.elim
    | _ :: _ :: _ :: _, ha => exact ha.2.2.elim
  · cases hc
def RT (P : Program) (w : World) (tm : Array Value) : List ResultVar → List Value → Prop
  | [], [] => True
  | .tmp t :: r, v :: vs => tm.getD t undef = v ∧ RT P w tm r vs
  | .cell a T :: r, v :: vs => (∃ ad, tm.getD a undef = .pointer (some ad) ∧ (loadVar T ad).run P w = .ok v w) ∧ RT P w tm r vs
  | _, _ => False
theorem results_rt {fn : Func} {tm : Array Value} {vs : List Value} (hv : RT P w tm fn.results.toList vs) : (results fn tm).run P w = .ok (packR vs) w := by
  have key : ∀ (f : ResultVar → Sem Value), (∀ t, f (.tmp t) = pure (tm.getD t undef)) → (∀ ad t, f (.cell ad t) = do loadVar t (← asAddr (tm.getD ad undef))) → ∀ (rs : List ResultVar) (vs : List Value), RT P w tm rs vs →
      ∀ acc : List Value, (rs.foldlM (m := Sem) (fun (acc : Array Value) r => do acc.push <$> f r) acc.toArray).run P w = .ok (acc ++ vs).toArray w := by
    intro f hf1 hf2 rs
    induction rs with
    | nil => intro vs h acc; cases vs with | nil => simp | cons v vs => cases h
    | cons r rs ih =>
      intro vs h acc
      cases vs with
      | nil => cases r <;> cases h
      | cons v vs =>
        cases r with
        | tmp t =>
          have h3 := ih vs h.2 (acc ++ [v])
          have h4 : tm.getD t undef = v := h.1
          simp only [List.foldlM_cons, hf1, h4]
          simp at h3 ⊢
          exact h3
        | cell ad t =>
          obtain ⟨⟨p, hp, hl⟩, h2⟩ := h
          have h3 := ih vs h2 (acc ++ [v])
          simp only [List.foldlM_cons, hf2, hp]
          simp [asAddr, hl] at h3 ⊢
          exact h3
  have hm : ∀ (f : ResultVar → Sem Value), (∀ t, f (.tmp t) = pure (tm.getD t undef)) → (∀ ad t, f (.cell ad t) = do loadVar t (← asAddr (tm.getD ad undef))) → (fn.results.mapM f).run P w = .ok vs.toArray w := by
    intro f h1 h2
    rw [Array.mapM_eq_foldlM, ← Array.foldlM_toList]
    simpa using key f h1 h2 fn.results.toList vs hv []
  unfold results
  rw [Sem.run_bind, hm _ (fun _ => rfl) (fun _ _ => rfl)]
  simp only [Result.andThen_ok]
  clear key hm hv
  match vs with
  | [] => simp [packR]
  | [v] => simp [packR]
  | v :: u :: r => simp [packR]
theorem anyU_cons {c : CV} {r : List CV} (hh : anyU (c :: r) = false) : isU c = false ∧ anyU r = false := by
  unfold anyU at hh
  cases hc : isU c with
  | true => rw [hc] at hh; cases hh
  | false => rw [hc] at hh; exact ⟨rfl, hh⟩
theorem resK_ok {tm : Array Value} (V : Inv γ h w) (hs : ∀ k, SR γ (fget T k) (tm.getD k undef)) : ∀ (rs : List ResultVar), anyU ((resK P rs).f T h) = false → ∃ vs, vals γ ((resK P rs).f T h) = some vs ∧ RT P w tm rs vs
  | [], _ => ⟨[], rfl, trivial⟩
  | .tmp t :: rs, hu => by
    have e : (resK P (.tmp t :: rs)).f T h = fget T t :: (resK P rs).f T h := rfl
    rw [e] at hu ⊢
    obtain ⟨h1, h2⟩ := anyU_cons hu
    obtain ⟨vs, h3, h4⟩ := resK_ok V hs rs h2
    exact ⟨tm.getD t undef :: vs, by simp [vals, (hs t).get h1, h3], rfl, h4⟩
  | .cell ad t :: rs, hu => by
    cases hI : tyI P t with
    | none =>
      have e : (resK P (.cell ad t :: rs)).f T h = [.u] := by unfold resK; simp only [hI]
      rw [e] at hu
      cases hu
    | some I =>
      have e : (resK P (.cell ad t :: rs)).f T h = ldP I h (fget T ad) :: (resK P rs).f T h := by
        conv => lhs; unfold resK
        simp only [hI]
        rfl
      rw [e] at hu ⊢
      obtain ⟨h1, h2⟩ := anyU_cons hu
      obtain ⟨vs, h3, h4⟩ := resK_ok V hs rs h2
      obtain ⟨v, h5, h6⟩ := ldP_ok (vx := tm.getD ad undef) V hI rfl h1 (hs ad)
      refine ⟨v :: vs, by simp [vals, h6, h3], ?_, h4⟩
      have hp : ∃ id o, fget T ad = .p id o := by
        cases hq : fget T ad with
        | p id o => exact ⟨id, o, rfl⟩
        | _ => rw [hq] at h1; cases h1
      obtain ⟨id, o, hp⟩ := hp
      have hsr := hs ad
      rw [hp] at hsr
      obtain ⟨b, _, hb⟩ := hsr.p
      exact ⟨_, hb, by rw [hb] at h5; simpa [Instr.loadAt, Instr.sureAddr] using h5⟩
theorem pack_ok {l : List CV} {vs : List Value} (hv : vals γ l = some vs) : val γ (packC l) = some (packR vs) := by
  match l, vs, vals_len hv with
  | [], [], _ => simp [packC, packR, val, vals]
  | [c], [v], _ =>
    obtain ⟨v', us, h1, h2, h3⟩ := vals_cons hv
    simp at h3
    simp [packC, packR, h1, h3.1]
  | c :: d :: r, v :: u :: s, _ => simp [packC, packR, val, hv]
  | [], _ :: _, h => simp at h
  | [_], [], h => simp at h
  | [_], _ :: _ :: _, h => simp at h
  | _ :: _ :: _, [], h => simp at h
  | _ :: _ :: _, [_], h => simp at h
end
end Go.Cr
namespace Go.Cr
open Go Go.Eng
section
variable {P : Program} {B : Base} {γ γ' : Gh} {h h' : HS} {w w' w1 : World} {T T' : FT} {c : CV} {X : XI} {rc : RC} {n : Nat} {ds : List Nat} {a : Act}
theorem Go1.off (G : Go1 γ h w γ' h' w1) {D : Nat} (hD : w.heap.size ≤ D) (o : Obj) : Go1 γ h w γ' h' (w1.putObj D o) :=
  ⟨G.os, G.tape, G.out, by rw [World.putObj_size]; exact G.size, G.le, G.nx, fun b hb hn => (World.putObj_heap_other (by omega)).trans (G.pres b hb hn), G.own, G.used, G.gnew⟩
theorem leaves_ok {fn : Func} {tm : Array Value} (hs : ∀ k, SR γ' (fget T k) (tm.getD k undef)) (hu : anyU ((resK P fn.results.toList).f T h') = false) :
    ∀ (ds : List Nat) {w1 : World}, Go1 γ h w γ' h' w1 → Inv γ' h' w1 → (∀ D ∈ ds, hv w1 D = some (.deferred (some [])) ∧ ¬ Used γ' h' D ∧ w.heap.size ≤ D) → ds.Nodup →
      LeavesInM Fence.wide 0 P fn tm (Rets (After γ h w (packC ((resK P fn.results.toList).f T h')) h')) (marks ds) .returning w1
  | [], w1, G, V, _, _ => by
    obtain ⟨vs, h1, h2⟩ := resK_ok V hs fn.results.toList hu
    exact ⟨_, results_rt h2, _, rfl, γ', G, V, pack_ok h1⟩
  | D :: ds, w1, G, V, hd, hn => by
    obtain ⟨h1, h2, h3⟩ := hd D (by simp)
    have hnd := List.nodup_cons.1 hn
    refine ⟨by simp, .inl ⟨_, _, rfl, run_takeDeferred h1, ?_⟩⟩
    refine leaves_ok hs hu ds (G.off h3 _) (V.keep fun b hb => World.putObj_heap_other (fun e => h2 (e ▸ hb))) (fun E hE => ?_) hnd.2
    obtain ⟨g1, g2, g3⟩ := hd E (by simp [hE])
    exact ⟨(World.putObj_heap_other (fun e => hnd.1 (by rw [← e]; exact hE))).trans g1, g2, g3⟩
theorem args_getD {vs : List Value} {m k : Nat} : (vs.toArray ++ Array.replicate m undef).getD k undef = vs.getD k undef := by
  by_cases hk : k < vs.length
  · simp [Array.getElem?_append, hk]
  · by_cases h2 : k - vs.length < m
    · simp [Array.getElem?_append, hk, h2]
    · simp [Array.getElem?_append, hk, h2]
theorem fn_ok (hrc : RcOk P rc) (hm : P.follows .mixedOrders = true) {fid : Nat} {fn : Func} {cd : Code} (hf : P.funcs[fid]? = some fn) (hb : fn.body = some cd) (hname : (fn.name == "runtime.NumGoroutine") = false) (V : Inv γ h w)
    {args : List CV} {vs : List Value} (ha : srs γ args vs) (hc : (fnK P X fid fn).f rc args h = .ok c h') : Calls P fid vs.toArray w (Rets (After γ h w c h')) := by
  unfold fnK at hc
  simp only [hb, hname, cond_false] at hc
  cases hq : Nat.ble (lenF args) fn.ntmps with
  | false => rw [hq] at hc; cases hc
  | true =>
    rw [hq] at hc
    simp only [cond_true] at hc
    have hle := Nat.le_of_ble_eq_true hq
    rw [lenF_eq] at hle
    have hlen := ha.len
    have S : St ⟨γ, h, w⟩ γ h w (wrC args 0 .nil) fn.ntmps [] { tmps := vs.toArray ++ Array.replicate (fn.ntmps - vs.toArray.size) undef, defers := [] } :=
      ⟨Go1.refl _ _ _, V, by simp; omega, rfl, fun k => by
        rw [args_getD, wrC_get]
        split
        · rw [Nat.sub_zero]; exact ha.get
        · exact .inl (gK_nil _), fun D hD => (nomatch hD), List.nodup_nil⟩
    have fin : ∀ {T1 : FT} {h1 : HS} {γ1 : Gh} {w1 : World} {ds : List Nat} {a1 : Act}, finC ((resK P fn.results.toList).f T1 h1) h1 = .ok c h' → St ⟨γ, h, w⟩ γ1 h1 w1 T1 fn.ntmps ds a1 →
        LeavesInM Fence.wide 0 P fn a1.tmps (Rets (After γ h w c h')) a1.defers .returning w1 := by
      intro T1 h1 γ1 w1 ds a1 hfin S1
      unfold finC at hfin
      cases hu : anyU ((resK P fn.results.toList).f T1 h1) with
      | true => rw [hu] at hfin; cases hfin
      | false =>
        rw [hu] at hfin
        simp only [cond_false, Rs.ok.injEq] at hfin
        obtain ⟨rfl, rfl⟩ := hfin
        rw [S1.defers]
        exact leaves_ok S1.slots hu ds S1.go S1.inv S1.dss S1.nod
    refine (callsIn_wide (n := 0)).1 (callsIn_of_wp_marks hf hb trivial ?_)
    unfold retO at hc
    split at hc
    · rename_i T1 h1 hx
      exact code_ok hrc hm cd true none (fun _ => rfl) S hx (Q := bodyPostM Fence.wide 0 P fn (Rets (After γ h w c h'))) fun γ1 w1 ds a1 S1 => fin hc S1
    · rename_i T1 h1 hx
      exact code_ok hrc hm cd true none (fun _ => rfl) S hx (Q := bodyPostM Fence.wide 0 P fn (Rets (After γ h w c h'))) fun γ1 w1 ds a1 S1 => fin hc S1
    · cases hc
theorem putPs_ok {n : Nat} : ∀ {ps : List Nat} {args : List CV} {vs : List Value} {T T1 : FT} {tm : Array Value}, srs γ args vs → tm.size = n → (∀ k, SR γ (fget T k) (tm.getD k undef)) → putPs n ps args T = some T1 →
    vs.length = ps.length ∧ ((ps.zip vs).foldl (fun (t : Array Value) (p, v) => t.setIfInBounds p v) tm).size = n ∧ ∀ k, SR γ (fget T1 k) (((ps.zip vs).foldl (fun (t : Array Value) (p, v) => t.setIfInBounds p v) tm).getD k undef)
  | [], [], [], T, T1, tm, _, hn, hs, hc => by
    have hc' : some T = some T1 := hc
    obtain rfl := Option.some.inj hc'
    exact ⟨rfl, hn, hs⟩
  | [], _ :: _, _, _, _, _, _, _, _, hc => by
    have hc' : (none : Option FT) = some _ := hc
    cases hc'
  | [], [], _ :: _, _, _, _, ha, _, _, _ => ha.elim
  | _ :: _, [], _, _, _, _, _, _, _, hc => by
    have hc' : (none : Option FT) = some _ := hc
    cases hc'
  | _ :: _, _ :: _, [], _, _, _, ha, _, _, _ => ha.elim
  | p :: ps, a :: args, v :: vs, T, T1, tm, ha, hn, hs, hc => by
    have hc' : (bif Nat.blt p n then putPs n ps args (fput T p a) else none) = some T1 := hc
    cases hb : Nat.blt p n with
    | false => rw [hb] at hc'; cases hc'
    | true =>
      rw [hb] at hc'
      simp only [cond_true] at hc'
      have hlt : p < n := by rwa [Nat.blt_eq] at hb
      have := putPs_ok (tm := tm.setIfInBounds p v) ha.2 (by simpa using hn) (fun k => by
        have e : fget (fput T p a) k = if k = p then a else fget T k := tget_tput _ _ _ _ _
        rw [e]
        split
        · rename_i e; subst e
          have : (tm.setIfInBounds k v).getD k undef = v := by simp [hn, hlt]
          rw [this]; exact ha.1
        · rename_i e
          have : (tm.setIfInBounds p v).getD k undef = tm.getD k undef := by
            simp only [Array.getD_eq_getD_getElem?]
            rw [Array.getElem?_setIfInBounds_ne (Ne.symm e)]
          rw [this]; exact hs k) hc'
      simpa using this
theorem St.go' (S : St B γ h w T n ds a) (hA : Go1 γ h w γ' h' w') (V : Inv γ' h' w') : St B γ' h' w' T n ds a := S.step none hA V (v := undef) (.inl rfl)
theorem yield_ok (hrc : RcOk P rc) (hm : P.follows .mixedOrders = true) {id b m : Nat} (hk : γ id = some (b, m)) (V : Inv γ h w) {args : List CV} {vs : List Value} (ha : srs γ args vs) (hc : yldO P rc id args h (hget h id) = .ok c h') :
    YieldAt Fence.wide 0 P b vs.toArray w (Rets (After γ h w c h')) := by
  have hrel := V.rel id
  unfold yldO at hc
  split at hc
  · rename_i st pd n T ps assign body hob
    rw [hob] at hrel
    obtain ⟨b', n0, fn, tmps, D, k1, k2, k3, k4⟩ := hrel
    rw [hk] at k1
    obtain ⟨rfl, rfl⟩ := Prod.mk.inj (Option.some.inj k1)
    split at hc
    · rename_i T1 hT1
      obtain ⟨p1, p2, p3⟩ := putPs_ok ha k3 k4 hT1
      refine ⟨fn, _, assign, body, run_yield k2 (by simp [p1]), roundIn_of_wpIn trivial ?_⟩
      have e : (Array.zip ps.toArray vs.toArray).foldl (fun (t : Array Value) (p, v) => t.setIfInBounds p v) tmps = (ps.zip vs).foldl (fun (t : Array Value) (p, v) => t.setIfInBounds p v) tmps := by simp
      have S : St ⟨γ, h, w⟩ γ h w T1 n [] { tmps := (Array.zip ps.toArray vs.toArray).foldl (fun (t : Array Value) (p, v) => t.setIfInBounds p v) tmps, defers := [] } := by
        rw [e]
        exact ⟨Go1.refl _ _ _, V, p2, rfl, p3, fun D hD => (nomatch hD), List.nodup_nil⟩
      unfold assO at hc
      split at hc
      · rename_i T2 h2 hx
        refine code_ok hrc hm assign false (some b) (fun hh => by cases hh) S hx fun γ2 w2 ds2 a2 S2 => ?_
        unfold begO at hc
        split at hc
        · rename_i st2 pd2 n2 T2' ps2 as2 bd2 hob2
          cases hst : Nat.beq st2 0 with
          | false => rw [hst] at hc; cases hc
          | true =>
            rw [hst] at hc
            simp only [cond_true] at hc
            obtain rfl := Nat.eq_of_beq_eq_true hst
            have hrel2 := S2.inv.rel id
            rw [hob2] at hrel2
            obtain ⟨b2, m2, fn2, tm2, D2, q1, q2, q3, q4⟩ := hrel2
            have hk2 := S2.go.le _ _ hk
            rw [q1] at hk2
            obtain ⟨rfl, rfl⟩ := Prod.mk.inj (Option.some.inj hk2)
            have hlt2 := lt_of_hv q2
            obtain ⟨V3, G3⟩ := S2.inv.put (w1 := w2.putObj b2 (.loop ⟨.busy, pd2, fn2, tm2, ps2.toArray, as2, bd2, D2⟩)) (o := .l 1 pd2 n2 T2' ps2 as2 bd2) q1 (by rw [hob2]; rfl) rfl rfl rfl (by simp) (fun b' hb' => World.putObj_heap_other hb')
              ⟨b2, m2, fn2, tm2, D2, q1, World.putObj_heap_same hlt2, q3, q4⟩
            have S3 := S2.go' G3 V3
            refine ⟨_, run_beginRound q2 rfl, ?_⟩
            unfold bodO at hc
            split at hc
            · rename_i e3 T4 h4 hy
              refine code_ok hrc hm body false (some b2) (fun hh => by cases hh) S3 hy fun γ4 w4 ds4 a4 S4 => ?_
              unfold endO at hc
              split at hc
              · rename_i st4 pd4 n4 T4' ps4 as4 bd4 hob4
                have hrel4 := S4.inv.rel id
                rw [hob4] at hrel4
                obtain ⟨b4, m4, fn4, tm4, D4, r1, r2, r3, r4⟩ := hrel4
                have hk4 := S4.go.le _ _ hk
                rw [r1] at hk4
                obtain ⟨rfl, rfl⟩ := Prod.mk.inj (Option.some.inj hk4)
                have hlt4 := lt_of_hv r2
                have put : ∀ (s : Nat) (p : Option Code), Inv γ4 (hput h4 id (.l s p n4 T4' ps4 as4 bd4)) (w4.putObj b4 (.loop ⟨lst s, p, fn4, tm4, ps4.toArray, as4, bd4, D4⟩)) ∧ Go1 γ4 h4 w4 γ4 (hput h4 id (.l s p n4 T4' ps4 as4 bd4)) (w4.putObj b4 (.loop ⟨lst s, p, fn4, tm4, ps4.toArray, as4, bd4, D4⟩)) := fun s p =>
                  S4.inv.put (w1 := w4.putObj b4 (.loop ⟨lst s, p, fn4, tm4, ps4.toArray, as4, bd4, D4⟩)) (o := .l s p n4 T4' ps4 as4 bd4) r1 (by rw [hob4]; rfl) rfl rfl rfl (by simp) (fun b' hb' => World.putObj_heap_other hb') ⟨b4, m4, fn4, tm4, D4, r1, World.putObj_heap_same hlt4, r3, r4⟩
                split at hc
                · simp only [Rs.ok.injEq] at hc
                  obtain ⟨rfl, rfl⟩ := hc
                  exact ⟨_, _, run_endRound none r2, _, rfl, γ4, S4.go.trans (put 0 none).2, (put 0 none).1, rfl⟩
                · simp only [Rs.ok.injEq] at hc
                  obtain ⟨rfl, rfl⟩ := hc
                  exact ⟨_, _, run_endRound (some .ret) r2, _, rfl, γ4, S4.go.trans (put 2 (some .ret)).2, (put 2 (some .ret)).1, rfl⟩
                · rename_i i
                  simp only [Rs.ok.injEq] at hc
                  obtain ⟨rfl, rfl⟩ := hc
                  exact ⟨_, _, run_endRound (some (.exit i)) r2, _, rfl, γ4, S4.go.trans (put 2 (some (.exit i))).2, (put 2 (some (.exit i))).1, rfl⟩
              · cases hc
            · cases hc
        · cases hc
      · cases hc
    · cases hc
  · cases hc
theorem step_ok (hX : XOk P X) (hm : P.follows .mixedOrders = true) (hrc : RcOk P rc) : RcOk P (stepF P X rc) := by
  intro γ h w fv args c h' fV vs hc V hf ha
  unfold stepF at hc
  split at hc
  · rename_i fid caps
    have hfv := hf.get rfl
    simp only [val] at hfv
    split at hfv
    · rename_i cs hcs
      obtain rfl := Option.some.inj hfv
      split at hc
      · rename_i fn hfn
        have hall : srs γ (args ++ caps) (vs ++ cs) := ha.app (srs.of_vals hcs)
        have plain : (fnK P X fid fn).f rc (args ++ caps) h = .ok c h' → CallW P (.func (.func fid) #[] cs.toArray) vs w (After γ h w c h') := by
          intro hc
          cases hb : fn.body with
          | some cd =>
            cases hname : (fn.name == "runtime.NumGoroutine") with
            | true =>
              unfold fnK at hc
              simp only [hb, hname, cond_true] at hc
              cases hc
            | false =>
              have := fn_ok hrc hm hfn hb hname V hall hc
              exact .inl ⟨fid, cs.toArray, rfl, ⟨fn, cd, hfn, hname, hb⟩, by simpa using this⟩
          | none =>
            unfold fnK at hc
            simp only [hb] at hc
            obtain ⟨v, h1, h2, s, h3⟩ := extF_ok hX hfn V hall hc
            exact .inr (.inl ⟨fid, cs.toArray, v, w, rfl, by simpa using h1, h2, s, by simpa using h3⟩)
        cases hix : Nat.beq fid X.ix with
        | false => rw [hix] at hc; exact plain hc
        | true =>
          rw [hix] at hc
          simp only [cond_true] at hc
          unfold ixO at hc
          split at hc
          · rename_i i hn
            simp only [Rs.ok.injEq] at hc
            obtain ⟨rfl, rfl⟩ := hc
            obtain rfl := Nat.eq_of_beq_eq_true hix
            rcases hX.2.2 with hno | ⟨hfn', hix'⟩
            · rw [hno] at hfn; cases hfn
            · have := ix_ok hix' V hall hn
              exact .inl ⟨X.ix, cs.toArray, rfl, hfn', by simpa using this⟩
          · exact plain hc
      · cases hc
    · cases hfv
  · rename_i id
    have hfv := hf.get rfl
    simp only [val] at hfv
    split at hfv
    · rename_i b hb
      obtain rfl := Option.some.inj hfv
      exact .inr (.inr ⟨b.1, rfl, yield_ok hrc hm (m := b.2) hb V ha hc⟩)
    · cases hfv
  · cases hc
theorem run_ok (hX : XOk P X) (hm : P.follows .mixedOrders = true) : ∀ n, RcOk P (run P X n)
  | 0 => by
    intro hc V hf ha
    have hc' : Rs.no = .ok _ _ := hc
    cases hc'
  | n + 1 => step_ok hX hm (run_ok hX hm n)
/-- a closed call that the runner ends with 'true' -/
theorem run_true (hX : XOk P X) (hm : P.follows .mixedOrders = true) {n fid : Nat} (hr : isTrue (run P X n (.f fid []) [] h) = true) (V : Inv γ h w) :
    Calls P fid #[] w (Rets fun v w' => v = .bool true ∧ ∃ γ' h', Go1 γ h w γ' h' w') := by
  unfold isTrue at hr
  split at hr
  · rename_i b h' hrun
    subst hr
    rcases run_ok hX hm n (fV := .func (.func fid) #[] #[]) (vs := []) hrun V (.inr (by simp [val, vals])) trivial with ⟨f, caps, hf, _, hcall⟩ | ⟨f, caps, v, w', hf, _, _, s, hs⟩ | ⟨l, hf, _⟩
    · simp only [Value.func.injEq, Fn.func.injEq, true_and] at hf
      obtain ⟨rfl, rfl⟩ := hf
      refine (show Calls P fid #[] w _ by simpa using hcall).mono fun e w' he => ?_
      obtain ⟨v, rfl, γ', G, _, hv⟩ := he
      exact ⟨v, rfl, by simpa [val] using hv.symm, γ', _, G⟩
    · simp only [Value.func.injEq, Fn.func.injEq, true_and] at hf
      obtain ⟨rfl, rfl⟩ := hf
      simp at hs
    · simp only [Value.func.injEq, reduceCtorEq, false_and] at hf
  · cases hr
end
end Go.Cr
namespace Go.Cr
open Go Go.Eng
/-- a call without arguments that says true; D: what it asks of memory -/
def RunC (P : Program) (f : FuncId) (D : View → Prop) : Prop := HasFn P f ∧ ∀ (w : World), D (hv w) → Calls P f #[] w (Rets fun v w' => v = .bool true ∧ RowKit.Below w.heap.size w w')
theorem c_run {P : Program} {f : FuncId} {D : View → Prop} {C : Cx} {w : World} {ρ : View} {hs : List Hl} (h : RunC P f D) (hD : ∀ {ρ' : View}, View.le ρ ρ' → D ρ') (H : Hp C w ρ hs) :
    Calls P f (([] : List Value).toArray) w (Rets fun v w' => v = .bool true ∧ Hp C w' ρ hs) := by
  refine (h.2 w (hD H.view)).mono fun e w' he => ?_
  obtain ⟨v, rfl, h1, hb⟩ := he
  have hlt : ∀ b ∈ fps hs, b < w.heap.size := H.lt
  have hvo : ∀ b, b < w.heap.size → hv w' b = hv w b := hb.block
  refine ⟨v, rfl, h1, hb.os.trans H.os, hb.tape.trans H.tape, hb.output.trans H.out, Nat.le_trans H.size hb.size, fun b h1 h2 => (hb.block b (Nat.lt_of_lt_of_le h1 H.size)).trans (H.old b h1 h2), H.fresh, fun b h1 => Nat.lt_of_lt_of_le (hlt b h1) hb.size, H.nodup, fun b o h1 => ?_, H.apart, fun h hh => h.loc (fun b h1 => (hvo b (hlt b (mem_fps.2 ⟨h, hh, h1⟩))).symm) (H.all h hh)⟩
  have h2 := H.view b o h1
  rw [hvo b (lt_of_hv h2)]
  exact h2
/-- the memory before a run: a table, and other globals, of which nothing is known -/
noncomputable def mapK (k : IntKind) (l : List Int) : List CV := List.rec (motive := fun _ => List CV) [] (fun x _ ih => .i k x :: ih) l
noncomputable def tabT (k : IntKind) (l : List Int) : Tr CV := wrC (mapK k l) 0 .nil
noncomputable def h0T (g : Nat) (k : IntKind) (l : List Int) : HS := ⟨tput .no .nil g (.r (lenF l) (tabT k l)), 1000⟩
def γ0 (n : Nat) : Gh := fun g => if g < 1000 then some (g, n) else none
theorem mapK_eq (k : IntKind) : ∀ (l : List Int), mapK k l = l.map (.i k)
  | [] => rfl
  | x :: l => congrArg (CV.i k x :: ·) (mapK_eq k l)
theorem invT {w : World} {g : Nat} {k : IntKind} {l : List Int} (hg : g < 1000) (hl : l ≠ []) (ht : GTab (hv w) g k l) : ∃ n, Inv (γ0 n) (h0T g k l) w := by
  have h0 : ∀ j, hget (h0T g k l) j = if j = g then .r (lenF l) (tabT k l) else .no := fun j => by
    have : hget (h0T g k l) j = if j = g then .r (lenF l) (tabT k l) else tget .no .nil j := tget_tput _ _ _ _ _
    rw [this, show tget CO.no .nil j = .no from gK_nil _]
  have hc : ∃ cur T fr, hv w g = some (.cells cur T fr) := by
    cases l with
    | nil => exact absurd rfl hl
    | cons x r =>
      have := ht 0 _ rfl
      unfold View.cell at this
      split at this
      · rename_i cur T fr h; exact ⟨cur, T, fr, h⟩
      · cases this
  obtain ⟨cur, T, fr, hcur⟩ := hc
  have hcell : ∀ (j : Nat) (x : Int), l[j]? = some x → cur[j]? = some (Value.int k x) := fun j x hx => by
    have := ht j (.int k x) (by rw [List.getElem?_map, hx]; rfl)
    unfold View.cell at this
    rw [hcur] at this
    simpa using this
  refine ⟨cur.size, fun j x h => ?_, fun g hg => ⟨cur.size, by simp [γ0, hg]⟩, fun i j b n n' _ _ h _ => ?_, fun j => ?_⟩
  · unfold γ0 at h
    show j < 1000
    split at h <;> simp_all
  · rw [h0] at h
    split at h <;> cases h
  · rw [h0]
    split
    · rename_i e; subst e
      refine ⟨j, cur, T, fr, by simp [γ0, hg], hcur, ?_, fun i hi => ?_⟩
      · rw [lenF_eq]
        cases hq : l.length with
        | zero => omega
        | succ m =>
          have hm : m < l.length := by omega
          have := hcell m _ (List.getElem?_eq_getElem hm)
          have := (Array.getElem?_eq_some_iff.1 this).1
          omega
      · rw [lenF_eq] at hi
        have hx := List.getElem?_eq_getElem hi
        refine ⟨.int k l[i], hcell i _ hx, ?_⟩
        unfold tabT
        rw [wrC_get, mapK_eq, if_pos (by simp; omega)]
        simp [hi, val]
    · trivial
variable {P : Program} {X : XI}
theorem below_of {γ γ' : Gh} {h h' : HS} {w w' : World} (G : Go1 γ h w γ' h' w') (hn : ∀ k, live (hget h k) = false) : RowKit.Below w.heap.size w w' :=
  ⟨G.os, G.tape, G.out, G.size, fun b hb => G.pres b hb (fun ⟨k, n, _, hk⟩ => by rw [hn k] at hk; cases hk)⟩
theorem runCT (hX : XOk P X) (hm : P.follows .mixedOrders = true) {n f g : Nat} {k : IntKind} {l : List Int} (hr : isTrue (run P X n (.f f []) [] (h0T g k l)) = true) (hf : HasFn P f) (hg : g < 1000) (hl : l ≠ []) : RunC P f (fun ρ => GTab ρ g k l) :=
  ⟨hf, fun w ht => by
    obtain ⟨m, V⟩ := invT hg hl ht
    refine (run_true hX hm hr V).mono fun e w' he => ?_
    obtain ⟨v, rfl, h1, γ', h', G⟩ := he
    refine ⟨v, rfl, h1, below_of G fun j => ?_⟩
    have : hget (h0T g k l) j = if j = g then .r (lenF l) (tabT k l) else tget .no .nil j := tget_tput _ _ _ _ _
    rw [this, show tget CO.no .nil j = .no from gK_nil _]
    split <;> rfl⟩
end Go.Cr
