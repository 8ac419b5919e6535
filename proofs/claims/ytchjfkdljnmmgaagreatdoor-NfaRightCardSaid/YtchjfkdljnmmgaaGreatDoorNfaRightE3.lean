/-
  The engine: how code is walked (what this claim needs of it).
-/
import Derived.Test.YtchjfkdljnmmgaaGreatDoorNfaRightE2
namespace Go.Cr
open Go Go.Eng
section
variable {P : Program} {n : Nat} {rc : RC} {B : Base} {γ γ' : Gh} {h h' : HS} {w w' w1 : World}
variable {ops : Array Oper} {R : Nat → OI} {S : Nat → DS} {h0 H : HS} {T0 T T' : FT} {q0 : Nat} {pss : List (List Nat)} {ds : List Nat} {L : Nat → Bool} {p : Nat} {a : Act} {Q : Exit → Act → World → Prop} {ro : Option Nat}
def cntU (L : Nat → Bool) : Nat → Nat
  | 0 => 0
  | N + 1 => cntU L N + (if L N = true then 0 else 1)
theorem cntU_set {L : Nat → Bool} {i : Nat} (hi : L i = false) : ∀ N, cntU (setL L i) N + (if i < N then 1 else 0) = cntU L N
  | 0 => rfl
  | N + 1 => by
    have ih := cntU_set hi N
    simp only [cntU]
    by_cases e : N = i
    · subst e
      rw [setL_same, hi]
      simp at ih ⊢
      omega
    · rw [setL_ne e]
      by_cases h1 : i < N
      · have h2 : i < N + 1 := by omega
        simp only [h1, h2, if_true] at ih ⊢
        omega
      · have h2 : ¬ i < N + 1 := by omega
        simp only [h1, h2, if_false] at ih ⊢
        omega
theorem cntU_all {L : Nat → Bool} : ∀ N, cntU L N = 0 → ∀ i, i < N → L i = true
  | 0, _, i, hi => by omega
  | N + 1, h, i, hi => by
    simp only [cntU] at h
    by_cases e : i = N
    · subst e
      by_cases hL : L i = true
      · exact hL
      · rw [if_neg hL] at h; omega
    · exact cntU_all N (by omega) i (by omega)
theorem nodef_k {o : Oper} (hk : kindK P o.op ≠ 2) : nodef o = true := by
  obtain ⟨d, op, ty, pos, af, g⟩ := o
  cases op <;> first | rfl | exact absurd rfl hk
theorem nodef_e {o : Oper} {c : CV} (hc : (effK P o.op).f rc T h = .ok c h') : nodef o = true := by
  obtain ⟨d, op, ty, pos, af, g⟩ := o
  cases op <;> first | rfl | (exfalso; cases hc)
theorem ready_iff {ops : Array Oper} {L : Array Bool} (hs : L.size = ops.size) {i : Nat} : i ∈ Region.ready .any ops L ↔ ∃ o, ops[i]? = some o ∧ L.getD i false = false ∧ ∀ e ∈ o.after.toList, Region.binds .any e = true → L.getD e.on false = true := by
  unfold Region.ready
  simp only [List.mem_filter, List.mem_range, Bool.and_eq_true, Bool.not_eq_true']
  have hg : i < ops.size → L.getD i true = L.getD i false := fun hi => by
    have : i < L.size := by omega
    simp [this]
  constructor
  · rintro ⟨h1, h2, h3⟩
    have ho : ops[i]? = some ops[i] := by simp [h1]
    rw [ho] at h3
    simp only [Option.map_some, Option.getD_some, Array.all_eq_true_iff_forall_mem, Bool.or_eq_true, Bool.not_eq_true'] at h3
    refine ⟨_, ho, by rw [← hg h1]; exact h2, fun e he hb => ?_⟩
    rcases h3 e (by simpa using he) with h4 | h4
    · rw [hb] at h4; cases h4
    · exact h4
  · rintro ⟨o, ho, h1, h2⟩
    have hi := (Array.getElem?_eq_some_iff.1 ho).1
    refine ⟨hi, by rw [hg hi]; exact h1, ?_⟩
    rw [ho]
    simp only [Option.map_some, Option.getD_some, Array.all_eq_true_iff_forall_mem, Bool.or_eq_true, Bool.not_eq_true']
    intro e he
    by_cases hb : Region.binds .any e = true
    · exact .inr (h2 e (by simpa using he) hb)
    · exact .inl (by simpa using hb)
theorem set_L {L : Array Bool} {i : Nat} (hi : i < L.size) : (fun j => (L.setIfInBounds i true).getD j false) = setL (fun j => L.getD j false) i := by
  funext j
  by_cases e : j = i
  · subst e; simp [setL, hi]
  · rw [setL_ne e]
    simp only [Array.getD_eq_getD_getElem?]
    rw [Array.getElem?_setIfInBounds_ne (Ne.symm e)]
/-- all are done -/
theorem DI.fin (I : DI P B ops R S h0 n ds L p H γ w a) (C : Chk P ops R) (D : TR P n ops rc h0 T0 q0 pss S) (hall : ∀ i, i < ops.size → L i = true) : St B γ (mergeP (S ops.size).pd (S ops.size).h) w (S ops.size).T n ds a := by
  have hpN : p ≤ (S ops.size).bs.length := by
    have := (List.getElem?_eq_some_iff.1 I.at_).1
    simp at this
    omega
  have hp : (S ops.size).bs.length = p := by
    rcases Nat.lt_or_eq_of_le hpN with hlt | heq
    · obtain ⟨j, o, hj, ho, hk, hpj⟩ := D.nth ops.size (Nat.le_refl _) p hlt
      have := (I.ef j hj (by rw [C.kd j o ho]; exact hk)).1 (hall j hj)
      omega
    · exact heq.symm
  have hH := D.full (Nat.le_refl ops.size)
  rw [hp, I.at_] at hH
  obtain rfl := Option.some.inj hH
  obtain ⟨G, V, hnx, hus⟩ := I.merge C D (Nat.le_refl _) hp (fun j hj _ => hall j hj)
  refine ⟨G, V, I.size, I.defers, fun k => I.fr k ops.size (Nat.le_refl _) (fun i o hi _ _ => hall i hi) (fun i o hi ho _ => ?_), fun d hd => ?_, I.nod⟩
  · have := (Array.getElem?_eq_some_iff.1 ho).1
    omega
  · obtain ⟨k1, k2, k3⟩ := I.dss d hd
    refine ⟨k1, fun hu => ?_, k3⟩
    rcases hus d hu with hu | ⟨_, _, _, _, _, _, _, cur, ty, e6⟩
    · exact k2 hu
    · rw [k1] at e6; cases e6
theorem any_ok (hrc : RcOk P rc) (C : Chk P ops R) (D : TR P n ops rc h0 T0 q0 pss S) {ois : List OI} (hois : ois.length = ops.size) (hR : R = fun i => ois.getD i ⟨0, 0, 0, 0⟩) (hpss : pss = winsK ois ois 0) (hch : chkW (h0 :: (S ops.size).bs.reverse) (S ops.size).ws = true)
    (hqN : (S ops.size).q ≤ h0.nx) (hq0 : B.h.nx ≤ q0) (hQ : ∀ γ' w' a', St B γ' (mergeP (S ops.size).pd (S ops.size).h) w' (S ops.size).T n ds a' → Q .normal a' w') :
    ∀ (fuel : Nat) (L : Array Bool) (p : Nat) (H : HS) (γ : Gh) (w : World) (a : Act), L.size = ops.size → DI P B ops R S h0 n ds (fun i => L.getD i false) p H γ w a → cntU (fun i => L.getD i false) ops.size ≤ fuel → wpAnyIn (Fx ro) 0 P .any ops Q fuel L a w := by
  intro fuel
  induction fuel with
  | zero =>
    intro L p H γ w a hs I hf
    have hall := cntU_all ops.size (Nat.le_zero.1 hf)
    refine ⟨?_, hQ _ _ _ (I.fin C D hall)⟩
    refine List.eq_nil_iff_forall_not_mem.2 fun i hi => ?_
    obtain ⟨o, ho, h1, _⟩ := (ready_iff hs).1 hi
    have h2 := hall i (Array.getElem?_eq_some_iff.1 ho).1
    rw [h1] at h2; cases h2
  | succ fuel ih =>
    intro L p H γ w a hs I hf
    refine ⟨fun hnil => hQ _ _ _ (I.fin C D fun i hi => ?_), fun i hi => ?_⟩
    · induction i using Nat.strongRecOn with
      | _ i ihi =>
        cases hL : L.getD i false with
        | true => rfl
        | false =>
          exfalso
          have ho : ops[i]? = some ops[i] := by simp [hi]
          have : i ∈ Region.ready .any ops L := (ready_iff hs).2 ⟨_, ho, hL, fun e he hb => ihi e.on (C.of i _ e ho he hb) (by have := C.of i _ e ho he hb; omega)⟩
          rw [hnil] at this
          cases this
    · obtain ⟨o, ho, h1, h2⟩ := (ready_iff hs).1 hi
      have hr : Rdy ops R (fun i => L.getD i false) i := I.closed C ho h1 h2
      have hlt := hr.lt
      have hset := set_L (L := L) (i := i) (by omega)
      have next : ∀ {p' : Nat} {H' : HS} {γ' : Gh} {w' : World} {a' : Act}, DI P B ops R S h0 n ds (setL (fun i => L.getD i false) i) p' H' γ' w' a' → wpAnyIn (Fx ro) 0 P .any ops Q fuel (L.setIfInBounds i true) a' w' := by
        intro p' H' γ' w' a' I'
        refine ih _ p' H' γ' w' a' (by simpa using hs) (by rw [hset]; exact I') ?_
        rw [hset]
        have := cntU_set (L := fun i => L.getD i false) h1 ops.size
        rw [if_pos hlt] at this
        omega
      have hops : ∀ x ∈ o.op.operands, SR γ ((oK x).f (S i).T) (a.eval x) := fun x hx => SR_op I.inv.glob x (fun t e => I.reads C hr (C.rm i o t ho (e ▸ hx)))
      have hwk : ∀ {b : Bool}, (wK ops.toList o).f (S i).T = some b → Region.wanted o (yielded ops a.tmps) = b := fun hw => wK_ok (γ := γ) (T := (S i).T) (fun g hg => I.reads C hr (C.gm i o g ho hg)) hw
      obtain ⟨ps, c, hps, hst⟩ := D.st i o ho
      unfold wpOpIn
      rw [ho]
      simp only
      cases hst with
      | q0 k hw hu hc e =>
        rw [if_pos (hwk hw)]
        obtain ⟨v, h3, h4⟩ := pure_ok (P := P) (w := w) (ac := a) o hc hu hops
        refine fx_of_wide (nodef_k (P := P) (by omega)) (wide_of_wp ?_)
        unfold Oper.wp
        rw [h3]
        exact next (I.quiet C D hr ho (by rw [e]) (by omega) (.inr h4))
      | s0 k hw hc e =>
        rw [if_neg (by rw [hwk hw]; simp)]
        subst hc
        exact ⟨fun _ _ => trivial, next (I.quiet C D hr ho (c := undC) (by rw [e]) k (.inr rfl))⟩
      | q1 k hw hu hc e =>
        rw [if_pos (hwk hw)]
        have hload := I.load C D hois hR hpss hch hr ho hps k hc (by rw [e]; exact List.mem_cons_self ..)
        obtain ⟨v, h3, h4⟩ := load_ok (P := P) (ac := a) o I.inv hload hu hops
        refine fx_of_wide (nodef_k (P := P) (by omega)) (wide_of_wp ?_)
        unfold Oper.wp
        rw [h3]
        exact next (I.quiet C D hr ho (by rw [e]) (by omega) (.inr h4))
      | q2 h1' k hw hc e =>
        rw [if_pos (hwk hw)]
        have hkd : (R i).kd = 2 := by rw [C.kd i o ho]; exact k
        obtain ⟨hp, hH⟩ := I.place C D hr hkd
        obtain ⟨_, V, _, _⟩ := I.merge C D (Nat.le_of_lt hlt) hp (fun j hj h3 => hr.be j (C.cf j i hj hlt (conf_a h3 hkd)))
        rw [hH] at hc
        refine fx_of_wide (nodef_e hc) (eff_wp hrc V o hc hops fun v w' hA => ?_)
        obtain ⟨γ', I'⟩ := I.eff C D hqN hr ho k (by rw [e]) (by rw [e]; exact hA)
        exact next I'
      | s2 k hw hc e =>
        rw [if_neg (by rw [hwk hw]; simp)]
        have hkd : (R i).kd = 2 := by rw [C.kd i o ho]; exact k
        obtain ⟨hp, hH⟩ := I.place C D hr hkd
        obtain ⟨_, V, _, _⟩ := I.merge C D (Nat.le_of_lt hlt) hp (fun j hj h3 => hr.be j (C.cf j i hj hlt (conf_a h3 hkd)))
        subst hc
        obtain ⟨γ', I'⟩ := I.eff C D hqN hr ho k (by rw [e]) (v := undef) (w' := w) (by rw [e, hH]; exact ⟨γ, Go1.refl _ _ _, V, rfl⟩)
        exact ⟨fun _ _ => trivial, next I'⟩
      | q3 co k hg ha hc e =>
        have hw : Region.wanted o (yielded ops a.tmps) = true := by simp [Region.wanted, hg]
        rw [if_pos hw]
        obtain ⟨t, z, hop, hz, hco⟩ := alc_c ha
        obtain ⟨cur, hrun, hv⟩ := alc_ok (P := P) hz I.inv
        refine fx_of_wide (nodef_k (P := P) (by omega)) (wide_of_wp ?_)
        unfold Oper.wp
        have hex : (execOp a.eval o).run P w = .ok (.value (.pointer (some ⟨w.heap.size, 0, none⟩))) (w.alloc (.cells cur t)) := by
          obtain ⟨d, op, ty, pos, af, g⟩ := o
          simp only at hop
          subst hop
          exact run_v hrun
        rw [hex]
        exact next (I.alc C D hqN hq0 hr ho ha hco (by rw [e, hc]) hv)
theorem draw_ok (hrc : RcOk P rc) (hm : P.follows .mixedOrders = true) {id : Nat} (S0 : St B γ h w T n ds a) (hc : (drawR P n ops.toList).f rc T h = .ok T' h') (hQ : ∀ γ' w' a', St B γ' h' w' T' n ds a' → Q .normal a' w') :
    (Code.region id ops true).wpIn (Fx ro) 0 P Q a w := by
  refine wpIn_region_any hm ?_
  show wpAnyIn (Fx ro) 0 P .any ops Q ops.size (Array.replicate ops.size false) a w.drew
  unfold drawR at hc
  cases hall : allOk (oisK P ops.toList ops.toList []) [] with
  | false => rw [hall] at hc; cases hc
  | true =>
    rw [hall] at hc
    simp only [cond_true] at hc
    obtain ⟨C, hois⟩ := chk_of hall
    split at hc
    · cases hc
    · rename_i sN hsN
      cases hch : chkW (⟨h.H, h.nx + flts P ops.toList⟩ :: sN.bs.reverse) sN.ws with
      | false => rw [hch] at hc; cases hc
      | true =>
        rw [hch] at hc
        simp only [cond_true, To.ok.injEq] at hc
        obtain ⟨rfl, rfl⟩ := hc
        obtain ⟨S, z1, z2, z3, z4⟩ := draw_seq ops.toList _ _ _ hsN
        simp only [Array.length_toList] at z2
        have D : TR P n ops rc ⟨h.H, h.nx + flts P ops.toList⟩ T h.nx (winsK (oisK P ops.toList ops.toList []) (oisK P ops.toList ops.toList []) 0) S := ⟨z1, fun i o hi => z3 i o (by simpa using hi)⟩
        subst z2
        have I0 : DI P B ops (fun i => (oisK P ops.toList ops.toList []).getD i ⟨0, 0, 0, 0⟩) S ⟨h.H, h.nx + flts P ops.toList⟩ n ds (fun i => (Array.replicate ops.size false).getD i false) 0 ⟨h.H, h.nx + flts P ops.toList⟩ γ w.drew a := by
          have hL : ∀ i, (Array.replicate ops.size false).getD i false = false := fun i => by
            rw [Array.getD_eq_getD_getElem?]
            by_cases hi : i < ops.size <;> simp [hi]
          have noL : ∀ {i : Nat} {X : Prop}, (Array.replicate ops.size false).getD i false = true → X := fun {i X} hh => by rw [hL] at hh; cases hh
          have G := S0.go
          refine ⟨rfl, fun i hi => noL hi, fun j _ _ => ?_, Nat.le_refl _, ⟨G.os, Tp.trans (Tp.one _) G.tape, G.out, G.size, G.le, Nat.le_trans G.nx (Nat.le_add_right _ _), G.pres, G.own, G.used, G.gnew⟩,
            ⟨fun k x hk => Nat.lt_of_lt_of_le (S0.inv.dom k x hk) (Nat.le_add_right _ _), S0.inv.glob, S0.inv.inj, S0.inv.rel⟩, S0.size, S0.defers, S0.dss, S0.nod, fun k j hj h1 h2 => ?_, fun j hj h3 _ => ?_, fun j o co _ _ hh => noL hh, fun j j' b m m' _ _ _ _ _ hh => noL hh⟩
          · simp only [hL]; simp
          · have same : ∀ m, m ≤ j → fget (S m).T k = fget T k := by
              intro m
              induction m with
              | zero => intro _; rw [D.z]
              | succ m ih =>
                intro hm
                have hms : m < ops.size := by omega
                have hom : ops[m]? = some ops[m] := by simp [hms]
                obtain ⟨c', hc'⟩ := D.sT m hms _ hom
                rw [hc', pd_get, if_neg, ih (by omega)]
                rintro ⟨hdm, _⟩
                exact noL (h1 m _ (by omega) hom hdm)
            rw [same j (Nat.le_refl _)]
            exact S0.slots k
          · have h5 := (D.mono (Nat.zero_le j) (Nat.le_of_lt hj)).2.1
            rw [D.z] at h5
            cases hg : γ (S j).q with
            | none => rfl
            | some x =>
              have := S0.inv.dom _ _ hg
              simp only at h5
              omega
        refine any_ok hrc C D hois rfl rfl hch (by rw [z4]; exact Nat.le_refl _) S0.go.nx hQ ops.size _ 0 _ γ w.drew a (by simp) I0 ?_
        have : ∀ N, cntU (fun i => (Array.replicate ops.size false).getD i false) N ≤ N := by
          intro N
          induction N with
          | zero => exact Nat.le_refl _
          | succ N ih => simp only [cntU]; split <;> omega
        exact this ops.size
end
end Go.Cr
namespace Go.Cr
open Go Go.Eng
def exo : Ex → Exit
  | .n => .normal
  | .ret => .ret
  | .ex i => .exit i
section
variable {P : Program} {n : Nat} {rc : RC} {B : Base} {γ γ' : Gh} {h h' : HS} {w w' w1 : World} {T T' : FT} {ds : List Nat} {a : Act} {e : Ex}
/-- what the walk of a code owes -/
def CodeOk (P : Program) (rc : RC) (n : Nat) (c : Code) : Prop := ∀ (rf : Bool) (ro : Option Nat), (rf = true → ro = none) → ∀ {B : Base} {γ : Gh} {h h' : HS} {w : World} {T T' : FT} {ds : List Nat} {a : Act} {e : Ex} {Q : Exit → Act → World → Prop},
  St B γ h w T n ds a → (cK P rf n c).f rc T h = .o e T' h' → (∀ γ' w' ds' a', St B γ' h' w' T' n ds' a' → Q (exo e) a' w') → c.wpIn (Fx ro) 0 P Q a w
theorem loop_ok {x : Code} (hx : CodeOk P rc n x) {rf : Bool} {ro : Option Nat} (hro : rf = true → ro = none) {Q : Exit → Act → World → Prop} :
    ∀ (m : Nat) {γ : Gh} {h h' : HS} {w : World} {T T' : FT} {ds : List Nat} {a : Act} {e : Ex}, St B γ h w T n ds a → loopN ((cK P rf n x).f rc) m T h = .o e T' h' → (∀ γ' w' ds' a', St B γ' h' w' T' n ds' a' → Q (exo e) a' w') → Code.roundsIn (Fx ro) 0 P x Q m a w
  | 0, γ, h, h', w, T, T', ds, a, e, _, hc, _ => by
    have hc' : Out.no = .o e T' h' := hc
    cases hc'
  | m + 1, γ, h, h', w, T, T', ds, a, e, S, hc, hQ => by
    have hc' : (match (cK P rf n x).f rc T h with
      | .o .n T h => loopN ((cK P rf n x).f rc) m T h
      | .o .ret T h => .o .ret T h
      | .o (.ex i) T h => .o (.ex i) T h
      | .no => .no) = .o e T' h' := hc
    rw [roundsIn_succ]
    split at hc'
    · rename_i T1 h1 hx1
      exact hx rf ro hro S hx1 fun γ' w' ds' a' S' => loop_ok hx hro m S' hc' hQ
    · rename_i T1 h1 hx1
      simp only [Out.o.injEq] at hc'
      obtain ⟨rfl, rfl, rfl⟩ := hc'
      exact hx rf ro hro S hx1 fun γ' w' ds' a' S' => hQ _ _ _ _ S'
    · rename_i i T1 h1 hx1
      simp only [Out.o.injEq] at hc'
      obtain ⟨rfl, rfl, rfl⟩ := hc'
      exact hx rf ro hro S hx1 fun γ' w' ds' a' S' => hQ _ _ _ _ S'
    · cases hc'
theorem Inv.keep (V : Inv γ h w) (hk : ∀ b, Used γ h b → w1.heap[b]? = w.heap[b]?) : Inv γ h w1 :=
  ⟨V.dom, V.glob, V.inj, fun k => by
    by_cases hsm : some? (hget h k) = true
    · exact (V.rel k).up (Gh.le_refl _) (fun b m hb => hk b ⟨k, m, hb, hsm⟩)
    · have : hget h k = .no := by cases hh : hget h k <;> simp_all [some?]
      rw [this]; trivial⟩
/-- a range over a function -/
theorem range_ok (hrc : RcOk P rc) {g : Operand} {ps : Array Tmp} {assign body : Code} {Q : Exit → Act → World → Prop} (S : St B γ h w T n ds a) (hc : rngO rc n T h ps.toList assign body ((oK g).f T) = .o e T' h')
    (hQ : ∀ γ' w' ds' a', St B γ' h' w' T' n ds' a' → Q (exo e) a' w') : (Code.rangeFunc g ps assign body).wpIn (Fx none) 0 P Q a w := by
  unfold rngO at hc
  split at hc
  · rename_i fid caps hg
    have hgv := S.ops g
    rw [hg] at hgv
    refine wpIn_rangeFunc fun fn _ => ?_
    have hen := run_enterLoop_outer (P := P) (w := w) fn a.tmps ps assign body
    have VD : Inv γ h (w.alloc (.deferred (some []))) := S.inv.keep (fun b hb => heap_alloc_old w _ (S.inv.lt hb))
    have GD : Go1 γ h w γ h (w.alloc (.deferred (some []))) := ⟨rfl, Tp.rfl _, rfl, by simp, Gh.le_refl _, Nat.le_refl _, fun b hb _ => heap_alloc_old w _ hb, fun b hb => .inl hb, fun b hb => .inl hb, fun _ _ hk => .inl hk⟩
    have hszD : (w.alloc (.deferred (some []))).heap.size = w.heap.size + 1 := by simp
    obtain ⟨V1, G1⟩ := VD.new (w1 := (w.alloc (.deferred (some []))).alloc (.loop ⟨.ready, none, fn, a.tmps, ps, assign, body, w.heap.size⟩)) (sz := 0) (o := .l 0 none n T ps.toList assign body) rfl (Tp.rfl _) rfl (by simp) (fun b hb => heap_alloc_old _ _ hb)
      ⟨(w.alloc (.deferred (some []))).heap.size, 0, fn, a.tmps, w.heap.size, by simp [gput], hv_alloc_new _ _, S.size, fun k => (S.slots k).up (VD.gle (Nat.le_refl _) _)⟩
    generalize hW1 : (w.alloc (.deferred (some []))).alloc (.loop ⟨.ready, none, fn, a.tmps, ps, assign, body, w.heap.size⟩) = W1 at hen V1 G1
    have hgl : gput γ h.nx ((w.alloc (.deferred (some []))).heap.size, 0) h.nx = some (w.heap.size + 1, 0) := by rw [hszD]; simp [gput]
    generalize hγ1 : gput γ h.nx ((w.alloc (.deferred (some []))).heap.size, 0) = γ1 at V1 G1 hgl
    unfold aftR at hc
    split at hc
    · cases hc
    · rename_i v hE hrun
      have hgv1 : SR γ1 (.f fid caps) (a.eval g) := hgv.up G1.le
      have hcall := hrc (vs := [.func (.yield (w.heap.size + 1)) #[] #[]]) hrun V1 hgv1 ⟨.inr (by simp [val, hgl]), trivial⟩
      have hnf : ∃ cs, a.eval g = .func (.func fid) #[] cs := by
        have := hgv.get rfl
        simp only [val] at this
        split at this
        · exact ⟨_, (Option.some.inj this).symm⟩
        · cases this
      rcases hcall with ⟨f, cs, hf, hfn, hcalls⟩ | ⟨f, cs, v', w', hf, _, _, s, hs⟩ | ⟨l, hf, _⟩
      · refine ⟨w.heap.size + 1, [{ target := .collected w.heap.size, args := #[] }], W1, { target := .fn (.func f) cs, args := #[.func (.yield (w.heap.size + 1)) #[] #[]] }, W1, f, #[.func (.yield (w.heap.size + 1)) #[] #[]] ++ cs, W1, hen, ?_, fun _ _ => trivial, ?_, ⟨fun hd => by simp at hd, ?_⟩⟩
        · simp only [resolve, hf]
          simp [go_sem]
        · simp only [invoke, hfn.enter]
        · refine callsIn_wide.2 (hcalls.mono fun en w' he => ?_)
          obtain ⟨v2, rfl, γ', G2, V2, _⟩ := he
          have hrel := V2.rel h.nx
          unfold aftO at hc
          split at hc
          · rename_i st pd m T0 ps' as' bd' hob
            rw [hob] at hrel
            cases hst : Nat.beq st 1 with
            | true => rw [hst] at hc; cases hc
            | false =>
              rw [hst] at hc
              simp only [cond_false] at hc
              obtain ⟨b, n0, fn', tmps', D', k1, k2, k3, k4⟩ := hrel
              have k1' := G2.le _ _ hgl
              rw [k1] at k1'
              obtain ⟨rfl, rfl⟩ := Prod.mk.inj (Option.some.inj k1')
              have hnb : lst st ≠ .busy := by
                match st, hst with
                | 0, _ => intro hh; cases hh
                | 1, hst => cases hst
                | st + 2, _ => intro hh; cases hh
              have hend := run_endLoop (P := P) (w := w') (r := ⟨lst st, pd, fn', tmps', ps'.toArray, as', bd', D'⟩) k2 hnb
              have hlt : w.heap.size + 1 < w'.heap.size := lt_of_hv k2
              obtain ⟨V3, G3⟩ := V2.put (w1 := w'.putObj (w.heap.size + 1) (.loop ⟨.exhausted, pd, fn', tmps', ps'.toArray, as', bd', D'⟩)) (o := .no) k1 (by rw [hob]; rfl) rfl (Tp.rfl _) rfl (by simp) (fun b' hb' => World.putObj_heap_other hb') trivial
              generalize hW4 : w'.putObj (w.heap.size + 1) (.loop ⟨.exhausted, pd, fn', tmps', ps'.toArray, as', bd', D'⟩) = W4 at V3 G3
              have GB := (G1.trans G2).trans G3
              have hdd : hv (w.alloc (.deferred (some []))) w.heap.size = some (.deferred (some [])) := hv_alloc_new w _
              have SF : St B γ' (hput hE h.nx .no) W4 T n (w.heap.size :: ds) { a with defers := [{ target := .collected w.heap.size, args := #[] }] ++ a.defers } := by
                have keep : ∀ D, hv (w.alloc (.deferred (some []))) D = some (.deferred (some [])) → ¬ Used γ h D → hv W4 D = some (.deferred (some [])) ∧ ¬ Used γ' (hput hE h.nx .no) D := by
                  intro D h1 h2
                  have hD := lt_of_hv h1
                  refine ⟨(GB.pres D hD (fun ho => h2 ho.used)).trans h1, fun hu => ?_⟩
                  rcases GB.used D hu with hu | hu
                  · exact h2 hu
                  · omega
                refine ⟨(S.go.trans GD).trans GB, V3, S.size, by show _ = marks (w.heap.size :: ds); simp [S.defers, marks], fun k => (S.slots k).up GB.le, fun D hD => ?_, List.nodup_cons.2 ⟨fun hD => ?_, S.nod⟩⟩
                · rcases List.mem_cons.1 hD with rfl | hD
                  · obtain ⟨h1, h2⟩ := keep w.heap.size hdd (fun hu => by have := S.inv.lt hu; omega)
                    exact ⟨h1, h2, S.go.size⟩
                  · obtain ⟨h1, h2, h3⟩ := S.dss D hD
                    obtain ⟨h4, h5⟩ := keep D ((heap_alloc_old w _ (lt_of_hv h1)).trans h1) h2
                    exact ⟨h4, h5, h3⟩
                · have := lt_of_hv (S.dss _ hD).1
                  omega
              refine ⟨pd, W4, by rw [← hW4]; exact hend, ?_⟩
              split at hc
              · simp only [Out.o.injEq] at hc
                obtain ⟨rfl, rfl, rfl⟩ := hc
                exact hQ _ _ _ _ SF
              · simp only [Out.o.injEq] at hc
                obtain ⟨rfl, rfl, rfl⟩ := hc
                exact wpIn_ret (hQ _ _ _ _ SF)
              · simp only [Out.o.injEq] at hc
                obtain ⟨rfl, rfl, rfl⟩ := hc
                exact wpIn_exit (hQ _ _ _ _ SF)
              · cases hc
          · cases hc
      · simp at hs
      · obtain ⟨cs, hcs⟩ := hnf
        rw [hcs] at hf
        cases hf
  · cases hc
theorem code_ok (hrc : RcOk P rc) (hm : P.follows .mixedOrders = true) (c : Code) : CodeOk P rc n c := by
  induction c with
  | skip =>
    intro rf ro hro B γ h h' w T T' ds a e Q S hc hQ
    have hc' : Out.o .n T h = .o e T' h' := hc
    simp only [Out.o.injEq] at hc'
    obtain ⟨rfl, rfl, rfl⟩ := hc'
    exact wpIn_skip (hQ _ _ _ _ S)
  | region id ops draw =>
    intro rf ro hro B γ h h' w T T' ds a e Q S hc hQ
    have hc' : outT ((regK P n ops.toList draw).f rc T h) = .o e T' h' := hc
    unfold outT at hc'
    split at hc'
    · cases hc'
    · rename_i T1 h1 hx
      simp only [Out.o.injEq] at hc'
      obtain ⟨rfl, rfl, rfl⟩ := hc'
      cases draw with
      | true => exact draw_ok hrc hm S hx fun γ' w' a' S' => hQ _ _ _ _ S'
      | false => exact wpIn_region_list (plain_ok hrc ops.toList S hx fun γ' w' a' S' => hQ _ _ _ _ S')
  | seq x y hx hy =>
    intro rf ro hro B γ h h' w T T' ds a e Q S hc hQ
    have hc' : (match (cK P rf n x).f rc T h with
      | .o .n T h => (cK P rf n y).f rc T h
      | .o .ret T h => .o .ret T h
      | .o (.ex i) T h => .o (.ex i) T h
      | .no => .no) = .o e T' h' := hc
    refine wpIn_seq ?_
    split at hc'
    · rename_i T1 h1 hx1
      exact hx rf ro hro S hx1 fun γ' w' ds' a' S' => hy rf ro hro S' hc' hQ
    · rename_i T1 h1 hx1
      simp only [Out.o.injEq] at hc'
      obtain ⟨rfl, rfl, rfl⟩ := hc'
      exact hx rf ro hro S hx1 fun γ' w' ds' a' S' => hQ _ _ _ _ S'
    · rename_i i T1 h1 hx1
      simp only [Out.o.injEq] at hc'
      obtain ⟨rfl, rfl, rfl⟩ := hc'
      exact hx rf ro hro S hx1 fun γ' w' ds' a' S' => hQ _ _ _ _ S'
    · cases hc'
  | cond c x y hx hy =>
    intro rf ro hro B γ h h' w T T' ds a e Q S hc hQ
    have hc' : (match (oK c).f T with
      | .b b => bif b then (cK P rf n x).f rc T h else (cK P rf n y).f rc T h
      | _ => .no) = .o e T' h' := hc
    split at hc'
    · rename_i b hb
      have hv := S.ops c
      rw [hb] at hv
      refine wpIn_cond_split hv.b (fun ht => ?_) (fun hf => ?_)
      · rw [ht] at hc'; exact hx rf ro hro S hc' hQ
      · rw [hf] at hc'; exact hy rf ro hro S hc' hQ
    · cases hc'
  | block id x hx =>
    intro rf ro hro B γ h h' w T T' ds a e Q S hc hQ
    have hc' : (match (cK P rf n x).f rc T h with
      | .o .n T h => Out.o .n T h
      | .o .ret T h => Out.o .ret T h
      | .o (.ex i) T h => bif Nat.beq i id then Out.o .n T h else Out.o (.ex i) T h
      | .no => Out.no) = .o e T' h' := hc
    refine wpIn_block ?_
    split at hc'
    · rename_i T1 h1 hx1
      simp only [Out.o.injEq] at hc'
      obtain ⟨rfl, rfl, rfl⟩ := hc'
      exact hx rf ro hro S hx1 fun γ' w' ds' a' S' => hQ _ _ _ _ S'
    · rename_i T1 h1 hx1
      simp only [Out.o.injEq] at hc'
      obtain ⟨rfl, rfl, rfl⟩ := hc'
      exact hx rf ro hro S hx1 fun γ' w' ds' a' S' => hQ _ _ _ _ S'
    · rename_i i T1 h1 hx1
      cases hb : Nat.beq i id with
      | true =>
        rw [hb] at hc'
        simp only [cond_true, Out.o.injEq] at hc'
        obtain ⟨rfl, rfl, rfl⟩ := hc'
        obtain rfl := Nat.eq_of_beq_eq_true hb
        exact hx rf ro hro S hx1 fun γ' w' ds' a' S' => by
          simp only [exo, Exit.inBlock, if_true]
          exact hQ _ _ _ _ S'
      | false =>
        rw [hb] at hc'
        simp only [cond_false, Out.o.injEq] at hc'
        obtain ⟨rfl, rfl, rfl⟩ := hc'
        have hne : i ≠ id := fun e => by subst e; rw [Nat.beq_refl] at hb; cases hb
        exact hx rf ro hro S hx1 fun γ' w' ds' a' S' => by
          simp only [exo, Exit.inBlock, if_neg hne]
          exact hQ _ _ _ _ S'
    · cases hc'
  | loop x hx =>
    intro rf ro hro B γ h h' w T T' ds a e Q S hc hQ
    have hc' : (loopK (cK P rf n x)).f rc T h = .o e T' h' := hc
    unfold loopK at hc'
    exact wpIn_loop_rounds loopF (loop_ok hx hro loopF S hc' hQ)
  | rangeFunc g ps assign body _ _ =>
    intro rf ro hro B γ h h' w T T' ds a e Q S hc hQ
    cases rf with
    | true =>
      obtain rfl := hro rfl
      exact range_ok hrc S hc hQ
    | false =>
      have hc' : Out.no = .o e T' h' := hc
      cases hc'
  | exit id =>
    intro rf ro hro B γ h h' w T T' ds a e Q S hc hQ
    have hc' : Out.o (.ex id) T h = .o e T' h' := hc
    simp only [Out.o.injEq] at hc'
    obtain ⟨rfl, rfl, rfl⟩ := hc'
    exact wpIn_exit (hQ _ _ _ _ S)
  | ret =>
    intro rf ro hro B γ h h' w T T' ds a e Q S hc hQ
    have hc' : Out.o .ret T h = .o e T' h' := hc
    simp only [Out.o.injEq] at hc'
    obtain ⟨rfl, rfl, rfl⟩ := hc'
    exact wpIn_ret (hQ _ _ _ _ S)
  | _ =>
    intro rf ro hro B γ h h' w T T' ds a e Q S hc hQ
    have hc' : Out.no = .o e T' h' := hc
    cases hc'
end
end Go.Cr
namespace Go.Cr
open Go Go.Eng
/-- a function without a body, of the model's own -/
def HasX (P : Program) (f : FuncId) (e : Array Value → Sem Value) : Prop := ∃ fn, P.funcs[f]? = some fn ∧ (fn.name == "runtime.NumGoroutine") = false ∧ fn.body.isNone = true ∧ Extern.findNext fn = none ∧ Extern.find fn = some e
/-- what slices.IndexFunc must do -/
def IxC (P : Program) (X : XI) : Prop := ∀ {w : World} {v : Value} {xs : List Int} {b o : Nat} {n : Int}, RdSl (hv w) (eI .i64) v xs → xs.length ≤ 1048576 → cellsAt (hv w) b o [.int .i64 n] →
  Calls P X.ix #[v, .func (.func X.pr) #[] #[.pointer (some ⟨b, o, none⟩)]] w (Rets fun u w' => u = .int .i64 (firB n xs 0) ∧ Bel w w')
def XOk (P : Program) (X : XI) : Prop := HasX P X.ib Extern.BytealgIndexByte.indexByte ∧ HasX P X.cs Extern.BytealgCount.count ∧ (P.funcs[X.ix]? = none ∨ HasFn P X.ix ∧ IxC P X)
theorem byte_eq {c : Nat} (hc : c < 256) (x : UInt8) : (x == (Int.ofNat c).toNat.toUInt8) = Nat.beq x.toNat c := by
  have h1 : ((Int.ofNat c).toNat.toUInt8).toNat = c := by simp; omega
  rw [Bool.eq_iff_iff]
  constructor
  · intro h
    have h2 : x = (Int.ofNat c).toNat.toUInt8 := by simpa using h
    rw [h2, h1]; exact Nat.beq_refl c
  · intro h
    have h2 := Nat.eq_of_beq_eq_true h
    have : x = (Int.ofNat c).toNat.toUInt8 := UInt8.toNat_inj.1 (by rw [h1, h2])
    simpa using this
theorem idxB_eq {c : Nat} (hc : c < 256) : ∀ (l : List UInt8) (i : Nat), idxB c l i = if Lib.indexByte l (Int.ofNat c).toNat.toUInt8 = -1 then -1 else Lib.indexByte l (Int.ofNat c).toNat.toUInt8 + i
  | [], i => rfl
  | x :: l, i => by
    have e : idxB c (x :: l) i = bif Nat.beq x.toNat c then .ofNat i else idxB c l (i + 1) := rfl
    have hge := Lib.indexByte_ge l (Int.ofNat c).toNat.toUInt8
    have e2 : Lib.indexByte (x :: l) (Int.ofNat c).toNat.toUInt8 = if x == (Int.ofNat c).toNat.toUInt8 then 0 else if Lib.indexByte l (Int.ofNat c).toNat.toUInt8 == -1 then -1 else Lib.indexByte l (Int.ofNat c).toNat.toUInt8 + 1 := rfl
    rw [e, idxB_eq hc l (i + 1), e2, byte_eq hc]
    generalize Lib.indexByte l (Int.ofNat c).toNat.toUInt8 = q at hge ⊢
    cases Nat.beq x.toNat c with
    | true => simp
    | false =>
      simp only [cond_false, Bool.false_eq_true, if_false]
      by_cases h1 : q = -1
      · subst h1; simp
      · rw [if_neg h1]
        have h2 : (q == -1) = false := by simpa using h1
        rw [h2]
        simp only [Bool.false_eq_true, if_false]
        rw [if_neg (by omega)]
        push_cast
        omega
theorem idxB0 {c : Nat} (hc : c < 256) (l : List UInt8) : idxB c l 0 = Lib.indexByte l (Int.ofNat c).toNat.toUInt8 := by
  rw [idxB_eq hc]
  split
  · rename_i h; exact h.symm
  · simp
theorem cntB_eq {c : Nat} (hc : c < 256) : ∀ (l : List UInt8), cntB c l = Lib.countByte l (Int.ofNat c).toNat.toUInt8
  | [] => rfl
  | x :: l => by
    have e : cntB c (x :: l) = bif Nat.beq x.toNat c then Nat.succ (cntB c l) else cntB c l := rfl
    have h := cntB_eq hc l
    unfold Lib.countByte at h ⊢
    rw [e, List.count_cons, byte_eq hc, h]
    cases Nat.beq x.toNat c <;> simp
section
variable {P : Program} {γ γ' : Gh} {h h' : HS} {w w' : World} {T : FT} {c : CV} {X : XI}
theorem extF_ok (hX : XOk P X) {fid : Nat} {fn : Func} (_hf : P.funcs[fid]? = some fn) {args : List CV} {vs : List Value} (V : Inv γ h w) (ha : srs γ args vs) (hc : extF X fid h args = .ok c h') :
    ∃ v, (callFunc fid vs.toArray).run P w = .ok (.value v) w ∧ After γ h w c h' v w ∧ ∃ s, vs.head? = some (.string s) := by
  unfold extF at hc
  split at hc
  · rename_i l k
    match vs, ha with
    | [v1, v2], ha =>
      obtain ⟨h1, h2, _⟩ := ha
      obtain rfl := h1.s
      obtain rfl := h2.i
      cases hk : Nat.blt k 256 with
      | false => rw [hk] at hc; cases hc
      | true =>
        rw [hk] at hc
        simp only [cond_true] at hc
        have hlt : k < 256 := by rwa [Nat.blt_eq] at hk
        cases hb : Nat.beq fid X.ib with
        | true =>
          rw [hb] at hc
          simp only [cond_true, Rs.ok.injEq] at hc
          obtain ⟨rfl, rfl⟩ := hc
          obtain rfl := Nat.eq_of_beq_eq_true hb
          obtain ⟨fn, g1, g2, g3, g4, g5⟩ := hX.1
          refine ⟨_, by rw [run_callFunc_extern g1 g2 g3 g4 g5, Lib.run_indexByteString]; rfl, ⟨γ, Go1.refl _ _ _, V, ?_⟩, _, rfl⟩
          rw [idxB0 hlt]; rfl
        | false =>
          rw [hb] at hc
          simp only [cond_false] at hc
          cases hb2 : Nat.beq fid X.cs with
          | true =>
            rw [hb2] at hc
            simp only [cond_true, Rs.ok.injEq] at hc
            obtain ⟨rfl, rfl⟩ := hc
            obtain rfl := Nat.eq_of_beq_eq_true hb2
            obtain ⟨fn, g1, g2, g3, g4, g5⟩ := hX.2.1
            refine ⟨_, by rw [run_callFunc_extern g1 g2 g3 g4 g5, Lib.run_countString]; rfl, ⟨γ, Go1.refl _ _ _, V, ?_⟩, _, rfl⟩
            rw [cntB_eq hlt]; rfl
          | false => rw [hb2] at hc; cases hc
    | [], ha => exact ha.elim
    | [_], ha => exact ha.2.elim
    | _ :: _ :: _ :: _, ha => exact ha.2.2.elim
  · cases hc
theorem rdL_ints {ρ : View} {k : IntKind} : ∀ (xs : List Int), rdL (eI k) ρ xs (xs.map (.int k))
  | [] => rfl
  | x :: xs => ⟨[.int k x], xs.map (.int k), rfl, rfl, rdL_ints xs⟩
/-- slices.IndexFunc at one blow -/
theorem ix_ok (hX : IxC P X) {args : List CV} {vs : List Value} {i : Int} (V : Inv γ h w) (ha : srs γ args vs) (hc : natI X h args = some i) : Calls P X.ix vs.toArray w (Rets (After γ h w (.i .i64 i) h)) := by
  unfold natI at hc
  split at hc
  · rename_i id o len es c kn g q z
    match vs, ha with
    | [v1, v2], ha =>
      obtain ⟨h1, h2, _⟩ := ha
      cases hq : (Nat.beq g X.pr && Nat.beq es 1 && Nat.ble len 1048576 && (bif kn then Nat.ble len c else true)) with
      | false => rw [hq] at hc; cases hc
      | true =>
        rw [hq] at hc
        simp only [cond_true] at hc
        simp only [Bool.and_eq_true] at hq
        obtain ⟨⟨⟨q1, q2⟩, q3⟩, q4⟩ := hq
        obtain rfl := Nat.eq_of_beq_eq_true q1
        obtain rfl := Nat.eq_of_beq_eq_true q2
        have hlen := Nat.le_of_ble_eq_true q3
        obtain ⟨b, hb, rfl, hkn⟩ := h1.sl
        have hv2 := h2.get rfl
        unfold natJ at hc
        split at hc
        · rename_i n hm
          split at hc
          · rename_i l hl
            split at hc
            · rename_i xs hxs
              obtain rfl := Option.some.inj hc
              obtain ⟨b1, cs, r1, r2, r3, r4⟩ := rdO_ok V hl
              obtain ⟨b2, cs2, s1, s2, s3, s4⟩ := rdO_ok V hm
              rw [hb] at r1
              obtain rfl := Option.some.inj r1
              have e1 := (intsC_val (γ := γ) hxs).symm.trans r2
              obtain rfl := Option.some.inj e1
              simp only [vals, val] at s2
              obtain rfl := Option.some.inj s2
              simp only [val, vals, s1, Option.some.injEq] at hv2
              subst hv2
              have hxl : xs.length = len := by simpa using r3
              have hrd : RdSl (hv w) (eI .i64) (.slice (some ⟨b.1, o, none⟩) len (bif kn then c else b.2 / 1)) xs := by
                refine .inr ⟨b.1, o, _, xs.map (.int .i64), by rw [hxl], ?_, rdL_ints xs, r4⟩
                cases kn with
                | true => simp only [cond_true] at q4 ⊢; rw [hxl]; exact Nat.le_of_ble_eq_true q4
                | false => simp only [cond_false]; rw [hxl]; exact hkn rfl
              refine (hX hrd (by omega) s4).mono fun e w' he => ?_
              obtain ⟨u, rfl, rfl, hbel⟩ := he
              refine ⟨_, rfl, γ, ⟨hbel.os, hbel.tape, hbel.output, hbel.size, Gh.le_refl _, Nat.le_refl _, fun b hb _ => hbel.block b hb, fun _ h => .inl h, fun _ h => .inl h, fun _ _ h => .inl h⟩, ⟨V.dom, V.glob, V.inj, fun k => ?_⟩, rfl⟩
              by_cases hsm : some? (hget h k) = true
              · exact (V.rel k).up (Gh.le_refl _) (fun b' m hb' => hbel.block b' (V.lt ⟨k, m, hb', hsm⟩))
              · have : hget h k = .no := by cases hh : hget h k <;> simp_all [some?]
                rw [this]; trivial
            · cases hc
          · cases hc
        · cases hc
    | [], ha => exact ha.elim
    | [_], ha => exact ha.2.elim
    | _ :: _ :: _ :: _, ha => exact ha.2.2.elim
  · cases hc
def RT (P : Program) (w : World) (tm : Array Value) : List ResultVar → List Value → Prop
  | [], [] => True
  | .tmp t :: r, v :: vs => tm.getD t undef = v ∧ RT P w tm r vs
  | .cell a T :: r, v :: vs => (∃ ad, tm.getD a undef = .pointer (some ad) ∧ (loadVar T ad).run P w = .ok v w) ∧ RT P w tm r vs
  | _, _ => False
theorem results_rt {fn : Func} {tm : Array Value} {vs : List Value} (hv : RT P w tm fn.results.toList vs) : (results fn tm).run P w = .ok (packR vs) w := by
  have key : ∀ (f : ResultVar → Sem Value), (∀ t, f (.tmp t) = pure (tm.getD t undef)) → (∀ ad t, f (.cell ad t) = do loadVar t (← asAddr (tm.getD ad undef))) → ∀ (rs : List ResultVar) (vs : List Value), RT P w tm rs vs →
      ∀ acc : List Value, (rs.foldlM (m := Sem) (fun (acc : Array Value) r => do acc.push <$> f r) acc.toArray).run P w = .ok (acc ++ vs).toArray w := by
    intro f hf1 hf2 rs
    induction rs with
    | nil => intro vs h acc; cases vs with | nil => simp | cons v vs => cases h
    | cons r rs ih =>
      intro vs h acc
      cases vs with
      | nil => cases r <;> cases h
      | cons v vs =>
        cases r with
        | tmp t =>
          have h3 := ih vs h.2 (acc ++ [v])
          have h4 : tm.getD t undef = v := h.1
          simp only [List.foldlM_cons, hf1, h4]
          simp at h3 ⊢
          exact h3
        | cell ad t =>
          obtain ⟨⟨p, hp, hl⟩, h2⟩ := h
          have h3 := ih vs h2 (acc ++ [v])
          simp only [List.foldlM_cons, hf2, hp]
          simp [asAddr, hl] at h3 ⊢
          exact h3
  have hm : ∀ (f : ResultVar → Sem Value), (∀ t, f (.tmp t) = pure (tm.getD t undef)) → (∀ ad t, f (.cell ad t) = do loadVar t (← asAddr (tm.getD ad undef))) → (fn.results.mapM f).run P w = .ok vs.toArray w := by
    intro f h1 h2
    rw [Array.mapM_eq_foldlM, ← Array.foldlM_toList]
    simpa using key f h1 h2 fn.results.toList vs hv []
  unfold results
  rw [Sem.run_bind, hm _ (fun _ => rfl) (fun _ _ => rfl)]
  simp only [Result.andThen_ok]
  clear key hm hv
  match vs with
  | [] => simp [packR]
  | [v] => simp [packR]
  | v :: u :: r => simp [packR]
theorem anyU_cons {c : CV} {r : List CV} (hh : anyU (c :: r) = false) : isU c = false ∧ anyU r = false := by
  unfold anyU at hh
  cases hc : isU c with
  | true => rw [hc] at hh; cases hh
  | false => rw [hc] at hh; exact ⟨rfl, hh⟩
theorem resK_ok {tm : Array Value} (V : Inv γ h w) (hs : ∀ k, SR γ (fget T k) (tm.getD k undef)) : ∀ (rs : List ResultVar), anyU ((resK P rs).f T h) = false → ∃ vs, vals γ ((resK P rs).f T h) = some vs ∧ RT P w tm rs vs
  | [], _ => ⟨[], rfl, trivial⟩
  | .tmp t :: rs, hu => by
    have e : (resK P (.tmp t :: rs)).f T h = fget T t :: (resK P rs).f T h := rfl
    rw [e] at hu ⊢
    obtain ⟨h1, h2⟩ := anyU_cons hu
    obtain ⟨vs, h3, h4⟩ := resK_ok V hs rs h2
    exact ⟨tm.getD t undef :: vs, by simp [vals, (hs t).get h1, h3], rfl, h4⟩
  | .cell ad t :: rs, hu => by
    cases hI : tyI P t with
    | none =>
      have e : (resK P (.cell ad t :: rs)).f T h = [.u] := by unfold resK; simp only [hI]
      rw [e] at hu
      cases hu
    | some I =>
      have e : (resK P (.cell ad t :: rs)).f T h = ldP I h (fget T ad) :: (resK P rs).f T h := by
        conv => lhs; unfold resK
        simp only [hI]
        rfl
      rw [e] at hu ⊢
      obtain ⟨h1, h2⟩ := anyU_cons hu
      obtain ⟨vs, h3, h4⟩ := resK_ok V hs rs h2
      obtain ⟨v, h5, h6⟩ := ldP_ok (vx := tm.getD ad undef) V hI rfl h1 (hs ad)
      refine ⟨v :: vs, by simp [vals, h6, h3], ?_, h4⟩
      have hp : ∃ id o, fget T ad = .p id o := by
        cases hq : fget T ad with
        | p id o => exact ⟨id, o, rfl⟩
        | _ => rw [hq] at h1; cases h1
      obtain ⟨id, o, hp⟩ := hp
      have hsr := hs ad
      rw [hp] at hsr
      obtain ⟨b, _, hb⟩ := hsr.p
      exact ⟨_, hb, by rw [hb] at h5; simpa [Instr.loadAt, Instr.sureAddr] using h5⟩
theorem pack_ok {l : List CV} {vs : List Value} (hv : vals γ l = some vs) : val γ (packC l) = some (packR vs) := by
  match l, vs, vals_len hv with
  | [], [], _ => simp [packC, packR, val, vals]
  | [c], [v], _ =>
    obtain ⟨v', us, h1, h2, h3⟩ := vals_cons hv
    simp at h3
    simp [packC, packR, h1, h3.1]
  | c :: d :: r, v :: u :: s, _ => simp [packC, packR, val, hv]
  | [], _ :: _, h => simp at h
  | [_], [], h => simp at h
  | [_], _ :: _ :: _, h => simp at h
  | _ :: _ :: _, [], h => simp at h
  | _ :: _ :: _, [_], h => simp at h
end
end Go.Cr
namespace Go.Cr
open Go Go.Eng
section
variable {P : Program} {B : Base} {γ γ' : Gh} {h h' : HS} {w w' w1 : World} {T T' : FT} {c : CV} {X : XI} {rc : RC} {n : Nat} {ds : List Nat} {a : Act}
theorem Go1.off (G : Go1 γ h w γ' h' w1) {D : Nat} (hD : w.heap.size ≤ D) (o : Obj) : Go1 γ h w γ' h' (w1.putObj D o) :=
  ⟨G.os, G.tape, G.out, by rw [World.putObj_size]; exact G.size, G.le, G.nx, fun b hb hn => (World.putObj_heap_other (by omega)).trans (G.pres b hb hn), G.own, G.used, G.gnew⟩
theorem leaves_ok {fn : Func} {tm : Array Value} (hs : ∀ k, SR γ' (fget T k) (tm.getD k undef)) (hu : anyU ((resK P fn.results.toList).f T h') = false) :
    ∀ (ds : List Nat) {w1 : World}, Go1 γ h w γ' h' w1 → Inv γ' h' w1 → (∀ D ∈ ds, hv w1 D = some (.deferred (some [])) ∧ ¬ Used γ' h' D ∧ w.heap.size ≤ D) → ds.Nodup →
      LeavesInM Fence.wide 0 P fn tm (Rets (After γ h w (packC ((resK P fn.results.toList).f T h')) h')) (marks ds) .returning w1
  | [], w1, G, V, _, _ => by
    obtain ⟨vs, h1, h2⟩ := resK_ok V hs fn.results.toList hu
    exact ⟨_, results_rt h2, _, rfl, γ', G, V, pack_ok h1⟩
  | D :: ds, w1, G, V, hd, hn => by
    obtain ⟨h1, h2, h3⟩ := hd D (by simp)
    have hnd := List.nodup_cons.1 hn
    refine ⟨by simp, .inl ⟨_, _, rfl, run_takeDeferred h1, ?_⟩⟩
    refine leaves_ok hs hu ds (G.off h3 _) (V.keep fun b hb => World.putObj_heap_other (fun e => h2 (e ▸ hb))) (fun E hE => ?_) hnd.2
    obtain ⟨g1, g2, g3⟩ := hd E (by simp [hE])
    exact ⟨(World.putObj_heap_other (fun e => hnd.1 (by rw [← e]; exact hE))).trans g1, g2, g3⟩
theorem args_getD {vs : List Value} {m k : Nat} : (vs.toArray ++ Array.replicate m undef).getD k undef = vs.getD k undef := by
  by_cases hk : k < vs.length
  · simp [Array.getElem?_append, hk]
  · by_cases h2 : k - vs.length < m
    · simp [Array.getElem?_append, hk, h2]
    · simp [Array.getElem?_append, hk, h2]
theorem fn_ok (hrc : RcOk P rc) (hm : P.follows .mixedOrders = true) {fid : Nat} {fn : Func} {cd : Code} (hf : P.funcs[fid]? = some fn) (hb : fn.body = some cd) (hname : (fn.name == "runtime.NumGoroutine") = false) (V : Inv γ h w)
    {args : List CV} {vs : List Value} (ha : srs γ args vs) (hc : (fnK P X fid fn).f rc args h = .ok c h') : Calls P fid vs.toArray w (Rets (After γ h w c h')) := by
  unfold fnK at hc
  simp only [hb, hname, cond_false] at hc
  cases hq : Nat.ble (lenF args) fn.ntmps with
  | false => rw [hq] at hc; cases hc
  | true =>
    rw [hq] at hc
    simp only [cond_true] at hc
    have hle := Nat.le_of_ble_eq_true hq
    rw [lenF_eq] at hle
    have hlen := ha.len
    have S : St ⟨γ, h, w⟩ γ h w (wrC args 0 .nil) fn.ntmps [] { tmps := vs.toArray ++ Array.replicate (fn.ntmps - vs.toArray.size) undef, defers := [] } :=
      ⟨Go1.refl _ _ _, V, by simp; omega, rfl, fun k => by
        rw [args_getD, wrC_get]
        split
        · rw [Nat.sub_zero]; exact ha.get
        · exact .inl (gK_nil _), fun D hD => (nomatch hD), List.nodup_nil⟩
    have fin : ∀ {T1 : FT} {h1 : HS} {γ1 : Gh} {w1 : World} {ds : List Nat} {a1 : Act}, finC ((resK P fn.results.toList).f T1 h1) h1 = .ok c h' → St ⟨γ, h, w⟩ γ1 h1 w1 T1 fn.ntmps ds a1 →
        LeavesInM Fence.wide 0 P fn a1.tmps (Rets (After γ h w c h')) a1.defers .returning w1 := by
      intro T1 h1 γ1 w1 ds a1 hfin S1
      unfold finC at hfin
      cases hu : anyU ((resK P fn.results.toList).f T1 h1) with
      | true => rw [hu] at hfin; cases hfin
      | false =>
        rw [hu] at hfin
        simp only [cond_false, Rs.ok.injEq] at hfin
        obtain ⟨rfl, rfl⟩ := hfin
        rw [S1.defers]
        exact leaves_ok S1.slots hu ds S1.go S1.inv S1.dss S1.nod
    refine (callsIn_wide (n := 0)).1 (callsIn_of_wp_marks hf hb trivial ?_)
    unfold retO at hc
    split at hc
    · rename_i T1 h1 hx
      exact code_ok hrc hm cd true none (fun _ => rfl) S hx (Q := bodyPostM Fence.wide 0 P fn (Rets (After γ h w c h'))) fun γ1 w1 ds a1 S1 => fin hc S1
    · rename_i T1 h1 hx
      exact code_ok hrc hm cd true none (fun _ => rfl) S hx (Q := bodyPostM Fence.wide 0 P fn (Rets (After γ h w c h'))) fun γ1 w1 ds a1 S1 => fin hc S1
    · cases hc
theorem putPs_ok {n : Nat} : ∀ {ps : List Nat} {args : List CV} {vs : List Value} {T T1 : FT} {tm : Array Value}, srs γ args vs → tm.size = n → (∀ k, SR γ (fget T k) (tm.getD k undef)) → putPs n ps args T = some T1 →
    vs.length = ps.length ∧ ((ps.zip vs).foldl (fun (t : Array Value) (p, v) => t.setIfInBounds p v) tm).size = n ∧ ∀ k, SR γ (fget T1 k) (((ps.zip vs).foldl (fun (t : Array Value) (p, v) => t.setIfInBounds p v) tm).getD k undef)
  | [], [], [], T, T1, tm, _, hn, hs, hc => by
    have hc' : some T = some T1 := hc
    obtain rfl := Option.some.inj hc'
    exact ⟨rfl, hn, hs⟩
  | [], _ :: _, _, _, _, _, _, _, _, hc => by
    have hc' : (none : Option FT) = some _ := hc
    cases hc'
  | [], [], _ :: _, _, _, _, ha, _, _, _ => ha.elim
  | _ :: _, [], _, _, _, _, _, _, _, hc => by
    have hc' : (none : Option FT) = some _ := hc
    cases hc'
  | _ :: _, _ :: _, [], _, _, _, ha, _, _, _ => ha.elim
  | p :: ps, a :: args, v :: vs, T, T1, tm, ha, hn, hs, hc => by
    have hc' : (bif Nat.blt p n then putPs n ps args (fput T p a) else none) = some T1 := hc
    cases hb : Nat.blt p n with
    | false => rw [hb] at hc'; cases hc'
    | true =>
      rw [hb] at hc'
      simp only [cond_true] at hc'
      have hlt : p < n := by rwa [Nat.blt_eq] at hb
      have := putPs_ok (tm := tm.setIfInBounds p v) ha.2 (by simpa using hn) (fun k => by
        have e : fget (fput T p a) k = if k = p then a else fget T k := tget_tput _ _ _ _ _
        rw [e]
        split
        · rename_i e; subst e
          have : (tm.setIfInBounds k v).getD k undef = v := by simp [hn, hlt]
          rw [this]; exact ha.1
        · rename_i e
          have : (tm.setIfInBounds p v).getD k undef = tm.getD k undef := by
            simp only [Array.getD_eq_getD_getElem?]
            rw [Array.getElem?_setIfInBounds_ne (Ne.symm e)]
          rw [this]; exact hs k) hc'
      simpa using this
theorem St.go' (S : St B γ h w T n ds a) (hA : Go1 γ h w γ' h' w') (V : Inv γ' h' w') : St B γ' h' w' T n ds a := S.step none hA V (v := undef) (.inl rfl)
theorem yield_ok (hrc : RcOk P rc) (hm : P.follows .mixedOrders = true) {id b m : Nat} (hk : γ id = some (b, m)) (V : Inv γ h w) {args : List CV} {vs : List Value} (ha : srs γ args vs) (hc : yldO P rc id args h (hget h id) = .ok c h') :
    YieldAt Fence.wide 0 P b vs.toArray w (Rets (After γ h w c h')) := by
  have hrel := V.rel id
  unfold yldO at hc
  split at hc
  · rename_i st pd n T ps assign body hob
    rw [hob] at hrel
    obtain ⟨b', n0, fn, tmps, D, k1, k2, k3, k4⟩ := hrel
    rw [hk] at k1
    obtain ⟨rfl, rfl⟩ := Prod.mk.inj (Option.some.inj k1)
    split at hc
    · rename_i T1 hT1
      obtain ⟨p1, p2, p3⟩ := putPs_ok ha k3 k4 hT1
      refine ⟨fn, _, assign, body, run_yield k2 (by simp [p1]), roundIn_of_wpIn trivial ?_⟩
      have e : (Array.zip ps.toArray vs.toArray).foldl (fun (t : Array Value) (p, v) => t.setIfInBounds p v) tmps = (ps.zip vs).foldl (fun (t : Array Value) (p, v) => t.setIfInBounds p v) tmps := by simp
      have S : St ⟨γ, h, w⟩ γ h w T1 n [] { tmps := (Array.zip ps.toArray vs.toArray).foldl (fun (t : Array Value) (p, v) => t.setIfInBounds p v) tmps, defers := [] } := by
        rw [e]
        exact ⟨Go1.refl _ _ _, V, p2, rfl, p3, fun D hD => (nomatch hD), List.nodup_nil⟩
      unfold assO at hc
      split at hc
      · rename_i T2 h2 hx
        refine code_ok hrc hm assign false (some b) (fun hh => by cases hh) S hx fun γ2 w2 ds2 a2 S2 => ?_
        unfold begO at hc
        split at hc
        · rename_i st2 pd2 n2 T2' ps2 as2 bd2 hob2
          cases hst : Nat.beq st2 0 with
          | false => rw [hst] at hc; cases hc
          | true =>
            rw [hst] at hc
            simp only [cond_true] at hc
            obtain rfl := Nat.eq_of_beq_eq_true hst
            have hrel2 := S2.inv.rel id
            rw [hob2] at hrel2
            obtain ⟨b2, m2, fn2, tm2, D2, q1, q2, q3, q4⟩ := hrel2
            have hk2 := S2.go.le _ _ hk
            rw [q1] at hk2
            obtain ⟨rfl, rfl⟩ := Prod.mk.inj (Option.some.inj hk2)
            have hlt2 := lt_of_hv q2
            obtain ⟨V3, G3⟩ := S2.inv.put (w1 := w2.putObj b2 (.loop ⟨.busy, pd2, fn2, tm2, ps2.toArray, as2, bd2, D2⟩)) (o := .l 1 pd2 n2 T2' ps2 as2 bd2) q1 (by rw [hob2]; rfl) rfl (Tp.rfl _) rfl (by simp) (fun b' hb' => World.putObj_heap_other hb')
              ⟨b2, m2, fn2, tm2, D2, q1, World.putObj_heap_same hlt2, q3, q4⟩
            have S3 := S2.go' G3 V3
            refine ⟨_, run_beginRound q2 rfl, ?_⟩
            unfold bodO at hc
            split at hc
            · rename_i e3 T4 h4 hy
              refine code_ok hrc hm body false (some b2) (fun hh => by cases hh) S3 hy fun γ4 w4 ds4 a4 S4 => ?_
              unfold endO at hc
              split at hc
              · rename_i st4 pd4 n4 T4' ps4 as4 bd4 hob4
                have hrel4 := S4.inv.rel id
                rw [hob4] at hrel4
                obtain ⟨b4, m4, fn4, tm4, D4, r1, r2, r3, r4⟩ := hrel4
                have hk4 := S4.go.le _ _ hk
                rw [r1] at hk4
                obtain ⟨rfl, rfl⟩ := Prod.mk.inj (Option.some.inj hk4)
                have hlt4 := lt_of_hv r2
                have put : ∀ (s : Nat) (p : Option Code), Inv γ4 (hput h4 id (.l s p n4 T4' ps4 as4 bd4)) (w4.putObj b4 (.loop ⟨lst s, p, fn4, tm4, ps4.toArray, as4, bd4, D4⟩)) ∧ Go1 γ4 h4 w4 γ4 (hput h4 id (.l s p n4 T4' ps4 as4 bd4)) (w4.putObj b4 (.loop ⟨lst s, p, fn4, tm4, ps4.toArray, as4, bd4, D4⟩)) := fun s p =>
                  S4.inv.put (w1 := w4.putObj b4 (.loop ⟨lst s, p, fn4, tm4, ps4.toArray, as4, bd4, D4⟩)) (o := .l s p n4 T4' ps4 as4 bd4) r1 (by rw [hob4]; rfl) rfl (Tp.rfl _) rfl (by simp) (fun b' hb' => World.putObj_heap_other hb') ⟨b4, m4, fn4, tm4, D4, r1, World.putObj_heap_same hlt4, r3, r4⟩
                split at hc
                · simp only [Rs.ok.injEq] at hc
                  obtain ⟨rfl, rfl⟩ := hc
                  exact ⟨_, _, run_endRound none r2, _, rfl, γ4, S4.go.trans (put 0 none).2, (put 0 none).1, rfl⟩
                · simp only [Rs.ok.injEq] at hc
                  obtain ⟨rfl, rfl⟩ := hc
                  exact ⟨_, _, run_endRound (some .ret) r2, _, rfl, γ4, S4.go.trans (put 2 (some .ret)).2, (put 2 (some .ret)).1, rfl⟩
                · rename_i i
                  simp only [Rs.ok.injEq] at hc
                  obtain ⟨rfl, rfl⟩ := hc
                  exact ⟨_, _, run_endRound (some (.exit i)) r2, _, rfl, γ4, S4.go.trans (put 2 (some (.exit i))).2, (put 2 (some (.exit i))).1, rfl⟩
              · cases hc
            · cases hc
        · cases hc
      · cases hc
    · cases hc
  · cases hc
theorem step_ok (hX : XOk P X) (hm : P.follows .mixedOrders = true) (hrc : RcOk P rc) : RcOk P (stepF P X rc) := by
  intro γ h w fv args c h' fV vs hc V hf ha
  unfold stepF at hc
  split at hc
  · rename_i fid caps
    have hfv := hf.get rfl
    simp only [val] at hfv
    split at hfv
    · rename_i cs hcs
      obtain rfl := Option.some.inj hfv
      split at hc
      · rename_i fn hfn
        have hall : srs γ (args ++ caps) (vs ++ cs) := ha.app (srs.of_vals hcs)
        have plain : (fnK P X fid fn).f rc (args ++ caps) h = .ok c h' → CallW P (.func (.func fid) #[] cs.toArray) vs w (After γ h w c h') := by
          intro hc
          cases hb : fn.body with
          | some cd =>
            cases hname : (fn.name == "runtime.NumGoroutine") with
            | true =>
              unfold fnK at hc
              simp only [hb, hname, cond_true] at hc
              cases hc
            | false =>
              have := fn_ok hrc hm hfn hb hname V hall hc
              exact .inl ⟨fid, cs.toArray, rfl, ⟨fn, cd, hfn, hname, hb⟩, by simpa using this⟩
          | none =>
            unfold fnK at hc
            simp only [hb] at hc
            obtain ⟨v, h1, h2, s, h3⟩ := extF_ok hX hfn V hall hc
            exact .inr (.inl ⟨fid, cs.toArray, v, w, rfl, by simpa using h1, h2, s, by simpa using h3⟩)
        cases hix : Nat.beq fid X.ix with
        | false => rw [hix] at hc; exact plain hc
        | true =>
          rw [hix] at hc
          simp only [cond_true] at hc
          unfold ixO at hc
          split at hc
          · rename_i i hn
            simp only [Rs.ok.injEq] at hc
            obtain ⟨rfl, rfl⟩ := hc
            obtain rfl := Nat.eq_of_beq_eq_true hix
            rcases hX.2.2 with hno | ⟨hfn', hix'⟩
            · rw [hno] at hfn; cases hfn
            · have := ix_ok hix' V hall hn
              exact .inl ⟨X.ix, cs.toArray, rfl, hfn', by simpa using this⟩
          · exact plain hc
      · cases hc
    · cases hfv
  · rename_i id
    have hfv := hf.get rfl
    simp only [val] at hfv
    split at hfv
    · rename_i b hb
      obtain rfl := Option.some.inj hfv
      exact .inr (.inr ⟨b.1, rfl, yield_ok hrc hm (m := b.2) hb V ha hc⟩)
    · cases hfv
  · cases hc
theorem run_ok (hX : XOk P X) (hm : P.follows .mixedOrders = true) : ∀ n, RcOk P (run P X n)
  | 0 => by
    intro hc V hf ha
    have hc' : Rs.no = .ok _ _ := hc
    cases hc'
  | n + 1 => step_ok hX hm (run_ok hX hm n)
/-- a closed call that the runner ends with 'true' -/
theorem run_true (hX : XOk P X) (hm : P.follows .mixedOrders = true) {n fid : Nat} (hr : isTrue (run P X n (.f fid []) [] h) = true) (V : Inv γ h w) :
    Calls P fid #[] w (Rets fun v w' => v = .bool true ∧ ∃ γ' h', Go1 γ h w γ' h' w') := by
  unfold isTrue at hr
  split at hr
  · rename_i b h' hrun
    subst hr
    rcases run_ok hX hm n (fV := .func (.func fid) #[] #[]) (vs := []) hrun V (.inr (by simp [val, vals])) trivial with ⟨f, caps, hf, _, hcall⟩ | ⟨f, caps, v, w', hf, _, _, s, hs⟩ | ⟨l, hf, _⟩
    · simp only [Value.func.injEq, Fn.func.injEq, true_and] at hf
      obtain ⟨rfl, rfl⟩ := hf
      refine (show Calls P fid #[] w _ by simpa using hcall).mono fun e w' he => ?_
      obtain ⟨v, rfl, γ', G, _, hv⟩ := he
      exact ⟨v, rfl, by simpa [val] using hv.symm, γ', _, G⟩
    · simp only [Value.func.injEq, Fn.func.injEq, true_and] at hf
      obtain ⟨rfl, rfl⟩ := hf
      simp at hs
    · simp only [Value.func.injEq, reduceCtorEq, false_and] at hf
  · cases hr
end
end Go.Cr
namespace Go.Cr
open Go Go.Eng
/-- a call without arguments that says true; D: what it asks of memory -/
def RunC (P : Program) (f : FuncId) (D : View → Prop) : Prop := HasFn P f ∧ ∀ (w : World), D (hv w) → Calls P f #[] w (Rets fun v w' => v = .bool true ∧ Bel w w')
theorem c_run {P : Program} {f : FuncId} {D : View → Prop} {C : Cx} {w : World} {ρ : View} {hs : List Hl} (h : RunC P f D) (hD : ∀ {ρ' : View}, View.le ρ ρ' → D ρ') (H : Hp C w ρ hs) :
    Calls P f (([] : List Value).toArray) w (Rets fun v w' => v = .bool true ∧ Hp C w' ρ hs) := by
  refine (h.2 w (hD H.view)).mono fun e w' he => ?_
  obtain ⟨v, rfl, h1, hb⟩ := he
  have hlt : ∀ b ∈ fps hs, b < w.heap.size := H.lt
  have hvo : ∀ b, b < w.heap.size → hv w' b = hv w b := hb.block
  refine ⟨v, rfl, h1, hb.os.trans H.os, hb.tape.trans H.tape, hb.output.trans H.out, Nat.le_trans H.size hb.size, fun b h1 h2 => (hb.block b (Nat.lt_of_lt_of_le h1 H.size)).trans (H.old b h1 h2), H.fresh, fun b h1 => Nat.lt_of_lt_of_le (hlt b h1) hb.size, H.nodup, fun b o h1 => ?_, H.apart, fun h hh => h.loc (fun b h1 => (hvo b (hlt b (mem_fps.2 ⟨h, hh, h1⟩))).symm) (H.all h hh)⟩
  have h2 := H.view b o h1
  rw [hvo b (lt_of_hv h2)]
  exact h2
def γ0 (n : Nat) : Gh := fun g => if g < 1000 then some (g, n) else none
theorem hget0 (k : Nat) : hget (⟨.nil, 1000⟩ : HS) k = .no := gK_nil _
theorem inv0 {w : World} : Inv (γ0 0) ⟨.nil, 1000⟩ w := by
  refine ⟨fun k x h => ?_, fun g hg => ⟨0, by simp [γ0, hg]⟩, fun k k' b n n' _ _ hl _ => ?_, fun k => ?_⟩
  · unfold γ0 at h
    show k < 1000
    split at h <;> simp_all
  · rw [hget0] at hl; cases hl
  · rw [hget0]; trivial
variable {P : Program} {X : XI}
theorem below_of {γ γ' : Gh} {h h' : HS} {w w' : World} (G : Go1 γ h w γ' h' w') (hn : ∀ k, live (hget h k) = false) : Bel w w' :=
  ⟨G.os, G.tape, G.out, G.size, fun b hb => G.pres b hb (fun ⟨k, n, _, hk⟩ => by rw [hn k] at hk; cases hk)⟩
theorem runC0 (hX : XOk P X) (hm : P.follows .mixedOrders = true) {n f : Nat} {D : View → Prop} (hr : isTrue (run P X n (.f f []) [] ⟨.nil, 1000⟩) = true) (hf : HasFn P f) : RunC P f D :=
  ⟨hf, fun w _ => (run_true hX hm hr (inv0 (w := w))).mono fun e w' he => by
    obtain ⟨v, rfl, h1, γ', h', G⟩ := he
    exact ⟨v, rfl, h1, below_of G fun k => by rw [show hget (⟨.nil, 1000⟩ : HS) k = .no from gK_nil _]; rfl⟩⟩
end Go.Cr
