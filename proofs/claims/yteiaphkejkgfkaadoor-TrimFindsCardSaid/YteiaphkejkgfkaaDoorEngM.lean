/-
  MY ENGINE, part M: the frame: what the arguments of a law read as, in the view of the first world; what the last world owes.
-/
import Derived.Test.YteiaphkejkgfkaaDoorEngL
import Derived.Test.YteiaphkejkgfkaaDoorRows
import Derived.Carry
import Derived.Deep.Slices
import Derived.Lib.SmallJoins
import Derived.Lib.LaidTab
import Derived.OpenShut
namespace Go.Eng
open Go Go.Proofs.YteiaphkejkgfkaaDoor
/-- what reads at type t reads, in the view of its world, as a value of e that satisfies Q, of bulk at least m -/
structure Reads {α : Type} (P : Program) (t : TypeId) (e : Enc α) (Q : α → Prop) (m : α → Nat) : Prop where
  n : P.cellsOf t = e.n
  rd : ∀ {H : Type} {enc : TypeId × Value → H} {w : World} {sp : Nat → Bool} {held : Bool} {fuel : Nat} {cs : List Value} {x : DataW H × List MemPlace}, DataW.trod enc P w 0 sp held fuel t cs = some x →
    ∃ a, e.rd (hv w) a cs ∧ Q a ∧ m a ≤ Rows.uptoBulk x.1
section
variable {P : Program} {t : TypeId}
def InK (k : IntKind) (x : Int) : Prop := k.min ≤ x ∧ x ≤ k.max
theorem Reads.int {k : IntKind} (ht : P.underlying t = some (.int k)) (hn : P.cellsOf t = 1) : Reads P t (eI k) (InK k) (fun _ => 1) :=
  ⟨hn, fun h => by
    obtain ⟨n, rfl, rfl, hw⟩ := DataW.trod_int ht h
    exact ⟨n, rfl, by simpa [Lit.wf, InK] using hw, by simp [Rows.uptoBulk]⟩⟩
theorem Reads.bool (ht : P.underlying t = some .bool) (hn : P.cellsOf t = 1) : Reads P t eB (fun _ => True) (fun _ => 1) :=
  ⟨hn, fun h => by
    obtain ⟨b, rfl, rfl⟩ := DataW.trod_bool ht h
    exact ⟨b, rfl, trivial, by simp [Rows.uptoBulk]⟩⟩
theorem Reads.str (ht : P.underlying t = some .string) (hn : P.cellsOf t = 1) : Reads P t eS (fun s => s.size ≤ maxLen) (fun s => s.size + 1) :=
  ⟨hn, fun h => by
    obtain ⟨s, rfl, rfl, hm⟩ := DataW.trod_string ht h
    refine ⟨s, rfl, hm, ?_⟩
    simp only [Rows.uptoBulk, Array.length_toList]
    exact Nat.le_refl _⟩
def sumOf {α : Type} (m : α → Nat) : List α → Nat
  | [] => 0
  | x :: l => m x + sumOf m l
theorem sumOf_app {α : Type} (m : α → Nat) : ∀ l r : List α, sumOf m (l ++ r) = sumOf m l + sumOf m r
  | [], r => by simp [sumOf]
  | x :: l, r => by simp [sumOf, sumOf_app m l r]; omega
theorem bulkAll_app {H : Type} : ∀ l r : List (DataW H), Rows.uptoBulkAll (l ++ r) = Rows.uptoBulkAll l + Rows.uptoBulkAll r
  | [], r => by simp [Rows.uptoBulkAll]
  | x :: l, r => by simp [Rows.uptoBulkAll, bulkAll_app l r]; omega
theorem cellsAt_of {w : World} {a : Addr} {n : Nat} {cs : List Value} (ha : a.spot = none) (h : w.cells? 0 a n = some cs) : cellsAt (hv w) a.block a.off cs := fun j u hj => by
  obtain ⟨_, hl, hc⟩ := World.cells?_some h
  have hlt := (List.getElem?_eq_some_iff.1 hj).1
  have := hc j (by omega)
  obtain ⟨b, o, s⟩ := a
  simp at ha; subst ha
  rw [Addr.add_none, hv_cell, hj] at this
  exact this
theorem cellsAt.app {ρ : View} {b o : Nat} {c1 c2 : List Value} (h1 : cellsAt ρ b o c1) (h2 : cellsAt ρ b (o + c1.length) c2) : cellsAt ρ b o (c1 ++ c2) := fun j u hj => by
  by_cases hlt : j < c1.length
  · rw [List.getElem?_append_left hlt] at hj; exact h1 j u hj
  · rw [List.getElem?_append_right (by omega)] at hj
    have := h2 _ u hj
    rwa [show o + c1.length + (j - c1.length) = o + j by omega] at this
theorem Reads.slice {α : Type} {e : TypeId} {en : Enc α} {Q : α → Prop} {m : α → Nat} (h : Reads P e en Q m) (ht : P.underlying t = some (.slice e)) (hn : P.cellsOf t = 1) (hp : 0 < en.n) :
    Reads P t (eL en) (fun l => l.length ≤ maxLen ∧ ∀ x ∈ l, Q x) (fun l => sumOf m l + 1) :=
  ⟨hn, fun {H enc w sp held fuel cs x} hx => by
    rcases Deep.open_slice ht hx with ⟨rfl, rfl⟩ | ⟨a, len, cap, M, n, D, Pl, rfl, _, hlc, hcm, hM, rfl, hel⟩
    · exact ⟨[], ⟨_, rfl, .inl ⟨none, 0, rfl, rfl⟩⟩, ⟨by simp, by simp⟩, by simp [sumOf, Rows.uptoBulk]⟩
    · have hle : len ≤ M := by rw [hM]; split <;> omega
      by_cases h0 : len = 0
      · subst h0
        exact ⟨[], ⟨_, rfl, .inl ⟨some a, cap, rfl, rfl⟩⟩, ⟨by simp, by simp⟩, by simp [sumOf, Rows.uptoBulk]⟩
      · have hsp : a.spot = none := by
          obtain ⟨cs', h1, _⟩ := hel 0 (by omega)
          obtain ⟨_, hl, hc⟩ := World.cells?_some h1
          have h2 := hc 0 (by rw [h.n]; exact hp)
          have hlt : 0 < cs'.length := by rw [hl, h.n]; exact hp
          rw [List.getElem?_eq_getElem hlt] at h2
          simp only [Nat.zero_mul] at h2
          have e0 : (a.add 0).add 0 = a := by simp [Addr.add]
          rw [e0] at h2
          unfold World.cell? at h2
          split at h2
          · split at h2
            · cases h2
            · rename_i hs; simpa using hs
          · cases h2
        have key : ∀ k, k ≤ len → ∃ (xs : List α) (cs : List Value), xs.length = k ∧ rdL en (hv w) xs cs ∧ cellsAt (hv w) a.block a.off cs ∧ (∀ x ∈ xs, Q x) ∧ sumOf m xs ≤ Rows.uptoBulkAll ((List.range k).map D) := by
          intro k
          induction k with
          | zero => intro _; exact ⟨[], [], rfl, rfl, fun j u hj => by simp at hj, by simp, by simp [sumOf]⟩
          | succ k ih =>
            intro hk
            obtain ⟨xs, cs, hl, hr, hat, hq, hb⟩ := ih (by omega)
            obtain ⟨cs', h1, h2⟩ := hel k (by omega)
            obtain ⟨y, hy1, hy2, hy3⟩ := h.rd h2
            have hlen : cs.length = k * en.n := by rw [hr.len, hl]
            refine ⟨xs ++ [y], cs ++ cs', by simp [hl], hr.app (rdL.single hy1), hat.app ?_, ?_, ?_⟩
            · obtain ⟨b, o, s⟩ := a
              simp at hsp; subst hsp
              rw [h.n, Addr.add_none] at h1
              rw [hlen]
              exact cellsAt_of rfl h1
            · intro x hx
              rcases List.mem_append.1 hx with hx | hx
              · exact hq x hx
              · simp at hx; subst hx; exact hy2
            · rw [sumOf_app, List.range_succ, List.map_append, bulkAll_app]
              simp only [sumOf, List.map_cons, List.map_nil, Rows.uptoBulkAll]
              simp only at hy3
              omega
        obtain ⟨xs, cs, hl, hr, hat, hq, hb⟩ := key len (Nat.le_refl _)
        obtain ⟨b, o, s⟩ := a
        simp at hsp; subst hsp
        refine ⟨xs, ⟨_, rfl, .inr ⟨b, o, cap, cs, by rw [hl], by omega, hr, hat⟩⟩, ⟨by omega, hq⟩, ?_⟩
        simp only [Rows.uptoBulk]
        omega⟩
theorem Reads.array {α : Type} {e : TypeId} {en : Enc α} {Q : α → Prop} {m : α → Nat} {N : Nat} (h : Reads P e en Q m) (ht : P.underlying t = some (.array N e)) (hn : P.cellsOf t = N * en.n) :
    Reads P t (eA N en) (fun l => l.length = N ∧ ∀ x ∈ l, Q x) (fun l => sumOf m l + 1) :=
  ⟨hn, fun {H enc w sp held fuel cs x} hx => by
    cases fuel with
    | zero => simp [DataW.trod] at hx
    | succ fuel =>
      unfold DataW.trod at hx
      rw [ht] at hx
      simp only at hx
      split at hx
      · rename_i hcl
        obtain ⟨xs, hmap, rfl⟩ := Option.map_eq_some_iff.1 hx
        have hxl : xs.length = N := by simpa using mapM_some_length hmap
        have key : ∀ k, k ≤ N → ∃ (l : List α), l.length = k ∧ rdL en (hv w) l (cs.take (k * en.n)) ∧ (∀ x ∈ l, Q x) ∧ sumOf m l ≤ Rows.uptoBulkAll ((xs.take k).map (·.1)) := by
          intro k
          induction k with
          | zero => intro _; exact ⟨[], rfl, by simp [rdL], by simp, by simp [sumOf]⟩
          | succ k ih =>
            intro hk
            obtain ⟨l, hl, hr, hq, hb⟩ := ih (by omega)
            have h2 := mapM_some_get hmap k k (by rw [List.getElem?_range (by omega)])
            obtain ⟨y, hy1, hy2, hy3⟩ := h.rd (h2.trans (List.getElem?_eq_getElem (by omega)))
            rw [h.n] at hy1
            refine ⟨l ++ [y], by simp [hl], ?_, ?_, ?_⟩
            · have := hr.app (rdL.single hy1)
              rw [Nat.add_mul, Nat.one_mul, List.take_add]
              exact this
            · intro x hx
              rcases List.mem_append.1 hx with hx | hx
              · exact hq x hx
              · simp at hx; subst hx; exact hy2
            · rw [sumOf_app, List.take_add_one, List.getElem?_eq_getElem (by omega), List.map_append, bulkAll_app]
              simp only [sumOf, Option.toList, List.map_cons, List.map_nil, Rows.uptoBulkAll]
              omega
        obtain ⟨l, hl, hr, hq, hb⟩ := key N (Nat.le_refl _)
        have e1 : cs.take (N * en.n) = cs := List.take_of_length_le (by omega)
        have e2 : xs.take N = xs := List.take_of_length_le (by omega)
        rw [e1] at hr
        rw [e2] at hb
        refine ⟨l, ⟨hl, hr⟩, ⟨hl, hq⟩, ?_⟩
        simp only [Rows.uptoBulk]
        omega
      · cases hx⟩
end
/-! ### The first world, and the last -/
theorem Hp.start (W : World) : Hp ⟨W, []⟩ W (hv W) [] where
  os := rfl
  tape := rfl
  out := rfl
  size := Nat.le_refl _
  old _ _ _ := rfl
  fresh _ h := by simp [fps] at h
  lt _ h := by simp [fps] at h
  nodup := by simp [fps]
  view := View.le_refl _
  apart _ h := by simp [fps] at h
  all _ h := by simp at h
theorem Hp.below {W w' : World} {ρ : View} {hs : List Hl} (H : Hp ⟨W, []⟩ w' ρ hs) : RowKit.Below W.heap.size W w' :=
  ⟨H.os, H.tape, H.out, H.size, fun b hb => H.old b hb (by simp)⟩
section
variable {H : Type} {enc : TypeId × Value → H} {P : Program}
theorem trodAll_stays (hl : laidOutB P = true) {W W' : World} (hb : RowKit.Below W.heap.size W W') {sp' : Nat → Bool} :
    ∀ {ts : List TypeId} {vs : List Value} {ds : List (DataW H)} {ps : List MemPlace}, (∀ t ∈ ts, P.readableRec t = true ∧ t < P.types.size) → DataW.TrodAll enc P W 0 (fun _ => true) true ts vs ds ps →
      (∀ p ∈ ps, p.block < W.heap.size) → (∀ p ∈ ps, sp' p.block = true) → DataW.TrodAll enc P W' 0 sp' true ts vs ds ps
  | [], _, _, _, _, h, _, _ => by
    obtain ⟨rfl, rfl, rfl⟩ := ChangeShapes.trodAll_nil h
    exact rfl
  | t :: ts, _, _, _, ht, h, h1, h2 => by
    obtain ⟨v, vs, d, ds, a, b, rfl, rfl, rfl, hd, hr⟩ := ChangeShapes.trodAll_cons h
    have hlt := ht t (by simp)
    exact ⟨a, b, WideElems.Trod_stays hl hlt.1 hlt.2 hd (fun x hx => hb.same (h1 x (by simp [hx]))) (fun x hx => h2 x (by simp [hx])),
      trodAll_stays hl hb (fun t ht' => ht t (by simp [ht'])) hr (fun x hx => h1 x (by simp [hx])) (fun x hx => h2 x (by simp [hx])), rfl⟩
/-- what a law owes: it answered true, and below the old heap's end nothing has turned -/
theorem post_law {f : Func} {s : ChangeSpec} {apart fresh handsOn again : Bool} {W W' : World} {args : Array Value} {ds gs : List (DataW H)} {before : List MemPlace} {tb : TypeId}
    (hl : laidOutB P = true) (hrd : ∀ t ∈ f.params.toList, P.readableRec t = true ∧ t < P.types.size) (hs : s.vars = []) (hfn : (s.fn H ds).results = [.lit (.bool true)] ∧ (s.fn H ds).args = ds ∧ (s.fn H ds).vars = [])
    (hr : f.resultTypes = #[tb]) (htb : P.underlying tb = some .bool) (hW : DataW.Whole enc P f.params.toList s.vars apart W args.toList ds gs before) (hb : RowKit.Below W.heap.size W W') :
    s.post enc P f apart fresh handsOn again W args (.bool true) W' := by
  have hW' := hW
  obtain ⟨p, q, hA, hV, rfl, hz, hn⟩ := hW
  rw [hs] at hV
  obtain ⟨rfl, rfl⟩ : gs = [] ∧ q = [] := by
    cases gs with
    | nil => exact ⟨rfl, hV⟩
    | cons g gs => exact hV.elim
  have hlt : ∀ x ∈ p ++ [], x.block < W.heap.size := fun x hx => by simpa using hW'.lt x hx
  have hold : ∀ x ∈ p ++ [], (fun b => decide (b < W.heap.size)) x.block = true := fun x hx => by simpa using hlt x hx
  have hargs : ∀ sp : Nat → Bool, (∀ x ∈ p ++ [], sp x.block = true) → DataW.TrodAll enc P W' 0 sp true f.params.toList args.toList (s.fn H (ds ++ [])).args p := fun sp hsp => by
    rw [List.append_nil, hfn.2.1]
    exact trodAll_stays hl hb hrd hA (fun x hx => hlt x (by simp [hx])) (fun x hx => hsp x (by simp [hx]))
  have hres : ∀ (b : Nat) (sp : Nat → Bool) (hd : Bool), DataW.TrodAll enc P W' b sp hd f.resultTypes.toList ((Value.bool true).resultList f.resultTypes.size) (s.fn H (ds ++ [])).results [] := fun b sp hd => by
    rw [List.append_nil, hfn.1, hr]
    exact Go.trodAll_cons_mk (RowKit.shut_bool htb true) ChangeShapes.trodAll_mk0
  have hvars : ∀ sp : Nat → Bool, DataW.TrodVars enc P W' sp s.vars (s.fn H (ds ++ [])).vars [] := fun sp => by
    rw [List.append_nil, hfn.2.2, hs]; exact rfl
  refine ⟨ds, [], p ++ [], [], p, [], hW', hres _ _ _, hargs _ hold, hvars _, hb.frame _, fun _ => ⟨?_, _, _, ([] ++ p) ++ [], ⟨[] ++ p, [], ChangeShapes.trodAll_append (hargs _ (fun _ _ => rfl)) (hres _ _ _), hvars _, rfl, ?_, ?_⟩, ?_⟩⟩
  · intro j t r hj hv
    rw [hr] at hj hv
    match j, hj, hv with
    | 0, hj, hv =>
      simp [Value.resultList] at hj hv
      subst hj; subst hv
      exact RowKit.okWide_bool_mk htb _
  · intro b off hp
    have hp' : MemPlace.cell b off ∈ p ++ [] := by simpa using hp
    rw [hb.frozen (hlt _ hp')]
    exact hz b off hp'
  · intro ha
    have := hn ha
    simpa using this
  · intro x hx _
    simpa using hx
end
/-! ### A listed error -/
theorem trod_ptr {H : Type} {enc : TypeId × Value → H} {P : Program} {w : World} {b : Nat} {sp : Nat → Bool} {held : Bool} {fuel : Nat} {t : TypeId} {cs : List Value} {d : DataW H} {p : List MemPlace} (h : DataW.trod enc P w b sp held fuel t cs = some (.ptr d, p)) :
    ∃ e a, P.underlying t = some (.pointer e) ∧ cs = [.pointer (some a)] := by
  cases fuel with
  | zero => simp [DataW.trod] at h
  | succ n =>
    unfold DataW.trod at h
    split at h <;> first
      | exact ⟨_, _, by assumption, rfl⟩
      | (exfalso; simp at h; done)
      | (exfalso; repeat' split at h
         all_goals simp only [Option.ite_none_right_eq_some, Option.bind_eq_some_iff, Option.map_eq_some_iff, Prod.mk.injEq, reduceCtorEq, false_and, and_false, exists_false, Option.some.injEq] at h)
theorem gErr_of {P : Program} {W : World} {name nm : String} {g : Nat} {t : TypeId} {d : DataW Unit} {laid : List (String × DataW Unit)} (hg : P.globalNamed name = some g) (hty : (P.globals[g]?).map (·.type) = some t)
    (hi : ∃ m, P.underlying t = some (.interface m)) (hm : (name, .iface nm (.ptr d)) ∈ laid) (h : laidMet P laid W) : ∃ v, GErr (hv W) g v := by
  obtain ⟨ps, hps, _, hall⟩ := h
  have key : ∀ (l : List (String × DataW Unit)) (ps : List MemPlace), DataW.LaidVars P W l ps → (name, .iface nm (.ptr d)) ∈ l →
      ∃ cs fuel p, W.var? P name = some cs ∧ DataW.trod (fun _ => ()) P W 0 (fun _ => true) false fuel t cs.toList = some (.iface nm (.ptr d), p) ∧ ∀ x ∈ MemPlace.row ⟨g, 0, none⟩ cs.size, x ∈ ps := by
    intro l
    induction l with
    | nil => intro _ _ h; simp at h
    | cons x l ih =>
      intro ps hps hmem
      obtain ⟨n, e⟩ := x
      obtain ⟨g', t', cs, fuel, p, q, h1, h2, h3, h4, h5, rfl⟩ := hps
      rcases List.mem_cons.1 hmem with he | he
      · simp only [Prod.mk.injEq] at he
        obtain ⟨rfl, rfl⟩ := he
        obtain rfl := Option.some.inj (hg.symm.trans h1)
        obtain rfl := Option.some.inj (hty.symm.trans h2)
        exact ⟨cs, fuel, p, h3, h4, fun x hx => by simp [hx]⟩
      · obtain ⟨cs', fuel', p', a1, a2, a3⟩ := ih q h5 he
        exact ⟨cs', fuel', p', a1, a2, fun x hx => by simp [a3 x hx]⟩
  obtain ⟨cs, fuel, p, h3, h4, hin⟩ := key laid ps hps hm
  obtain ⟨m, hi⟩ := hi
  obtain ⟨u, v, hcs, hptr⟩ : ∃ u v, cs.toList = [.iface u v] ∧ ∃ n q, DataW.trod (fun _ => ()) P W 0 (fun _ => true) false n u v.cells.toList = some (.ptr d, q) := by
    cases fuel with
    | zero => simp [DataW.trod] at h4
    | succ n =>
      unfold DataW.trod at h4
      rw [hi] at h4
      split at h4 <;> simp_all
      split at h4 <;> simp_all
      exact ⟨_, _, ⟨rfl, rfl⟩, n, _, h4.1⟩
  obtain ⟨n, q, hq⟩ := hptr
  obtain ⟨e, a, hu, hc⟩ := trod_ptr hq
  have hcs' : cs = #[.iface u v] := by
    apply Array.ext'; simpa using hcs
  subst hcs'
  have hcell : W.cell? ⟨g, 0, none⟩ = some (.iface u v) := by
    rw [World.var?_cell hg h3 0]; rfl
  have hok := (hall g 0 (hin _ (by simp [MemPlace.row]))).2 u v hcell
  obtain ⟨o, rfl⟩ := WideShapes.okWide_pointer hu hok
  simp [Value.cells] at hc
  subst hc
  refine ⟨.iface u (.pointer (some a)), fun j x hj => ?_, u, a, rfl⟩
  cases j with
  | zero =>
    simp at hj; subst hj
    rw [hv_cell] at hcell; exact hcell
  | succ j => simp at hj
end Go.Eng
