/-
  PLAIN LEAN: the law TrimDead answers true.
-/
import Derived.Test.YteiaphkejkgfkaaDoorPlS
import Derived.Test.YteiaphkejkgfkaaDoorPlU20
namespace Go.Proofs.YteiaphkejkgfkaaDoor
open Go Go.Eng
set_option maxRecDepth 100000
theorem alive18 : F_dofferlaw18_alive 4294967296 = some true := by kernel_rfl
theorem mget_mset {v : Bool} {k k' : Int} : ∀ {m : List (Int × Bool)}, mget (mset m k v) k' = if k = k' then some v else mget m k'
  | [] => by
    by_cases h : k = k' <;> simp [mget, mset, h]
  | e :: m => by
    have ih := mget_mset (v := v) (k := k) (k' := k') (m := m)
    by_cases h1 : e.1 = k
    · have : mset (e :: m) k v = (k, v) :: m := by simp [mset, List.findIdx?_cons, h1]
      rw [this]
      by_cases h : k = k'
      · simp [mget, h]
      · simp [mget, h, h1]
    · have : mset (e :: m) k v = e :: mset m k v := by
        unfold mset
        rw [List.findIdx?_cons]
        have : (e.1 == k) = false := by simp [h1]
        rw [this]
        cases List.findIdx? (fun e => e.1 == k) m with
        | none => simp
        | some i => simp
      rw [this]
      by_cases h2 : e.1 = k'
      · have : ¬ k = k' := fun hh => h1 (h2.trans hh.symm)
        simp [mget, h2, this]
      · have e1 : ∀ m' : List (Int × Bool), mget (e :: m') k' = mget m' k' := fun m' => by simp [mget, h2]
        rw [e1, ih, e1]
def msetAll (m : List (Int × Bool)) (l : List Int) : List (Int × Bool) := l.foldl (fun m x => mset m x true) m
theorem mget_all {k : Int} : ∀ {l : List Int} {m : List (Int × Bool)}, (mget (msetAll m l) k).getD false = ((mget m k).getD false || decide (k ∈ l))
  | [], m => by simp [msetAll]
  | x :: l, m => by
    have := mget_all (k := k) (l := l) (m := mset m x true)
    rw [show msetAll m (x :: l) = msetAll (mset m x true) l from rfl, this, mget_mset]
    by_cases h : x = k
    · simp [h]
    · have : ¬ k = x := fun e => h e.symm
      simp [h, this]
section
variable {N : Nat} {rows : List (List Int)} {rule entry : List Int}
theorem next_yes (hN : 4294967296 ≤ N) (hs : Sz rows rule entry) (h : Rt rows rule entry) {s c : Int} (hr : 0 ≤ s ∧ s < rows.length) (hc : 0 ≤ c ∧ c < 256) : F_subset_DFA_Next N rows rule entry s c = some (nxt rows s c) := by
  unfold F_subset_DFA_Next
  simp only [right_yes hN hs h, next_spec hs hr hc, bind, Option.bind_some, Bool.not_true, Bool.false_eq_true, if_false]
theorem begin_yes (hN : 4294967296 ≤ N) (hs : Sz rows rule entry) (h : Rt rows rule entry) (cond : Int) : F_subset_DFA_Begin N rows rule entry cond = some (beg entry cond) := by
  unfold F_subset_DFA_Begin
  simp only [right_yes hN hs h, begin_spec, bind, Option.bind_some, Bool.not_true, Bool.false_eq_true, if_false]
theorem nxt_mem (hs : Sz rows rule entry) {s c : Int} (hr : 0 ≤ s ∧ s < rows.length) (hc : 0 ≤ c ∧ c < 256) : nxt rows s c ∈ rows.getD s.toNat [] := by
  have hl : s.toNat < rows.length := by omega
  have hw := hs.w _ (List.getElem_mem hl)
  have hcl : c.toNat < rows[s.toNat].length := by omega
  unfold nxt
  rw [getD_of (List.getElem?_eq_getElem hl), getD_of (List.getElem?_eq_getElem hcl)]
  exact List.getElem_mem hcl
theorem dead_walk (hs : Sz rows rule entry) (h : Rt rows rule entry) {s : Int} (hr : 0 ≤ s ∧ s < rows.length) : ∀ (text : List Int), Byt text →
    (0 ≤ text.foldl (nxt rows) s ∧ text.foldl (nxt rows) s < rows.length) ∧ (Lv rows rule (text.foldl (nxt rows) s) → Lv rows rule s) ∧ (Rch rows entry s → Rch rows entry (text.foldl (nxt rows) s)) := by
  intro text
  induction text generalizing s with
  | nil => intro _; exact ⟨hr, id, id⟩
  | cons c text ih =>
    intro hb
    have hc := hb c (by simp)
    have hm := nxt_mem hs hr hc
    obtain ⟨h1, h2, h3⟩ := ih (nxt_rng hs h hr hc) (fun c hc => hb c (by simp [hc]))
    exact ⟨h1, fun hl => .step hr.1 hr.2 hm (h2 hl), fun hl => h3 (.step hl hm)⟩
theorem map_loop {l : List Int} (hN : 4294967296 ≤ N) (hl : l.length < 4294967296) (f : Int × List (Int × Bool) → Option ((Int × List (Int × Bool)) ⊕ List (Int × Bool)))
    (hb : ∀ (i : Nat) (x : Int) m, l[i]? = some x → f ((i : Int), m) = some (.inl (((i + 1 : Nat) : Int), mset m x true))) (he : ∀ m, f ((l.length : Int), m) = some (.inr m)) : iterO N f (0, []) = some (msetAll [] l) := by
  have key := loop_fold (f := f) (fun i (s : List (Int × Bool)) => ((i : Int), s)) id l (fun m x => mset m x true) (fun _ _ => True) (N := N) (s := []) (by omega) trivial
    (fun i x s hx _ => ⟨hb i x s hx, trivial⟩) (fun s _ => he s)
  exact key
theorem trimDead_true {text : List Int} (hw : ∀ r ∈ rows, r.length = 256) (ht : Byt text) : F_dofferlaw18_TrimDead 4294967296 rows rule entry text = some true := by
  have hN : 4294967296 ≤ 4294967296 := Nat.le_refl _
  unfold F_dofferlaw18_TrimDead
  simp only [alive18, bind, Option.bind_some, Bool.not_true, Bool.false_eq_true, if_false]
  by_cases g1 : (rows.length : Int) > 30
  · simp [g1]
  by_cases g2 : (text.length : Int) > 50
  · simp [g1, g2]
  obtain ⟨b, hb, hbt⟩ := right_any (rule := rule) (entry := entry) hN hw (by omega)
  simp only [decide_eq_false g1, decide_eq_false g2, Bool.false_eq_true, if_false, hb, Option.bind_some]
  by_cases h : Rt rows rule entry
  case neg =>
    have hbf : b = false := by
      cases b with
      | false => rfl
      | true => exact absurd (hbt.1 rfl) h
    subst hbf
    simp
  obtain rfl := hbt.2 h
  have hs := h.sz hw
  have hn1 := h.n1
  have he2 := h.e2
  have l1 := lst_len (lv rows rule) rows.length
  have l2 := lst_len (rch rows entry) rows.length
  have m1 := map_loop (N := 4294967296) (l := lst (lv rows rule) rows.length) hN (by omega) (fun s => F_dofferlaw18_TrimDead_l0 4294967296 (lst (lv rows rule) rows.length) s.1 s.2)
    (fun i x m hx => by
      have hi := (List.getElem?_eq_some_iff.1 hx).1
      unfold F_dofferlaw18_TrimDead_l0
      simp only [show ((i : Int) < ((lst (lv rows rule) rows.length).length : Int)) by omega, decide_true, if_true, idx_of hx, bind, Option.bind_some]
      rw [w64_succ (by omega)])
    (fun m => by unfold F_dofferlaw18_TrimDead_l0; simp)
  have m2 := map_loop (N := 4294967296) (l := lst (rch rows entry) rows.length) hN (by omega) (fun s => F_dofferlaw18_TrimDead_l1 4294967296 (lst (rch rows entry) rows.length) s.1 s.2)
    (fun i x m hx => by
      have hi := (List.getElem?_eq_some_iff.1 hx).1
      unfold F_dofferlaw18_TrimDead_l1
      simp only [show ((i : Int) < ((lst (rch rows entry) rows.length).length : Int)) by omega, decide_true, if_true, idx_of hx, bind, Option.bind_some]
      rw [w64_succ (by omega)])
    (fun m => by unfold F_dofferlaw18_TrimDead_l1; simp)
  simp only [Live_yes hN hs h, Reached_yes hN hs h, Option.bind_some, Bool.not_true, Bool.false_eq_true, if_false]
  rw [show iterO 4294967296 (fun s => F_dofferlaw18_TrimDead_l0 4294967296 (lst (lv rows rule) rows.length) s.1 s.2) (0, ([] : List (Int × Bool))) = _ from m1]
  rw [Option.bind_some]
  rw [show iterO 4294967296 (fun s => F_dofferlaw18_TrimDead_l1 4294967296 (lst (rch rows entry) rows.length) s.1 s.2) (0, ([] : List (Int × Bool))) = _ from m2]
  rw [Option.bind_some]
  have gl : ∀ k : Int, (mget (msetAll [] (lst (lv rows rule) rows.length)) k).getD false = decide (k ∈ lst (lv rows rule) rows.length) := fun k => by rw [mget_all]; simp [mget]
  have gr : ∀ k : Int, (mget (msetAll [] (lst (rch rows entry) rows.length)) k).getD false = decide (k ∈ lst (rch rows entry) rows.length) := fun k => by rw [mget_all]; simp [mget]
  generalize msetAll [] (lst (lv rows rule) rows.length) = M1 at *
  generalize msetAll [] (lst (rch rows entry) rows.length) = M2 at *
  have L3 : ∀ s : Int, 0 ≤ s ∧ s < rows.length → iterO 4294967296 (fun q => F_dofferlaw18_TrimDead_l3 4294967296 rows rule entry text M1 M2 s q.1 q.2) (s, 0) = some (.inl ()) := by
    intro s hr
    refine iterO_for0 (fun i => ((text.take i).foldl (nxt rows) s, (i : Int))) text.length rfl (by omega) (fun i hi => ?_) (by unfold F_dofferlaw18_TrimDead_l3; simp)
    have hx : text[i]? = some text[i] := List.getElem?_eq_getElem hi
    have hc := ht _ (List.getElem_mem hi)
    obtain ⟨a1, _, _⟩ := dead_walk hs h hr _ (ht.take i)
    obtain ⟨b1, b2, b3⟩ := dead_walk hs h hr _ (ht.take (i + 1))
    have en : nxt rows ((text.take i).foldl (nxt rows) s) text[i] = (text.take (i + 1)).foldl (nxt rows) s := by
      rw [List.take_add_one, hx, List.foldl_append]
      rfl
    unfold F_dofferlaw18_TrimDead_l3
    simp only [show ((i : Int) < (text.length : Int)) by omega, decide_true, if_true, idx_of hx, bind, Option.bind_some, next_yes hN hs h a1 hc, en]
    generalize (text.take (i + 1)).foldl (nxt rows) s = t at *
    have hrl : t.toNat < rule.length := by rw [h.ru]; omega
    have d1 : (if decide (M1 = M1) = true then (0 : Nat) else 0) = 0 := by simp
    have c1 : (mget M2 s).getD false = true → (mget M2 t).getD false = true := by
      rw [gr, gr, decide_eq_true_iff, decide_eq_true_iff, mem_rch, mem_rch]
      exact fun q => ⟨b1, b3 q.2⟩
    have c2 : (mget M1 s).getD false = false → ¬ rule[t.toNat] ≥ 0 := by
      intro q hq
      rw [gl, decide_eq_false_iff_not, mem_lv] at q
      refine q (b2 (.here b1.1 b1.2 ?_))
      rw [getD_of (List.getElem?_eq_getElem hrl)]
      omega
    simp only [show ¬ t < 0 by omega, show ¬ t ≥ (rows.length : Int) by omega, decide_false, Bool.false_eq_true, if_false, idx_int b1.1 hrl, Option.bind_some]
    rw [w64_succ (by omega)]
    cases q1 : (mget M1 s).getD false with
    | true =>
      cases q2 : (mget M2 s).getD false with
      | true => simp [c1 q2]
      | false => simp
    | false =>
      have := c2 q1
      cases q2 : (mget M2 s).getD false with
      | true => simp [c1 q2, this]
      | false => simp [this]
  have L2 : iterO 4294967296 (fun s => F_dofferlaw18_TrimDead_l2 4294967296 rows rule entry text M1 M2 s) 0 = some (.inl ()) := by
    refine iterO_for0 (fun i => (i : Int)) rows.length rfl (by omega) (fun i hi => ?_) (by unfold F_dofferlaw18_TrimDead_l2; simp)
    unfold F_dofferlaw18_TrimDead_l2
    simp only [show ((i : Int) < (rows.length : Int)) by omega, decide_true, if_true, bind]
    rw [L3 i (by omega)]
    simp only [Option.bind_some]
    rw [w64_succ (by omega)]
  have rb : ∀ k : Int, Rch rows entry k → (mget M2 k).getD false = true := fun k hk => by
    rw [gr, decide_eq_true_iff, mem_rch]
    exact ⟨hk.rng h, hk⟩
  have L4 : iterO 4294967296 (fun s => F_dofferlaw18_TrimDead_l4 4294967296 rows rule entry M2 s) 0 = some (.inl ()) := by
    refine iterO_for0 (fun i => (i : Int)) entry.length rfl (by omega) (fun i hi => ?_) (by unfold F_dofferlaw18_TrimDead_l4; simp)
    have hbg : Rch rows entry (beg entry i) := by
      unfold beg
      rw [if_pos (by omega), Int.toNat_natCast, getD_of (List.getElem?_eq_getElem hi)]
      exact .ent (List.getElem_mem hi)
    unfold F_dofferlaw18_TrimDead_l4
    simp only [show ((i : Int) < (entry.length : Int)) by omega, decide_true, if_true, bind, begin_yes hN hs h, Option.bind_some, rb _ hbg, Bool.not_true, Bool.false_eq_true, if_false]
    rw [w64_succ (by omega)]
  rw [L2]
  simp only [Option.bind_some]
  rw [L4]
  simp only [Option.bind_some]
  rw [rb 0 .zero]
end
end Go.Proofs.YteiaphkejkgfkaaDoor
