/-
  PLAIN LEAN: where a DFA's states lead, what it finds behind a text; the automaton numbered anew finds the same.
-/
import Derived.Test.YteiaphkejkgfkaaDoorPlM
namespace Go.Proofs.YteiaphkejkgfkaaDoor
open Go Go.Eng
def nxt (rows : List (List Int)) (s c : Int) : Int := (rows.getD s.toNat []).getD c.toNat 0
def beg (entry : List Int) (cond : Int) : Int := if 0 ≤ cond ∧ cond < (entry.length : Int) then entry.getD cond.toNat 0 else 0
def stt (rows : List (List Int)) (entry : List Int) (cond : Int) (text : List Int) : Int := text.foldl (nxt rows) (beg entry cond)
/-- bytes -/
def Byt (text : List Int) : Prop := ∀ c ∈ text, 0 ≤ c ∧ c < 256
theorem Byt.take {text : List Int} (h : Byt text) (k : Nat) : Byt (text.take k) := fun c hc => h c (List.mem_of_mem_take hc)
section
variable {N : Nat} {rows : List (List Int)} {rule entry : List Int}
theorem nxt_get (hs : Sz rows rule entry) {s c : Int} (hr : 0 ≤ s ∧ s < rows.length) (hc : 0 ≤ c ∧ c < 256) : ∃ row, idx rows s = some row ∧ row ∈ rows ∧ idx row c = some (nxt rows s c) ∧ nxt rows s c ∈ row := by
  have hl : s.toNat < rows.length := by omega
  have hw := hs.w _ (List.getElem_mem hl)
  have e1 : rows.getD s.toNat [] = rows[s.toNat] := by rw [List.getD, List.getElem?_eq_getElem hl]; rfl
  have hcl : c.toNat < rows[s.toNat].length := by omega
  have e2 : nxt rows s c = rows[s.toNat][c.toNat] := by unfold nxt; rw [e1, List.getD, List.getElem?_eq_getElem hcl]; rfl
  exact ⟨rows[s.toNat], idx_int hr.1 hl, List.getElem_mem hl, by rw [e2]; exact idx_int hc.1 hcl, e2 ▸ List.getElem_mem hcl⟩
theorem nxt_rng (hs : Sz rows rule entry) (h : Rt rows rule entry) {s c : Int} (hr : 0 ≤ s ∧ s < rows.length) (hc : 0 ≤ c ∧ c < 256) : 0 ≤ nxt rows s c ∧ nxt rows s c < rows.length := by
  obtain ⟨row, _, h2, _, h4⟩ := nxt_get hs hr hc
  exact h.row row h2 _ h4
theorem next_spec (hs : Sz rows rule entry) {s c : Int} (hr : 0 ≤ s ∧ s < rows.length) (hc : 0 ≤ c ∧ c < 256) : F_subset_DFA_next N rows rule entry s c = some (nxt rows s c) := by
  obtain ⟨row, h1, _, h3, _⟩ := nxt_get hs hr hc
  unfold F_subset_DFA_next
  simp only [show ¬ s < 0 by omega, show ¬ s ≥ (rows.length : Int) by omega, decide_false, Bool.false_eq_true, if_false, bind, Option.bind_some, h1, h3]
theorem beg_rng (h : Rt rows rule entry) (cond : Int) : 0 ≤ beg entry cond ∧ beg entry cond < rows.length := by
  unfold beg
  split
  · rename_i hc
    have hl : cond.toNat < entry.length := by omega
    rw [List.getD, List.getElem?_eq_getElem hl]
    exact h.ent _ (List.getElem_mem hl)
  · have := h.n1; omega
theorem begin_spec (cond : Int) : F_subset_DFA_begin N rows rule entry cond = some (beg entry cond) := by
  unfold F_subset_DFA_begin beg
  by_cases h1 : cond < 0
  · have : ¬ (0 ≤ cond ∧ cond < (entry.length : Int)) := by omega
    simp [h1, this]
  by_cases h2 : cond ≥ (entry.length : Int)
  · have : ¬ (0 ≤ cond ∧ cond < (entry.length : Int)) := by omega
    simp [h1, h2, this]
  · have h3 : 0 ≤ cond ∧ cond < (entry.length : Int) := by omega
    have hl : cond.toNat < entry.length := by omega
    rw [if_pos h3, List.getD, List.getElem?_eq_getElem hl]
    simp only [h1, h2, decide_false, Bool.false_eq_true, if_false, bind, Option.bind_some, idx_int h3.1 hl]
    rfl
theorem stt_rng (hs : Sz rows rule entry) (h : Rt rows rule entry) (cond : Int) {text : List Int} (ht : Byt text) : 0 ≤ stt rows entry cond text ∧ stt rows entry cond text < rows.length := by
  unfold stt
  have key : ∀ (l : List Int) (s : Int), Byt l → (0 ≤ s ∧ s < (rows.length : Int)) → 0 ≤ l.foldl (nxt rows) s ∧ l.foldl (nxt rows) s < rows.length := by
    intro l
    induction l with
    | nil => intro s _ hs; exact hs
    | cons c l ih => intro s hl hr; exact ih _ (fun x hx => hl x (by simp [hx])) (nxt_rng hs h hr (hl c (by simp)))
  exact key text _ ht (beg_rng h cond)
theorem run_spec (hN : 4294967296 ≤ N) (hs : Sz rows rule entry) (h : Rt rows rule entry) (cond : Int) {text : List Int} (ht : Byt text) (hl : text.length < 4294967296) :
    F_subset_DFA_Run N rows rule entry cond text = some (rule.getD (stt rows entry cond text).toNat 0) := by
  obtain ⟨b, hb, hbt⟩ := right_spec hN hs
  rw [hbt.2 h] at hb
  unfold F_subset_DFA_Run
  obtain ⟨s, h1, h2, _⟩ := loop_inv (f := fun s => F_subset_DFA_Run_l0 N rows rule entry text s.1 s.2) (fun i (s : Int) => ((i : Int), s)) id text (fun i s => s = stt rows entry cond (text.take i) ∧ 0 ≤ s ∧ s < rows.length) (N := N) (s := beg entry cond) (by omega)
    ⟨by simp [stt], beg_rng h cond⟩
    (fun i c s hc hI => by
      obtain ⟨k1, k2⟩ := hI
      have hi := lt_len hc
      have hcb := ht c (List.mem_of_getElem? hc)
      refine ⟨nxt rows s c, ?_, ?_, nxt_rng hs h k2 hcb⟩
      · unfold F_subset_DFA_Run_l0
        simp only [show ((i : Int) < (text.length : Int)) by omega, decide_true, if_true, idx_of hc, next_spec hs k2 hcb, bind, Option.bind_some]
        rw [w64_succ (by omega)]
      · unfold stt at k1 ⊢
        rw [List.take_add_one, hc, List.foldl_append, ← k1]; rfl)
    (fun s _ => by unfold F_subset_DFA_Run_l0; simp)
  rw [List.take_length] at h2
  subst h2
  have hr := stt_rng hs h cond ht
  have hru := h.ru
  have hlt : (stt rows entry cond text).toNat < rule.length := by omega
  simp only [hb, begin_spec, bind, Option.bind_some, Bool.not_true, Bool.false_eq_true, if_false]
  rw [show iterO N (fun s => F_subset_DFA_Run_l0 N rows rule entry text s.1 s.2) (0, beg entry cond) = _ from h1]
  simp only [Option.bind_some, id, idx_int hr.1 hlt]
  rw [List.getD, List.getElem?_eq_getElem hlt]; rfl
theorem run_not (hN : 4294967296 ≤ N) (hs : Sz rows rule entry) (h : ¬ Rt rows rule entry) (cond : Int) {text : List Int} : F_subset_DFA_Run N rows rule entry cond text = some (-1) := by
  obtain ⟨b, hb, hbt⟩ := right_spec hN hs
  have hbf : b = false := by
    cases b with
    | false => rfl
    | true => exact absurd (hbt.1 rfl) h
  subst hbf
  unfold F_subset_DFA_Run
  simp only [hb, bind, Option.bind_some, Bool.not_false, if_true]
/-! ### Numbered anew -/
theorem ord_zero (h : Rt rows rule entry) : (0 : Int) ∈ ord rows entry ∧ pl (ord rows entry) 0 = 0 ∧ 0 < (ord rows entry).length := by
  obtain ⟨hA, hp, hc⟩ := ord_props h
  have hz : (0 : Int) ∈ ord rows entry := hp.subset (mem_insAll.2 (.inl (by simp)))
  have hpos : 0 < (ord rows entry).length := List.length_pos_of_mem hz
  have h00 : (ord rows entry)[0]? = some 0 := by
    obtain ⟨t, ht⟩ := (insAll_prefix entry [0]).trans hp
    rw [← ht]; rfl
  have := pl_get hA.nd hpos
  rw [List.getElem?_eq_getElem hpos] at h00
  rw [Option.some.inj h00] at this
  exact ⟨hz, this, hpos⟩
theorem beg_mem (h : Rt rows rule entry) (cond : Int) : beg entry cond ∈ ord rows entry := by
  obtain ⟨hA, hp, hc⟩ := ord_props h
  unfold beg
  split
  · rename_i hcd
    have hl : cond.toNat < entry.length := by omega
    rw [List.getD, List.getElem?_eq_getElem hl]
    exact hp.subset (mem_insAll.2 (.inr (List.getElem_mem hl)))
  · exact (ord_zero h).1
theorem beg_re (h : Rt rows rule entry) (cond : Int) : beg (reEntry (ord rows entry) entry) cond = pl (ord rows entry) (beg entry cond) := by
  unfold beg
  have hl : (reEntry (ord rows entry) entry).length = entry.length := by simp [reEntry]
  rw [hl]
  split
  · rename_i hcd
    have hl : cond.toNat < entry.length := by omega
    unfold reEntry
    rw [List.getD, List.getElem?_map, List.getElem?_eq_getElem hl, List.getD, List.getElem?_eq_getElem hl]; rfl
  · exact (ord_zero h).2.1.symm
theorem nxt_re (hs : Sz rows rule entry) (h : Rt rows rule entry) {s c : Int} (hm : s ∈ ord rows entry) (hc : 0 ≤ c ∧ c < 256) :
    nxt (reRows (ord rows entry) rows) (pl (ord rows entry) s) c = pl (ord rows entry) (nxt rows s c) ∧ nxt rows s c ∈ ord rows entry := by
  obtain ⟨hA, hp, hcl⟩ := ord_props h
  obtain ⟨row, g1, g2, g3, g4⟩ := nxt_get hs (hA.rng s hm) hc
  have hsr := hA.rng s hm
  have e1 : rows.getD s.toNat [] = row := by
    obtain ⟨_, hlt, hx⟩ := idx_some g1
    rw [List.getD, hx]; rfl
  refine ⟨?_, hcl s hm _ (e1 ▸ g4)⟩
  obtain ⟨_, hlt, hx⟩ := idx_some g3
  show (List.getD (List.getD (reRows (ord rows entry) rows) (pl (ord rows entry) s).toNat []) c.toNat 0) = _
  rw [reRows_get hm, e1, List.getD, List.getElem?_map, hx]
  rfl
theorem stt_re (hs : Sz rows rule entry) (h : Rt rows rule entry) (cond : Int) {text : List Int} (ht : Byt text) :
    stt (reRows (ord rows entry) rows) (reEntry (ord rows entry) entry) cond text = pl (ord rows entry) (stt rows entry cond text) ∧ stt rows entry cond text ∈ ord rows entry := by
  unfold stt
  rw [beg_re h]
  have key : ∀ (l : List Int) (s : Int), Byt l → s ∈ ord rows entry → l.foldl (nxt (reRows (ord rows entry) rows)) (pl (ord rows entry) s) = pl (ord rows entry) (l.foldl (nxt rows) s) ∧ l.foldl (nxt rows) s ∈ ord rows entry := by
    intro l
    induction l with
    | nil => intro s _ hm; exact ⟨rfl, hm⟩
    | cons c l ih =>
      intro s hl hm
      obtain ⟨k1, k2⟩ := nxt_re hs h hm (hl c (by simp))
      simp only [List.foldl_cons]
      rw [k1]
      exact ih _ (fun x hx => hl x (by simp [hx])) k2
  exact key text _ ht (beg_mem h cond)
theorem rule_re {o : List Int} {s : Int} (hm : s ∈ o) : (reRule o rule).getD (pl o s).toNat 0 = rule.getD s.toNat 0 := by
  have hlt := List.idxOf_lt_length_of_mem hm
  have : (pl o s).toNat = o.idxOf s := by unfold pl; rw [if_pos hm]; simp
  unfold reRule
  rw [this, List.getD, List.getElem?_map, List.getElem?_eq_getElem hlt, List.getElem_idxOf hlt]
  rfl
theorem run_re (hN : 4294967296 ≤ N) (hs : Sz rows rule entry) (h : Rt rows rule entry) (cond : Int) {text : List Int} (ht : Byt text) (hl : text.length < 4294967296) :
    F_subset_DFA_Run N (reRows (ord rows entry) rows) (reRule (ord rows entry) rule) (reEntry (ord rows entry) entry) cond text = some (rule.getD (stt rows entry cond text).toNat 0) := by
  rw [run_spec hN (re_sz hs h) (re_right h) cond ht hl]
  obtain ⟨k1, k2⟩ := stt_re hs h cond ht
  rw [k1, rule_re k2]
/-! ### The edges -/
theorem sum_sub {f : Int → Nat} : ∀ {l m : List Int}, l.Nodup → (∀ x ∈ l, x ∈ m) → (l.map f).sum ≤ (m.map f).sum
  | [], _, _, _ => by simp
  | x :: l, m, hn, hs => by
    obtain ⟨h1, h2⟩ := List.nodup_cons.1 hn
    have hx := hs x (by simp)
    have ih := sum_sub (f := f) (l := l) (m := m.erase x) h2 (fun y hy => (List.mem_erase_of_ne (show y ≠ x from fun e => h1 (e ▸ hy))).2 (hs y (by simp [hy])))
    have hp := (List.perm_cons_erase hx).map f
    have : (m.map f).sum = f x + ((m.erase x).map f).sum := by rw [hp.sum_nat]; simp
    rw [this]
    simp only [List.map_cons, List.sum_cons]
    omega
def deg (rows : List (List Int)) (s : Int) : Nat := (insAll [] (rows.getD s.toNat [])).length
theorem edg_upto (rows : List (List Int)) : edg rows = ((upto rows.length).map (deg rows)).sum := by
  unfold edg
  congr 1
  refine List.ext_getElem (by simp [upto]) fun i h1 h2 => ?_
  have hi : i < rows.length := by simpa using h1
  simp only [List.getElem_map, upto_get, deg, Int.toNat_natCast, List.getD, List.getElem?_eq_getElem hi]
  rfl
theorem edg_re (hs : Sz rows rule entry) (h : Rt rows rule entry) : edg (reRows (ord rows entry) rows) = ((ord rows entry).map (deg rows)).sum := by
  obtain ⟨hA, hp, hcl⟩ := ord_props h
  unfold edg reRows
  rw [List.map_map]
  congr 1
  refine List.map_congr_left fun s hm => ?_
  simp only [Function.comp, deg]
  have := insAll_map (o := ord rows entry) (xs := rows.getD s.toNat []) (acc := []) (by simp) (hcl s hm)
  simp only [List.map_nil] at this
  rw [this, List.length_map]
theorem edg_re_le (hs : Sz rows rule entry) (h : Rt rows rule entry) : edg (reRows (ord rows entry) rows) ≤ edg rows := by
  obtain ⟨hA, hp, hcl⟩ := ord_props h
  rw [edg_re hs h, edg_upto]
  refine sum_sub hA.nd fun x hx => ?_
  have := hA.rng x hx
  unfold upto
  exact List.mem_map.2 ⟨x.toNat, by simp; omega, by omega⟩
theorem len_le_edg (hs : Sz rows rule entry) : rows.length ≤ edg rows := by
  have key : ∀ l : List (List Int), (∀ r ∈ l, r.length = 256) → l.length ≤ edg l := by
    intro l
    induction l with
    | nil => simp
    | cons r l ih =>
      intro hw
      have hr := hw r (by simp)
      have h2 := ih fun x hx => hw x (by simp [hx])
      have h3 : 0 < (insAll [] r).length := List.length_pos_of_mem (mem_insAll.2 (.inr (List.getElem_mem (show 0 < r.length by omega))))
      simp only [edg, List.map_cons, List.sum_cons, List.length_cons] at h2 ⊢
      omega
  exact key rows hs.w
end
end Go.Proofs.YteiaphkejkgfkaaDoor
