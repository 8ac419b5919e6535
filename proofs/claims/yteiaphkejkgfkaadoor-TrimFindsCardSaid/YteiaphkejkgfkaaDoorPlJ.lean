/-
  PLAIN LEAN: when an automaton is numbered canonically: exactly if numbering it anew changes nothing; the automaton numbered anew is a DFA and is numbered canonically.
-/
import Derived.Test.YteiaphkejkgfkaaDoorPlI
namespace Go.Proofs.YteiaphkejkgfkaaDoor
open Go Go.Eng
def upto (n : Nat) : List Int := (List.range n).map fun (i : Nat) => (i : Int)
theorem upto_get {n i : Nat} (h : i < (upto n).length) : (upto n)[i] = (i : Int) := by simp [upto]
theorem upto_len (n : Nat) : (upto n).length = n := by simp [upto]
theorem mono_of {o : List Int} (hn : o.Nodup) (hs : ∀ i, (h : i + 1 < o.length) → o[i] ≤ o[i + 1]) : ∀ (k i : Nat) (h : i + k < o.length), o[i] + (k : Int) ≤ o[i + k]
  | 0, i, h => by simp
  | k + 1, i, h => by
    have ih := mono_of hn hs k i (by omega)
    have h1 := hs (i + k) (by omega)
    have h2 : o[i + k] ≠ o[i + k + 1] := fun e => by
      have e1 := List.Nodup.idxOf_getElem hn (i + k) (by omega)
      rw [e, List.Nodup.idxOf_getElem hn] at e1
      omega
    have e : o[i + (k + 1)] = o[i + k + 1] := rfl
    rw [e]
    push_cast
    omega
theorem sorted_range {o : List Int} {n : Nat} (hA : Acc n o) (hl : o.length = n) (hs : ∀ i, (h : i + 1 < o.length) → o[i] ≤ o[i + 1]) : o = upto n := by
  refine List.ext_getElem (by simp [upto, hl]) fun i h1 h2 => ?_
  rw [upto_get]
  have a1 := mono_of hA.nd hs i 0 (by omega)
  have a2 := mono_of hA.nd hs (o.length - 1 - i) i (by omega)
  have b1 := hA.rng _ (List.getElem_mem (show 0 < o.length by omega))
  have b2 := hA.rng _ (List.getElem_mem (show i + (o.length - 1 - i) < o.length by omega))
  have e1 : o[0 + i] = o[i] := by congr 1; omega
  rw [e1] at a1
  omega
theorem pl_upto {n : Nat} {x : Int} (h : 0 ≤ x ∧ x < n) : pl (upto n) x = x := by
  have hl : x.toNat < (upto n).length := by rw [upto_len]; omega
  have hn : (upto n).Nodup := by
    unfold upto List.Nodup
    rw [List.pairwise_map]
    exact List.Pairwise.imp (fun h e => h (Int.ofNat.inj e)) List.nodup_range
  have := pl_get hn hl
  rw [upto_get] at this
  rw [show ((x.toNat : Nat) : Int) = x by omega] at this
  exact this
theorem map_id_of {f : Int → Int} {l : List Int} (h : ∀ x ∈ l, f x = x) : l.map f = l := by
  conv => rhs; rw [← List.map_id l]
  exact List.map_congr_left h
theorem re_upto {rows : List (List Int)} {rule entry : List Int} (h : Rt rows rule entry) : reRows (upto rows.length) rows = rows ∧ reRule (upto rows.length) rule = rule ∧ reEntry (upto rows.length) entry = entry := by
  refine ⟨?_, ?_, map_id_of fun x hx => pl_upto (h.ent x hx)⟩
  · refine List.ext_getElem (by simp [reRows, upto]) fun i h1 h2 => ?_
    simp only [reRows, upto, List.getElem_map, List.getElem_range, Int.toNat_natCast]
    rw [List.getD, List.getElem?_eq_getElem h2]
    exact map_id_of fun x hx => pl_upto (h.row _ (List.getElem_mem h2) x hx)
  · refine List.ext_getElem (by simp [reRule, upto, h.ru]) fun i h1 h2 => ?_
    simp only [reRule, upto, List.getElem_map, List.getElem_range, Int.toNat_natCast]
    rw [List.getD, List.getElem?_eq_getElem h2]
    rfl
/-- canonical: numbering anew changes nothing -/
def Cn (rows : List (List Int)) (rule entry : List Int) : Prop := reRows (ord rows entry) rows = rows ∧ reRule (ord rows entry) rule = rule ∧ reEntry (ord rows entry) entry = entry
theorem cn_iff {rows : List (List Int)} {rule entry : List Int} (h : Rt rows rule entry) : Cn rows rule entry ↔ ord rows entry = upto rows.length := by
  constructor
  · rintro ⟨h1, h2, h3⟩
    have := ord_re h
    rw [h1, h3] at this
    have hl : (ord rows entry).length = rows.length := by
      have e := congrArg List.length h1
      simpa [reRows] using e
    rw [hl] at this
    exact this
  · intro e
    unfold Cn
    rw [e]
    exact re_upto h
theorem isCanon_spec {N : Nat} {rows : List (List Int)} {rule entry : List Int} (hN : 4294967296 ≤ N) (hs : Sz rows rule entry) : ∃ b, F_canon_IsCanon N rows rule entry = some b ∧ (b = true ↔ Rt rows rule entry ∧ Cn rows rule entry) := by
  unfold F_canon_IsCanon
  by_cases h : Rt rows rule entry
  case neg =>
    rw [order_not hN hs h]
    exact ⟨false, by simp, by simp [h]⟩
  obtain ⟨hA, hp, hc⟩ := ord_props h
  have hle := hA.len
  have hn2 := h.n2
  have hz : (0 : Int) ∈ ord rows entry := hp.subset (mem_insAll.2 (.inl (by simp)))
  have hpos : 0 < (ord rows entry).length := List.length_pos_of_mem hz
  rw [order_yes hN hs h]
  simp only [bind, Option.bind_some, show ((ord rows entry).length : Int) > 0 by omega, decide_true, if_true]
  by_cases hl : (ord rows entry).length = rows.length
  case neg =>
    have e0 : (((ord rows entry).length : Int) == (rows.length : Int)) = false := by simp; omega
    refine ⟨false, by simp [e0], ?_⟩
    simp only [Bool.false_eq_true, false_iff]
    rintro ⟨_, hcn⟩
    rw [cn_iff h] at hcn
    exact hl (by rw [hcn, upto_len])
  have e0 : (((ord rows entry).length : Int) == (rows.length : Int)) = true := by simp; omega
  obtain ⟨b, hb, hbt⟩ := sorted_spec (N := N) (xs := ord rows entry) hN (by omega)
  refine ⟨b, by simp [e0, hb], ?_⟩
  rw [hbt]
  constructor
  · intro hsd
    refine ⟨h, (cn_iff h).2 (sorted_range hA hl hsd)⟩
  · rintro ⟨_, hcn⟩ i hi
    rw [cn_iff h] at hcn
    have g : ∀ j, (hj : j < (ord rows entry).length) → (ord rows entry)[j] = (j : Int) := by
      rw [hcn]
      intro j hj
      exact upto_get hj
    rw [g, g]
    omega
theorem mem_reRows {o : List Int} {rows : List (List Int)} {r : List Int} (h : r ∈ reRows o rows) : ∃ s ∈ o, r = (rows.getD s.toNat []).map (pl o) := by
  obtain ⟨s, hs, rfl⟩ := List.mem_map.1 h
  exact ⟨s, hs, rfl⟩
theorem pl_rng {o : List Int} {x : Int} (h0 : 0 < o.length) : 0 ≤ pl o x ∧ pl o x < o.length := by
  unfold pl
  split
  · rename_i h
    have := List.idxOf_lt_length_of_mem h
    omega
  · omega
/-- numbered anew it is a DFA .. -/
theorem re_right {rows : List (List Int)} {rule entry : List Int} (h : Rt rows rule entry) : Rt (reRows (ord rows entry) rows) (reRule (ord rows entry) rule) (reEntry (ord rows entry) entry) := by
  obtain ⟨hA, hp, hc⟩ := ord_props h
  have hle := hA.len
  have hz : (0 : Int) ∈ ord rows entry := hp.subset (mem_insAll.2 (.inl (by simp)))
  have hpos : 0 < (ord rows entry).length := List.length_pos_of_mem hz
  have h00 : (ord rows entry)[0]? = some 0 := by
    obtain ⟨t, ht⟩ := (insAll_prefix entry [0]).trans hp
    rw [← ht]; rfl
  have hpl0 : pl (ord rows entry) 0 = 0 := by
    have := pl_get hA.nd hpos
    rw [List.getElem?_eq_getElem hpos] at h00
    rw [Option.some.inj h00] at this
    exact this
  have hlen : (reRows (ord rows entry) rows).length = (ord rows entry).length := by simp [reRows]
  refine ⟨by omega, by have := h.n2; omega, by simp [reRule, reRows], by simpa [reEntry] using h.e1, by simpa [reEntry] using h.e2, ?_, ?_, ?_, ?_, ?_⟩
  · intro r hr x hx
    obtain ⟨s, hs, rfl⟩ := mem_reRows hr
    obtain ⟨y, hy, rfl⟩ := List.mem_map.1 hx
    rw [hlen]
    exact pl_rng hpos
  · intro x hx
    obtain ⟨s, hs, rfl⟩ := List.mem_map.1 hx
    have hsr := hA.rng s hs
    have hru := h.ru
    rw [List.getD, List.getElem?_eq_getElem (show s.toNat < rule.length by omega)]
    exact h.rul _ (List.getElem_mem _)
  · intro x hx
    obtain ⟨s, hs, rfl⟩ := List.mem_map.1 hx
    rw [hlen]
    exact pl_rng hpos
  · unfold reRows
    rw [List.getElem?_map, h00]
    show some ((rows.getD 0 []).map _) = _
    rw [List.getD, h.r0]
    show some ((List.replicate 256 0).map (pl (ord rows entry))) = _
    rw [List.map_replicate, hpl0]
  · unfold reRule
    rw [List.getElem?_map, h00]
    show some (rule.getD 0 0) = _
    rw [List.getD, h.u0]; rfl
/-- .. and canonical -/
theorem re_canon {rows : List (List Int)} {rule entry : List Int} (h : Rt rows rule entry) : Cn (reRows (ord rows entry) rows) (reRule (ord rows entry) rule) (reEntry (ord rows entry) entry) := by
  rw [cn_iff (re_right h), ord_re h]
  simp [upto, reRows]
theorem re_sz {rows : List (List Int)} {rule entry : List Int} (hs : Sz rows rule entry) (h : Rt rows rule entry) : Sz (reRows (ord rows entry) rows) (reRule (ord rows entry) rule) (reEntry (ord rows entry) entry) := by
  obtain ⟨hA, hp, hc⟩ := ord_props h
  have hle := hA.len
  have hn2 := h.n2
  refine ⟨fun r hr => ?_, by simp [reRows]; omega, by simp [reRule]; omega, by simpa [reEntry] using hs.c⟩
  obtain ⟨s, hsm, rfl⟩ := mem_reRows hr
  have hsr := hA.rng s hsm
  rw [List.length_map, List.getD, List.getElem?_eq_getElem (show s.toNat < rows.length by omega)]
  exact hs.w _ (List.getElem_mem _)
end Go.Proofs.YteiaphkejkgfkaaDoor
