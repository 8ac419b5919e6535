/-
  PLAIN LEAN: what the order is like; the automaton numbered anew; the order of that one.
-/
import Derived.Test.YteiaphkejkgfkaaDoorPlF
namespace Go.Proofs.YteiaphkejkgfkaaDoor
open Go Go.Eng
theorem mem_ins {acc : List Int} {x y : Int} : y ∈ ins acc x ↔ y ∈ acc ∨ y = x := by
  unfold ins; split
  · rename_i h
    constructor
    · exact .inl
    · rintro (h' | rfl)
      · exact h'
      · exact h
  · simp
theorem mem_insAll : ∀ {xs acc : List Int} {y : Int}, y ∈ insAll acc xs ↔ y ∈ acc ∨ y ∈ xs
  | [], acc, y => by simp [insAll]
  | x :: xs, acc, y => by
    have := mem_insAll (xs := xs) (acc := ins acc x) (y := y)
    rw [mem_ins] at this
    show y ∈ insAll (ins acc x) xs ↔ _
    rw [this, List.mem_cons, or_assoc]
theorem bfs_props {rows : List (List Int)} {n : Nat} (hrow : ∀ r ∈ rows, ∀ x ∈ r, 0 ≤ x ∧ x < n) : ∀ (k i : Nat) (acc : List Int), Acc n acc → n + 1 - i ≤ k + 1 → 1 ≤ i → (∀ p, (h : p < acc.length) → 1 ≤ p → p < i → ∀ y ∈ rows.getD acc[p].toNat [], y ∈ acc) →
    Acc n (bfs rows k i acc) ∧ acc <+: bfs rows k i acc ∧ ∀ p, (h : p < (bfs rows k i acc).length) → 1 ≤ p → ∀ y ∈ rows.getD (bfs rows k i acc)[p].toNat [], y ∈ bfs rows k i acc
  | 0, i, acc, hA, hk, hi, hc => by
    simp only [bfs]
    have := hA.len
    exact ⟨hA, List.prefix_refl _, fun p h h1 => hc p h h1 (by omega)⟩
  | k + 1, i, acc, hA, hk, hi, hc => by
    by_cases hlt : i < acc.length
    · simp only [bfs, dif_pos hlt]
      have hr : ∀ y ∈ rows.getD acc[i].toNat [], 0 ≤ y ∧ y < (n : Int) := by
        intro y hy
        simp only [List.getD] at hy
        cases hg : rows[acc[i].toNat]? with
        | none => rw [hg] at hy; simp at hy
        | some r => rw [hg] at hy; exact hrow r (List.mem_of_getElem? hg) y hy
      obtain ⟨t, ht⟩ := insAll_prefix (rows.getD acc[i].toNat []) acc
      have hget : ∀ p, (h : p < acc.length) → ∀ h' : p < (insAll acc (rows.getD acc[i].toNat [])).length, (insAll acc (rows.getD acc[i].toNat []))[p] = acc[p] := by
        intro p h h'
        have : (insAll acc (rows.getD acc[i].toNat []))[p]? = acc[p]? := by rw [← ht, List.getElem?_append_left h]
        rw [List.getElem?_eq_getElem h', List.getElem?_eq_getElem h] at this
        exact Option.some.inj this
      have ih := bfs_props hrow k (i + 1) (insAll acc (rows.getD acc[i].toNat [])) (hA.insAll hr) (by omega) (by omega) (fun p h h1 h2 y hy => by
        have hp : p < acc.length := by omega
        rw [hget p hp h] at hy
        rw [mem_insAll]
        by_cases hpi : p = i
        · subst hpi; exact .inr hy
        · exact .inl (hc p hp h1 (by omega) y hy))
      exact ⟨ih.1, (insAll_prefix _ _).trans ih.2.1, ih.2.2⟩
    · rw [bfs_done hlt]
      exact ⟨hA, List.prefix_refl _, fun p h h1 => hc p h h1 (by omega)⟩
theorem ord_props {rows : List (List Int)} {rule entry : List Int} (h : Rt rows rule entry) :
    Acc rows.length (ord rows entry) ∧ insAll [0] entry <+: ord rows entry ∧ ∀ s ∈ ord rows entry, ∀ y ∈ rows.getD s.toNat [], y ∈ ord rows entry := by
  obtain ⟨h1, h2, h3⟩ := bfs_props (rows := rows) (n := rows.length) h.row (rows.length + 1 - 1) 1 _ (acc0 h) (by omega) (by omega) (fun p _ h1 h2 => by omega)
  refine ⟨h1, h2, fun s hs y hy => ?_⟩
  obtain ⟨p, hp, rfl⟩ := List.mem_iff_getElem.1 hs
  by_cases h0 : 1 ≤ p
  · exact h3 p hp h0 y hy
  · obtain rfl : p = 0 := by omega
    have hz : (0 : Int) ∈ ord rows entry := h2.subset (mem_insAll.2 (.inl (by simp)))
    have h00 : (ord rows entry)[0] = 0 := by
      obtain ⟨t, ht⟩ := (insAll_prefix entry [0]).trans h2
      have : (ord rows entry)[0]? = some 0 := by
        show (bfs rows (rows.length + 1 - 1) 1 (insAll [0] entry))[0]? = some 0
        rw [← ht]; rfl
      rw [List.getElem?_eq_getElem hp] at this
      exact Option.some.inj this
    have h00' : (bfs rows (rows.length + 1 - 1) 1 (insAll [0] entry))[0] = 0 := h00
    have e : rows.getD (0 : Int).toNat [] = List.replicate 256 0 := by
      show rows.getD 0 [] = _
      rw [List.getD, h.r0]; rfl
    have hy' : y ∈ rows.getD (0 : Int).toNat [] := by
      have := hy
      rw [h00] at this
      exact this
    rw [e] at hy'
    rw [List.eq_of_mem_replicate hy']
    exact hz
/-- the place of a state -/
def pl (o : List Int) (x : Int) : Int := if x ∈ o then (o.idxOf x : Int) else 0
def reRows (o : List Int) (rows : List (List Int)) : List (List Int) := o.map fun s => (rows.getD s.toNat []).map (pl o)
def reRule (o rule : List Int) : List Int := o.map fun s => rule.getD s.toNat 0
def reEntry (o entry : List Int) : List Int := entry.map (pl o)
theorem pl_get {o : List Int} (hn : o.Nodup) {i : Nat} (hi : i < o.length) : pl o o[i] = i := by
  unfold pl
  rw [if_pos (List.getElem_mem hi)]
  rw [List.Nodup.idxOf_getElem hn]
theorem map_pl {o : List Int} (hn : o.Nodup) : o.map (pl o) = (List.range o.length).map fun (i : Nat) => (i : Int) := by
  apply List.ext_getElem (by simp)
  intro i h1 h2
  simp only [List.getElem_map, List.getElem_range]
  exact pl_get hn (by simpa using h1)
theorem pl_inj {o : List Int} {x y : Int} (hx : x ∈ o) (hy : y ∈ o) (h : pl o x = pl o y) : x = y := by
  unfold pl at h
  rw [if_pos hx, if_pos hy] at h
  have h' : o.idxOf x = o.idxOf y := by omega
  have e1 := List.getElem_idxOf (List.idxOf_lt_length_of_mem hx)
  have e2 := List.getElem_idxOf (List.idxOf_lt_length_of_mem hy)
  rw [← e1, ← e2]
  congr 1
theorem insAll_map {o : List Int} : ∀ {xs acc : List Int}, (∀ x ∈ acc, x ∈ o) → (∀ x ∈ xs, x ∈ o) → insAll (acc.map (pl o)) (xs.map (pl o)) = (insAll acc xs).map (pl o)
  | [], _, _, _ => rfl
  | x :: xs, acc, h1, h2 => by
    have hx := h2 x (by simp)
    have e : ins (acc.map (pl o)) (pl o x) = (ins acc x).map (pl o) := by
      unfold ins
      by_cases hm : x ∈ acc
      · rw [if_pos hm, if_pos (List.mem_map_of_mem hm)]
      · rw [if_neg hm, if_neg]
        · simp
        · intro hc
          obtain ⟨y, hy, he⟩ := List.mem_map.1 hc
          exact hm (pl_inj (h1 y hy) hx he ▸ hy)
    show insAll (ins (acc.map (pl o)) (pl o x)) (xs.map (pl o)) = (insAll (ins acc x) xs).map (pl o)
    rw [e]
    exact insAll_map (fun y hy => (mem_ins.1 hy).elim (fun hy => h1 y hy) (fun e => e ▸ hx)) (fun y hy => h2 y (by simp [hy]))
theorem reRows_get {o : List Int} {rows : List (List Int)} {s : Int} (hs : s ∈ o) : (reRows o rows).getD (pl o s).toNat [] = (rows.getD s.toNat []).map (pl o) := by
  have hlt := List.idxOf_lt_length_of_mem hs
  unfold reRows
  have : (pl o s).toNat = o.idxOf s := by unfold pl; rw [if_pos hs]; simp
  rw [this, List.getD, List.getElem?_map, List.getElem?_eq_getElem hlt, List.getElem_idxOf hlt]
  rfl
theorem bfs_map {o : List Int} {rows : List (List Int)} (hc : ∀ s ∈ o, ∀ y ∈ rows.getD s.toNat [], y ∈ o) : ∀ (k i : Nat) (acc : List Int), (∀ x ∈ acc, x ∈ o) → bfs (reRows o rows) k i (acc.map (pl o)) = (bfs rows k i acc).map (pl o)
  | 0, _, _, _ => rfl
  | k + 1, i, acc, h => by
    by_cases hlt : i < acc.length
    · have hlt' : i < (acc.map (pl o)).length := by simpa using hlt
      have hs := h _ (List.getElem_mem hlt)
      simp only [bfs, dif_pos hlt, dif_pos hlt', List.getElem_map]
      rw [reRows_get hs, insAll_map h (hc _ hs)]
      exact bfs_map hc k (i + 1) _ (fun y hy => (mem_insAll.1 hy).elim (fun hy => h y hy) (fun hy => hc _ hs y hy))
    · rw [bfs_done hlt, bfs_done (by simpa using hlt)]
theorem bfs_prefix {rows : List (List Int)} : ∀ (k i : Nat) (acc : List Int), acc <+: bfs rows k i acc
  | 0, _, _ => List.prefix_refl _
  | k + 1, i, acc => by
    unfold bfs
    split
    · exact (insAll_prefix _ _).trans (bfs_prefix k _ _)
    · exact List.prefix_refl _
theorem bfs_fuel {rows : List (List Int)} : ∀ (k k' i : Nat) (acc : List Int), k ≤ k' → (bfs rows k' i acc).length ≤ i + k → bfs rows k i acc = bfs rows k' i acc
  | 0, k', i, acc, _, hl => by
    have := (bfs_prefix (rows := rows) k' i acc).length_le
    have hlt : ¬ i < acc.length := by omega
    rw [bfs_done hlt, bfs_done hlt]
  | k + 1, 0, i, acc, hk, _ => absurd hk (by omega)
  | k + 1, k' + 1, i, acc, hk, hl => by
    by_cases hlt : i < acc.length
    · simp only [bfs, dif_pos hlt] at hl ⊢
      exact bfs_fuel k k' (i + 1) _ (by omega) (by omega)
    · rw [bfs_done hlt, bfs_done hlt]
/-- THE ORDER OF THE AUTOMATON NUMBERED ANEW: 0, 1, 2 .. -/
theorem ord_re {rows : List (List Int)} {rule entry : List Int} (h : Rt rows rule entry) :
    ord (reRows (ord rows entry) rows) (reEntry (ord rows entry) entry) = (List.range (ord rows entry).length).map fun (i : Nat) => (i : Int) := by
  obtain ⟨hA, hp, hc⟩ := ord_props h
  have hz : (0 : Int) ∈ ord rows entry := hp.subset (mem_insAll.2 (.inl (by simp)))
  have h00 : pl (ord rows entry) 0 = 0 := by
    obtain ⟨t, ht⟩ := (insAll_prefix entry [0]).trans hp
    unfold pl
    rw [if_pos hz, ← ht]
    simp [List.idxOf_cons]
  have he : ∀ x ∈ entry, x ∈ ord rows entry := fun x hx => hp.subset (mem_insAll.2 (.inr hx))
  have hlen : (reRows (ord rows entry) rows).length = (ord rows entry).length := by simp [reRows]
  have hle := hA.len
  have e1 : insAll [0] (reEntry (ord rows entry) entry) = (insAll [0] entry).map (pl (ord rows entry)) := by
    rw [← insAll_map (by simpa using hz) he]
    simp [reEntry, h00]
  have e2 : bfs (reRows (ord rows entry) rows) (rows.length + 1 - 1) 1 (insAll [0] (reEntry (ord rows entry) entry)) = (ord rows entry).map (pl (ord rows entry)) := by
    rw [e1, bfs_map hc _ _ _ (fun x hx => hp.subset hx)]
    rfl
  rw [← map_pl hA.nd, ← e2]
  unfold ord
  refine bfs_fuel _ _ _ _ ?_ ?_
  · show (reRows (ord rows entry) rows).length + 1 - 1 ≤ _
    rw [hlen]; omega
  · show (bfs (reRows (ord rows entry) rows) (rows.length + 1 - 1) 1 (insAll [0] (reEntry (ord rows entry) entry))).length ≤ 1 + ((reRows (ord rows entry) rows).length + 1 - 1)
    rw [e2, hlen]; simp
end Go.Proofs.YteiaphkejkgfkaaDoor
