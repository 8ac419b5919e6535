/-
  PLAIN LEAN: the automaton numbered anew: the code's and the document's are one.
-/
import Derived.Test.YteiaphkejkgfkaaDoorPlG
namespace Go.Proofs.YteiaphkejkgfkaaDoor
open Go Go.Eng
theorem place_spec {N : Nat} {o : List Int} {x : Int} (hN : 4294967296 ≤ N) (hl : o.length < 4294967296) : F_dofferref20_place N o x = some (pl o x) := by
  unfold F_dofferref20_place
  rw [loop_find o (fun y => y == x) (fun i => (i : Int)) (by omega) (fun i y hy => by
    have hi := lt_len hy
    unfold F_dofferref20_place_l0
    simp only [show ((i : Int) < (o.length : Int)) by omega, decide_true, if_true, idx_of hy, bind, Option.bind_some]
    rw [w64_succ (by omega)]) (by unfold F_dofferref20_place_l0; simp)]
  unfold pl
  cases h : o.findIdx? (fun y => y == x) with
  | none =>
    have : x ∉ o := fun hx => by
      have := List.findIdx?_eq_none_iff.1 h x hx
      simp at this
    simp [this]
  | some k =>
    obtain ⟨hk, hp, hlt⟩ := List.findIdx?_eq_some_iff_getElem.1 h
    have hx : o[k] = x := by simpa using hp
    have hm : x ∈ o := hx ▸ List.getElem_mem hk
    have : o.idxOf x = k := by
      rw [List.idxOf, List.findIdx_eq hk]
      exact ⟨hp, fun j hj => by have := hlt j hj; simpa using this⟩
    simp [hm, this]
/-- the array of the places -/
theorem place_loop {N : Nat} {o : List Int} {n : Nat} (hN : 4294967296 ≤ N) (hn : n < 4294967296) (hA : Acc n o) :
    ∃ P, iterO N (fun s => F_canon_Canon_l0 N o s.1 s.2) (0, List.replicate n 0) = some P ∧ P.length = n ∧ ∀ x : Nat, x < n → P[x]? = some (pl o x) := by
  have hle := hA.len
  obtain ⟨P, h1, h2, h3⟩ := loop_inv (f := fun s => F_canon_Canon_l0 N o s.1 s.2) (fun i (s : List Int) => ((i : Int), s)) id o (fun i P => P.length = n ∧ ∀ x : Nat, x < n → P[x]? = some (if (x : Int) ∈ o.take i then (o.idxOf (x : Int) : Int) else 0)) (N := N) (s := List.replicate n 0) (by omega)
    ⟨by simp, fun x hx => by simp [hx]⟩
    (fun i x P hx hI => by
      obtain ⟨k1, k2⟩ := hI
      have hi := lt_len hx
      have hxr := hA.rng x (List.mem_of_getElem? hx)
      obtain ⟨v, rfl⟩ : ∃ v : Nat, x = (v : Int) := ⟨x.toNat, by omega⟩
      have hv : v < P.length := by omega
      refine ⟨P.set v (i : Int), ?_, by simp [k1], fun y hy => ?_⟩
      · unfold F_canon_Canon_l0
        simp only [show ((i : Int) < (o.length : Int)) by omega, decide_true, if_true, idx_of hx, idx_nat hv, setI_nat hv, bind, Option.bind_some]
        rw [w64_succ (by omega)]
      · have hmem : ((y : Int) ∈ o.take (i + 1)) ↔ ((y : Int) ∈ o.take i ∨ (y : Int) = v) := by
          rw [List.take_add_one, hx]; simp
        by_cases hyv : y = v
        · subst hyv
          rw [List.getElem?_set_self hv, if_pos (hmem.2 (.inr rfl))]
          have hxi : o[i] = (y : Int) := by
            rw [List.getElem?_eq_getElem hi] at hx; exact Option.some.inj hx
          rw [← hxi, List.Nodup.idxOf_getElem hA.nd]
        · rw [List.getElem?_set_ne (by omega), k2 y hy]
          have : ((y : Int) ∈ o.take (i + 1)) ↔ ((y : Int) ∈ o.take i) := by
            rw [hmem]
            constructor
            · rintro (h | h)
              · exact h
              · omega
            · exact .inl
          simp only [this])
    (fun s _ => by unfold F_canon_Canon_l0; simp)
  exact ⟨P, h1, h2, fun x hx => by rw [h3 x hx, List.take_length]; rfl⟩
theorem row_loop {N : Nat} {o P row : List Int} {n : Nat} (hN : 4294967296 ≤ N) (hg : ∀ x : Nat, x < n → P[x]? = some (pl o x)) (hw : row.length = 256) (hr : ∀ y ∈ row, 0 ≤ y ∧ y < (n : Int)) :
    iterO N (fun s => F_canon_Canon_l2 N P row s.1 s.2) (row, 0) = some (row.map (pl o)) := by
  obtain ⟨r, h1, h2, h3⟩ := loop_inv (f := fun s => F_canon_Canon_l2 N P row s.1 s.2) (fun i (s : List Int) => (s, (i : Int))) id row (fun i r => r.length = 256 ∧ ∀ j : Nat, r[j]? = if j < i then (row[j]?).map (pl o) else row[j]?) (N := N) (s := row) (by omega)
    ⟨hw, fun j => by simp⟩
    (fun i x r hx hI => by
      obtain ⟨k1, k2⟩ := hI
      have hi := lt_len hx
      have hxr := hr x (List.mem_of_getElem? hx)
      obtain ⟨v, rfl⟩ : ∃ v : Nat, x = (v : Int) := ⟨x.toNat, by omega⟩
      have hv : v < n := by omega
      have hir : i < r.length := by omega
      refine ⟨r.set i (pl o v), ?_, by simp [k1], fun j => ?_⟩
      · unfold F_canon_Canon_l2
        simp only [show ((i : Int) < 256) by omega, decide_true, if_true, idx_of hx, idx_of (hg v hv), idx_nat hir, setI_nat hir, bind, Option.bind_some]
        rw [w64_succ (by omega)]
      · by_cases hj : j = i
        · subst hj
          rw [List.getElem?_set_self hir, if_pos (by omega), hx]; rfl
        · rw [List.getElem?_set_ne (by omega), k2 j]
          by_cases h : j < i
          · rw [if_pos h, if_pos (by omega)]
          · rw [if_neg h, if_neg (by omega)])
    (fun s _ => by unfold F_canon_Canon_l2; simp [hw])
  rw [show iterO N (fun s => F_canon_Canon_l2 N P row s.1 s.2) (row, 0) = _ from h1]
  congr 1
  apply List.ext_getElem?
  intro j
  rw [id, h3 j, List.getElem?_map]
  by_cases h : j < row.length
  · rw [if_pos h]
  · rw [if_neg h, List.getElem?_eq_none (by omega)]; rfl
theorem getD_of {α : Type} {l : List α} {i : Nat} {x d : α} (h : l[i]? = some x) : l.getD i d = x := by rw [List.getD, h]; rfl
theorem canon_spec {N : Nat} {rows : List (List Int)} {rule entry : List Int} (hN : 4294967296 ≤ N) (hs : Sz rows rule entry) (h : Rt rows rule entry) :
    F_canon_Canon N rows rule entry = some (reRows (ord rows entry) rows, reRule (ord rows entry) rule, reEntry (ord rows entry) entry) := by
  obtain ⟨hA, hp, hc⟩ := ord_props h
  have hle := hA.len
  have hn2 := h.n2
  have he2 := h.e2
  obtain ⟨b, hb, hbt⟩ := right_spec hN hs
  rw [hbt.2 h] at hb
  have hz : (0 : Int) ∈ ord rows entry := hp.subset (mem_insAll.2 (.inl (by simp)))
  have hpos : 0 < (ord rows entry).length := List.length_pos_of_mem hz
  unfold F_canon_Canon F_canon_Order
  obtain ⟨P, p1, p2, p3⟩ := place_loop (N := N) hN (show rows.length < 4294967296 by omega) hA
  simp only [hb, bind, Option.bind_some, Bool.not_true, Bool.false_eq_true, if_false, order_spec hN hs h]
  rw [mk_eq (by omega)]
  simp only [Option.bind_some]
  rw [p1]
  simp only [Option.bind_some]
  obtain ⟨s1, q1, q2, q3⟩ := loop_inv (f := fun s => F_canon_Canon_l1 N rows rule (ord rows entry) P s.1 s.2.1 s.2.2) (fun i (s : List (List Int) × List Int) => (s.1, s.2, (i : Int))) id (ord rows entry)
    (fun i s => s.1 = (reRows (ord rows entry) rows).take i ∧ s.2 = (reRule (ord rows entry) rule).take i) (N := N) (s := ([], [])) (by omega) ⟨by simp, by simp⟩
    (fun i x s hx hI => by
      obtain ⟨k1, k2⟩ := hI
      obtain ⟨R, U⟩ := s
      simp only at k1 k2
      have hi := lt_len hx
      have hxr := hA.rng x (List.mem_of_getElem? hx)
      obtain ⟨row, r1, r2, r3, r4⟩ := row_of h hxr
      obtain ⟨v, rfl⟩ : ∃ v : Nat, x = (v : Int) := ⟨x.toNat, by omega⟩
      have hvu : v < rule.length := by have := h.ru; omega
      have l1 : R.length ≤ i := by rw [k1]; simp; omega
      have l2 : U.length ≤ i := by rw [k2]; simp; omega
      have g1 : (reRows (ord rows entry) rows)[i]? = some (row.map (pl (ord rows entry))) := by
        unfold reRows; rw [List.getElem?_map, hx, ← r2]; rfl
      have g2 : (reRule (ord rows entry) rule)[i]? = some rule[v] := by
        unfold reRule; rw [List.getElem?_map, hx]
        show some (rule.getD (v : Int).toNat 0) = _
        rw [getD_of (List.getElem?_eq_getElem (show (v : Int).toNat < rule.length by simpa using hvu))]
        rfl
      refine ⟨(R ++ [row.map (pl (ord rows entry))], U ++ [rule[v]]), ?_, ?_, ?_⟩
      · unfold F_canon_Canon_l1
        simp only [show ((i : Int) < ((ord rows entry).length : Int)) by omega, decide_true, if_true, idx_of hx, r1, bind, Option.bind_some]
        rw [row_loop hN p3 (hs.w row r3) r4]
        simp only [Option.bind_some]
        rw [app_eq (by simp; omega)]
        simp only [Option.bind_some, idx_nat hvu]
        rw [app_eq (by simp; omega)]
        simp only [Option.bind_some]
        rw [w64_succ (by omega)]
      · rw [List.take_add_one, g1, k1]; rfl
      · rw [List.take_add_one, g2, k2]; rfl)
    (fun s _ => by unfold F_canon_Canon_l1; simp)
  rw [show iterO N (fun s => F_canon_Canon_l1 N rows rule (ord rows entry) P s.1 s.2.1 s.2.2) ([], [], 0) = _ from q1]
  rw [List.take_of_length_le (by simp [reRows])] at q2
  rw [List.take_of_length_le (by simp [reRule])] at q3
  obtain ⟨s1a, s1b⟩ := s1
  simp only at q2 q3
  subst q2 q3
  simp only [Option.bind_some, id]
  have hne : (((ord rows entry).length : Int) == 0) = false := by
    have : ¬ (((ord rows entry).length : Int) = 0) := by omega
    simpa using this
  simp only [hne, Bool.false_eq_true, if_false]
  obtain ⟨s3, w1, w2⟩ := loop_inv (f := fun s => F_canon_Canon_l3 N entry P s.1 s.2) (fun i (s : List Int) => (s, (i : Int))) id entry (fun i s => s = (reEntry (ord rows entry) entry).take i) (N := N) (s := []) (by omega) (by simp)
    (fun i x s hx k1 => by
      have hi := lt_len hx
      have hxr := h.ent x (List.mem_of_getElem? hx)
      obtain ⟨v, rfl⟩ : ∃ v : Nat, x = (v : Int) := ⟨x.toNat, by omega⟩
      have l1 : s.length ≤ i := by rw [k1]; simp; omega
      refine ⟨s ++ [pl (ord rows entry) v], ?_, ?_⟩
      · unfold F_canon_Canon_l3
        simp only [show ((i : Int) < (entry.length : Int)) by omega, decide_true, if_true, idx_of hx, idx_of (p3 v (by omega)), bind, Option.bind_some]
        rw [app_eq (by simp; omega)]
        simp only [Option.bind_some]
        rw [w64_succ (by omega)]
      · have : (reEntry (ord rows entry) entry)[i]? = some (pl (ord rows entry) v) := by unfold reEntry; rw [List.getElem?_map, hx]; rfl
        rw [List.take_add_one, this, k1]; rfl)
    (fun s _ => by unfold F_canon_Canon_l3; simp)
  rw [show iterO N (fun s => F_canon_Canon_l3 N entry P s.1 s.2) ([], 0) = _ from w1]
  rw [List.take_of_length_le (by simp [reEntry])] at w2
  subst w2
  rfl
end Go.Proofs.YteiaphkejkgfkaaDoor
