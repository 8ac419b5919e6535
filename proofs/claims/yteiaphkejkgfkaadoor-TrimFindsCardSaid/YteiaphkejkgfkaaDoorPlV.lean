/-
  PLAIN LEAN: the code's Trim.
-/
import Derived.Test.YteiaphkejkgfkaaDoorPlS
namespace Go.Proofs.YteiaphkejkgfkaaDoor
open Go Go.Eng
/-- the array of the places -/
theorem placeT {N : Nat} {o : List Int} {n : Nat} (hN : 4294967296 ≤ N) (hn : n < 4294967296) (hA : Acc n o) :
    ∃ P, iterO N (fun s => F_trim_Trim_l0 N o s.1 s.2) (0, List.replicate n 0) = some P ∧ P.length = n ∧ ∀ x : Nat, x < n → P[x]? = some (pl o x) := by
  have hle := hA.len
  obtain ⟨P, h1, h2, h3⟩ := loop_inv (f := fun s => F_trim_Trim_l0 N o s.1 s.2) (fun i (s : List Int) => ((i : Int), s)) id o (fun i P => P.length = n ∧ ∀ x : Nat, x < n → P[x]? = some (if (x : Int) ∈ o.take i then (o.idxOf (x : Int) : Int) else 0)) (N := N) (s := List.replicate n 0) (by omega)
    ⟨by simp, fun x hx => by simp [hx]⟩
    (fun i x P hx hI => by
      obtain ⟨k1, k2⟩ := hI
      have hi := lt_len hx
      have hxr := hA.rng x (List.mem_of_getElem? hx)
      obtain ⟨v, rfl⟩ : ∃ v : Nat, x = (v : Int) := ⟨x.toNat, by omega⟩
      have hv : v < P.length := by omega
      refine ⟨P.set v (i : Int), ?_, by simp [k1], fun y hy => ?_⟩
      · unfold F_trim_Trim_l0
        simp only [show ((i : Int) < (o.length : Int)) by omega, decide_true, if_true, idx_of hx, idx_nat hv, setI_nat hv, bind, Option.bind_some]
        rw [w64_succ (by omega)]
      · have hmem : ((y : Int) ∈ o.take (i + 1)) ↔ ((y : Int) ∈ o.take i ∨ (y : Int) = v) := by
          rw [List.take_add_one, hx]; simp
        by_cases hyv : y = v
        · subst hyv
          rw [List.getElem?_set_self hv, if_pos (hmem.2 (.inr rfl))]
          have hxi : o[i] = (y : Int) := by
            rw [List.getElem?_eq_getElem hi] at hx; exact Option.some.inj hx
          rw [← hxi, List.Nodup.idxOf_getElem hA.nd]
        · rw [List.getElem?_set_ne (by omega), k2 y hy]
          have : ((y : Int) ∈ o.take (i + 1)) ↔ ((y : Int) ∈ o.take i) := by
            rw [hmem]
            constructor
            · rintro (h | h)
              · exact h
              · omega
            · exact .inl
          simp only [this])
    (fun s _ => by unfold F_trim_Trim_l0; simp)
  exact ⟨P, h1, h2, fun x hx => by rw [h3 x hx, List.take_length]; rfl⟩
theorem rowT {N : Nat} {o P row : List Int} {n : Nat} (hN : 4294967296 ≤ N) (hg : ∀ x : Nat, x < n → P[x]? = some (pl o x)) (hw : row.length = 256) (hr : ∀ y ∈ row, 0 ≤ y ∧ y < (n : Int)) :
    iterO N (fun s => F_trim_Trim_l2 N P row s.1 s.2) (row, 0) = some (row.map (pl o)) := by
  obtain ⟨r, h1, h2, h3⟩ := loop_inv (f := fun s => F_trim_Trim_l2 N P row s.1 s.2) (fun i (s : List Int) => (s, (i : Int))) id row (fun i r => r.length = 256 ∧ ∀ j : Nat, r[j]? = if j < i then (row[j]?).map (pl o) else row[j]?) (N := N) (s := row) (by omega)
    ⟨hw, fun j => by simp⟩
    (fun i x r hx hI => by
      obtain ⟨k1, k2⟩ := hI
      have hi := lt_len hx
      have hxr := hr x (List.mem_of_getElem? hx)
      obtain ⟨v, rfl⟩ : ∃ v : Nat, x = (v : Int) := ⟨x.toNat, by omega⟩
      have hv : v < n := by omega
      have hir : i < r.length := by omega
      refine ⟨r.set i (pl o v), ?_, by simp [k1], fun j => ?_⟩
      · unfold F_trim_Trim_l2
        simp only [show ((i : Int) < 256) by omega, decide_true, if_true, idx_of hx, idx_of (hg v hv), idx_nat hir, setI_nat hir, bind, Option.bind_some]
        rw [w64_succ (by omega)]
      · by_cases hj : j = i
        · subst hj
          rw [List.getElem?_set_self hir, if_pos (by omega), hx]; rfl
        · rw [List.getElem?_set_ne (by omega), k2 j]
          by_cases h : j < i
          · rw [if_pos h, if_pos (by omega)]
          · rw [if_neg h, if_neg (by omega)])
    (fun s _ => by unfold F_trim_Trim_l2; simp [hw])
  rw [show iterO N (fun s => F_trim_Trim_l2 N P row s.1 s.2) (row, 0) = _ from h1]
  congr 1
  apply List.ext_getElem?
  intro j
  rw [id, h3 j, List.getElem?_map]
  by_cases h : j < row.length
  · rw [if_pos h]
  · rw [if_neg h, List.getElem?_eq_none (by omega)]; rfl
theorem trim_spec {N : Nat} {rows : List (List Int)} {rule entry : List Int} (hN : 4294967296 ≤ N) (hs : Sz rows rule entry) (h : Rt rows rule entry) :
    F_trim_Trim N rows rule entry = some (reRows (kp rows rule entry) rows, reRule (kp rows rule entry) rule, reEntry (kp rows rule entry) entry) := by
  have hA := kp_acc (rows := rows) (rule := rule) (entry := entry)
  have hle := hA.len
  have hn2 := h.n2
  have he2 := h.e2
  unfold F_trim_Trim
  obtain ⟨P, p1, p2, p3⟩ := placeT (N := N) hN (show rows.length < 4294967296 by omega) hA
  simp only [right_yes hN hs h, bind, Option.bind_some, Bool.not_true, Bool.false_eq_true, if_false, kept_spec hN hs h]
  rw [mk_eq (by omega)]
  simp only [Option.bind_some]
  rw [p1]
  simp only [Option.bind_some]
  obtain ⟨s1, q1, q2, q3⟩ := loop_inv (f := fun s => F_trim_Trim_l1 N rows rule (kp rows rule entry) P s.1 s.2.1 s.2.2) (fun i (s : List (List Int) × List Int) => ((i : Int), s.1, s.2)) id (kp rows rule entry)
    (fun i s => s.1 = (reRows (kp rows rule entry) rows).take i ∧ s.2 = (reRule (kp rows rule entry) rule).take i) (N := N) (s := ([], [])) (by omega) ⟨by simp, by simp⟩
    (fun i x s hx hI => by
      obtain ⟨k1, k2⟩ := hI
      obtain ⟨R, U⟩ := s
      simp only at k1 k2
      have hi := lt_len hx
      have hxr := hA.rng x (List.mem_of_getElem? hx)
      obtain ⟨row, r1, r2, r3, r4⟩ := row_of h hxr
      obtain ⟨v, rfl⟩ : ∃ v : Nat, x = (v : Int) := ⟨x.toNat, by omega⟩
      have hvu : v < rule.length := by have := h.ru; omega
      have l1 : R.length ≤ i := by rw [k1]; simp; omega
      have l2 : U.length ≤ i := by rw [k2]; simp; omega
      have g1 : (reRows (kp rows rule entry) rows)[i]? = some (row.map (pl (kp rows rule entry))) := by
        unfold reRows; rw [List.getElem?_map, hx, ← r2]; rfl
      have g2 : (reRule (kp rows rule entry) rule)[i]? = some rule[v] := by
        unfold reRule; rw [List.getElem?_map, hx]
        show some (rule.getD (v : Int).toNat 0) = _
        rw [getD_of (List.getElem?_eq_getElem (show (v : Int).toNat < rule.length by simpa using hvu))]
        rfl
      refine ⟨(R ++ [row.map (pl (kp rows rule entry))], U ++ [rule[v]]), ?_, ?_, ?_⟩
      · unfold F_trim_Trim_l1
        simp only [show ((i : Int) < ((kp rows rule entry).length : Int)) by omega, decide_true, if_true, idx_of hx, r1, bind, Option.bind_some]
        rw [rowT hN p3 (hs.w row r3) r4]
        simp only [Option.bind_some]
        rw [app_eq (by simp; omega)]
        simp only [Option.bind_some, idx_nat hvu]
        rw [app_eq (by simp; omega)]
        simp only [Option.bind_some]
        rw [w64_succ (by omega)]
      · rw [List.take_add_one, g1, k1]; rfl
      · rw [List.take_add_one, g2, k2]; rfl)
    (fun s _ => by unfold F_trim_Trim_l1; simp)
  rw [show iterO N (fun s => F_trim_Trim_l1 N rows rule (kp rows rule entry) P s.1 s.2.1 s.2.2) (0, [], []) = _ from q1]
  rw [List.take_of_length_le (by simp [reRows])] at q2
  rw [List.take_of_length_le (by simp [reRule])] at q3
  obtain ⟨s1a, s1b⟩ := s1
  simp only at q2 q3
  subst q2 q3
  simp only [Option.bind_some, id]
  obtain ⟨s3, w1, w2⟩ := loop_inv (f := fun s => F_trim_Trim_l3 N entry P s.1 s.2) (fun i (s : List Int) => (s, (i : Int))) id entry (fun i s => s = (reEntry (kp rows rule entry) entry).take i) (N := N) (s := []) (by omega) (by simp)
    (fun i x s hx k1 => by
      have hi := lt_len hx
      have hxr := h.ent x (List.mem_of_getElem? hx)
      obtain ⟨v, rfl⟩ : ∃ v : Nat, x = (v : Int) := ⟨x.toNat, by omega⟩
      have l1 : s.length ≤ i := by rw [k1]; simp; omega
      refine ⟨s ++ [pl (kp rows rule entry) v], ?_, ?_⟩
      · unfold F_trim_Trim_l3
        simp only [show ((i : Int) < (entry.length : Int)) by omega, decide_true, if_true, idx_of hx, idx_of (p3 v (by omega)), bind, Option.bind_some]
        rw [app_eq (by simp; omega)]
        simp only [Option.bind_some]
        rw [w64_succ (by omega)]
      · have : (reEntry (kp rows rule entry) entry)[i]? = some (pl (kp rows rule entry) v) := by unfold reEntry; rw [List.getElem?_map, hx]; rfl
        rw [List.take_add_one, this, k1]; rfl)
    (fun s _ => by unfold F_trim_Trim_l3; simp)
  rw [show iterO N (fun s => F_trim_Trim_l3 N entry P s.1 s.2) ([], 0) = _ from w1]
  rw [List.take_of_length_le (by simp [reEntry])] at w2
  subst w2
  rfl
theorem reO_right {rows : List (List Int)} {rule entry o : List Int} (h : Rt rows rule entry) (hA : Acc rows.length o) (h00 : o[0]? = some 0) : Rt (reRows o rows) (reRule o rule) (reEntry o entry) := by
  have hle := hA.len
  have hpos : 0 < o.length := (List.getElem?_eq_some_iff.1 h00).1
  have hpl0 : pl o 0 = 0 := by
    have := pl_get hA.nd hpos
    rw [List.getElem?_eq_getElem hpos] at h00
    rw [Option.some.inj h00] at this
    exact this
  have hlen : (reRows o rows).length = o.length := by simp [reRows]
  refine ⟨by omega, by have := h.n2; omega, by simp [reRule, reRows], by simpa [reEntry] using h.e1, by simpa [reEntry] using h.e2, ?_, ?_, ?_, ?_, ?_⟩
  · intro r hr x hx
    obtain ⟨s, hs, rfl⟩ := mem_reRows hr
    obtain ⟨y, hy, rfl⟩ := List.mem_map.1 hx
    rw [hlen]
    exact pl_rng hpos
  · intro x hx
    obtain ⟨s, hs, rfl⟩ := List.mem_map.1 hx
    have hsr := hA.rng s hs
    have hru := h.ru
    rw [List.getD, List.getElem?_eq_getElem (show s.toNat < rule.length by omega)]
    exact h.rul _ (List.getElem_mem _)
  · intro x hx
    obtain ⟨s, hs, rfl⟩ := List.mem_map.1 hx
    rw [hlen]
    exact pl_rng hpos
  · unfold reRows
    rw [List.getElem?_map, h00]
    show some ((rows.getD 0 []).map _) = _
    rw [List.getD, h.r0]
    show some ((List.replicate 256 0).map (pl o)) = _
    rw [List.map_replicate, hpl0]
  · unfold reRule
    rw [List.getElem?_map, h00]
    show some (rule.getD 0 0) = _
    rw [List.getD, h.u0]; rfl
theorem reO_sz {rows : List (List Int)} {rule entry o : List Int} (hs : Sz rows rule entry) (h : Rt rows rule entry) (hA : Acc rows.length o) : Sz (reRows o rows) (reRule o rule) (reEntry o entry) := by
  have hle := hA.len
  have hn := h.n2
  have he := h.e2
  refine ⟨fun r hr => ?_, by simp only [reRows, List.length_map]; omega, by simp only [reRule, List.length_map]; omega, by simp only [reEntry, List.length_map]; omega⟩
  obtain ⟨s, hs', rfl⟩ := mem_reRows hr
  have hsr := hA.rng s hs'
  rw [List.length_map, getD_of (List.getElem?_eq_getElem (show s.toNat < rows.length by omega))]
  exact hs.w _ (List.getElem_mem _)
theorem trim_not {N : Nat} {rows : List (List Int)} {rule entry : List Int} (hN : 4294967296 ≤ N) (hs : Sz rows rule entry) (h : ¬ Rt rows rule entry) : F_trim_Trim N rows rule entry = some ([], [], []) := by
  unfold F_trim_Trim
  simp [right_not hN hs h]
end Go.Proofs.YteiaphkejkgfkaaDoor
