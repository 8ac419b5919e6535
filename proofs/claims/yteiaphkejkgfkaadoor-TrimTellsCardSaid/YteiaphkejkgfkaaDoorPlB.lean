/-
  PLAIN LEAN: subset.Right; the document's Right; both say the same of rows of 256 cells.
-/
import Derived.Test.YteiaphkejkgfkaaDoorPlA
import Derived.Test.YteiaphkejkgfkaaDoorAlD
namespace Go.Proofs.YteiaphkejkgfkaaDoor
open Go Go.Eng
theorem lt_len {α : Type} {xs : List α} {i : Nat} {x : α} (h : xs[i]? = some x) : i < xs.length := (List.getElem?_eq_some_iff.1 h).1
theorem right1 (N : Nat) (x n : Int) : F_subset_Right_1 N x n = some (decide (x < 0) || decide (x ≥ n)) := by
  unfold F_subset_Right_1
  by_cases h : x < 0 <;> simp [h]
theorem right2 (N : Nat) (x : Int) : F_subset_Right_2 N x = some (decide (x < -1) || decide (x ≥ 48)) := by
  unfold F_subset_Right_2
  by_cases h : x < -1 <;> simp [h]
theorem contains1 {N : Nat} {xs : List Int} {n : Int} (hN : 4294967296 ≤ N) (hl : xs.length < 4294967296) : F_slices_ContainsFunc_int_int N xs n = some (xs.any fun x => decide (x < 0) || decide (x ≥ n)) := by
  unfold F_slices_ContainsFunc_int_int F_slices_IndexFunc_int_int
  rw [loop_find xs (fun x => decide (x < 0) || decide (x ≥ n)) (fun i => (i : Int)) (by omega) (fun i x hx => by
    have hi := lt_len hx
    unfold F_slices_IndexFunc_int_int_l0
    simp only [show ((i : Int) < (xs.length : Int)) by omega, decide_true, if_true, idx_of hx, right1, bind, Option.bind_some]
    rw [w64_succ (by omega)]) (by unfold F_slices_IndexFunc_int_int_l0; simp)]
  cases h : xs.findIdx? _ with
  | none =>
    have : xs.any (fun x => decide (x < 0) || decide (x ≥ n)) = false := List.any_eq_false.2 fun x hx => by rw [List.findIdx?_eq_none_iff.1 h x hx]; simp
    simp [this]
  | some k =>
    obtain ⟨hk, hp, _⟩ := List.findIdx?_eq_some_iff_getElem.1 h
    have : xs.any (fun x => decide (x < 0) || decide (x ≥ n)) = true := List.any_eq_true.2 ⟨_, List.getElem_mem hk, hp⟩
    rw [this]
    simp
theorem contains2 {N : Nat} {xs : List Int} (hN : 4294967296 ≤ N) (hl : xs.length < 4294967296) : F_slices_ContainsFunc_int_int_1 N xs = some (xs.any fun x => decide (x < -1) || decide (x ≥ 48)) := by
  unfold F_slices_ContainsFunc_int_int_1 F_slices_IndexFunc_int_int_1
  rw [loop_find xs (fun x => decide (x < -1) || decide (x ≥ 48)) (fun i => (i : Int)) (by omega) (fun i x hx => by
    have hi := lt_len hx
    unfold F_slices_IndexFunc_int_int_1_l0
    simp only [show ((i : Int) < (xs.length : Int)) by omega, decide_true, if_true, idx_of hx, right2, bind, Option.bind_some]
    rw [w64_succ (by omega)]) (by unfold F_slices_IndexFunc_int_int_1_l0; simp)]
  cases h : xs.findIdx? _ with
  | none =>
    have : xs.any (fun x => decide (x < -1) || decide (x ≥ 48)) = false := List.any_eq_false.2 fun x hx => by rw [List.findIdx?_eq_none_iff.1 h x hx]; simp
    simp [this]
  | some k =>
    obtain ⟨hk, hp, _⟩ := List.findIdx?_eq_some_iff_getElem.1 h
    have : xs.any (fun x => decide (x < -1) || decide (x ≥ 48)) = true := List.any_eq_true.2 ⟨_, List.getElem_mem hk, hp⟩
    rw [this]
    simp

/-- what a DFA must be -/
structure Rt (rows : List (List Int)) (rule entry : List Int) : Prop where
  n1 : 1 ≤ rows.length
  n2 : rows.length ≤ 200
  ru : rule.length = rows.length
  e1 : 1 ≤ entry.length
  e2 : entry.length ≤ 8
  row : ∀ r ∈ rows, ∀ x ∈ r, 0 ≤ x ∧ x < rows.length
  rul : ∀ x ∈ rule, -1 ≤ x ∧ x < 48
  ent : ∀ x ∈ entry, 0 ≤ x ∧ x < rows.length
  r0 : rows[0]? = some (List.replicate 256 0)
  u0 : rule[0]? = some (-1)
/-- rows of 256, lists of a length that memory bears -/
structure Sz (rows : List (List Int)) (rule entry : List Int) : Prop where
  w : ∀ r ∈ rows, r.length = 256
  a : rows.length < 4294967296
  b : rule.length < 4294967296
  c : entry.length < 4294967296

theorem right_spec {N : Nat} {rows : List (List Int)} {rule entry : List Int} (hN : 4294967296 ≤ N) (hs : Sz rows rule entry) : ∃ b, F_subset_Right N rows rule entry = some b ∧ (b = true ↔ Rt rows rule entry) := by
  unfold F_subset_Right
  generalize hz : List.replicate 256 (0 : Int) = z
  by_cases a1 : (rows.length : Int) < 1
  · exact ⟨false, by simp [a1], by simp; intro h; have := h.n1; omega⟩
  by_cases a2 : (rows.length : Int) > 200
  · exact ⟨false, by simp [a1, a2], by simp; intro h; have := h.n2; omega⟩
  by_cases a3 : rule.length = rows.length
  case neg =>
    have e0 : ((rule.length : Int) != (rows.length : Int)) = true := by simp; omega
    exact ⟨false, by simp [a1, a2, e0], by simp; intro h; exact a3 h.ru⟩
  by_cases a4 : (entry.length : Int) < 1
  · exact ⟨false, by simp [a1, a2, a3, a4], by simp; intro h; have := h.e1; omega⟩
  by_cases a5 : (entry.length : Int) > 8
  · exact ⟨false, by simp [a1, a2, a3, a4, a5], by simp; intro h; have := h.e2; omega⟩
  have e0 : ((rule.length : Int) != (rows.length : Int)) = false := by simp [a3]
  simp only [decide_eq_false a1, decide_eq_false a2, e0, decide_eq_false a4, decide_eq_false a5, bind, Option.bind_some, Bool.false_eq_true, if_false]
  rw [loop_any rows (fun r => r.any fun x => decide (x < 0) || decide (x ≥ (rows.length : Int))) false (by have := hs.a; omega) (fun i r hr => by
    have hi := lt_len hr
    have hw := hs.w r (List.mem_of_getElem? hr)
    unfold F_subset_Right_l0
    simp only [show ((i : Int) < (rows.length : Int)) by omega, decide_true, if_true, idx_of hr, contains1 hN (show r.length < 4294967296 by omega), bind, Option.bind_some]
    rw [w64_succ (by have := hs.a; omega)]) (by unfold F_subset_Right_l0; simp)]
  by_cases c1 : (rows.any fun r => r.any fun x => decide (x < 0) || decide (x ≥ (rows.length : Int))) = true
  · refine ⟨false, by simp [c1], ?_⟩
    simp
    intro h
    obtain ⟨r, hr, hx⟩ := List.any_eq_true.1 c1
    obtain ⟨x, hx, hp⟩ := List.any_eq_true.1 hx
    have := h.row r hr x hx
    simp at hp; omega
  rw [if_neg c1]
  simp only [contains2 hN hs.b, contains1 hN hs.c, Option.bind_some]
  by_cases c2 : (rule.any fun x => decide (x < -1) || decide (x ≥ 48)) = true
  · refine ⟨false, by simp [c2], ?_⟩
    simp
    intro h
    obtain ⟨x, hx, hp⟩ := List.any_eq_true.1 c2
    have := h.rul x hx
    simp at hp; omega
  by_cases c3 : (entry.any fun x => decide (x < 0) || decide (x ≥ (rows.length : Int))) = true
  · refine ⟨false, by simp [c2, c3], ?_⟩
    simp
    intro h
    obtain ⟨x, hx, hp⟩ := List.any_eq_true.1 c3
    have := h.ent x hx
    simp at hp; omega
  have hr0 : 0 < rows.length := by omega
  have hu0 : 0 < rule.length := by omega
  simp only [if_neg c2, Option.bind_some, if_neg c3]
  have i0 : idx rows 0 = some rows[0] := idx_nat (i := 0) hr0
  have i1 : idx rule 0 = some rule[0] := idx_nat (i := 0) hu0
  rw [i0, i1]
  have c1' : ∀ r ∈ rows, ∀ x ∈ r, 0 ≤ x ∧ x < (rows.length : Int) := by
    intro r hr x hx
    have h1 : (rows.any fun r => r.any fun x => decide (x < 0) || decide (x ≥ (rows.length : Int))) = false := by simpa using c1
    have h2 := List.any_eq_false.1 h1 r hr
    have h3 := List.any_eq_false.1 (by simpa using h2 : (r.any fun x => decide (x < 0) || decide (x ≥ (rows.length : Int))) = false) x hx
    simp at h3; omega
  have c2' : ∀ x ∈ rule, -1 ≤ x ∧ x < 48 := by
    intro x hx
    have h3 := List.any_eq_false.1 (by simpa using c2 : (rule.any fun x => decide (x < -1) || decide (x ≥ 48)) = false) x hx
    simp at h3; omega
  have c3' : ∀ x ∈ entry, 0 ≤ x ∧ x < (rows.length : Int) := by
    intro x hx
    have h3 := List.any_eq_false.1 (by simpa using c3 : (entry.any fun x => decide (x < 0) || decide (x ≥ (rows.length : Int))) = false) x hx
    simp at h3; omega
  by_cases d1 : rows[0] = z
  · by_cases d2 : rule[0] = -1
    · refine ⟨true, by simp [d1, d2], ?_⟩
      simp
      exact ⟨by omega, by omega, a3, by omega, by omega, c1', c2', c3', by rw [List.getElem?_eq_getElem hr0, d1, hz], by rw [List.getElem?_eq_getElem hu0, d2]⟩
    · refine ⟨false, by simp [d1, d2], ?_⟩
      simp
      intro h
      have := h.u0
      rw [List.getElem?_eq_getElem hu0] at this
      exact d2 (Option.some.inj this)
  · refine ⟨false, by simp [d1], ?_⟩
    simp
    intro h
    have := h.r0
    rw [List.getElem?_eq_getElem hr0, hz] at this
    exact d1 (Option.some.inj this)
end Go.Proofs.YteiaphkejkgfkaaDoor
