/-
  PLAIN LEAN: the document's automaton numbered anew; when an automaton is numbered so already.
-/
import Derived.Test.YteiaphkejkgfkaaDoorPlH
namespace Go.Proofs.YteiaphkejkgfkaaDoor
open Go Go.Eng
theorem refRow_loop {N : Nat} {rows : List (List Int)} {o row : List Int} {s : Int} (hN : 4294967296 ≤ N) (ho : o.length < 4294967296) (hr : idx rows s = some row) (hw : row.length = 256) :
    iterO N (fun t => F_dofferref20_Canon_l1 N rows o s t.1 t.2) (List.replicate 256 0, 0) = some (row.map (pl o)) := by
  obtain ⟨r, h1, h2, h3⟩ := loop_inv (f := fun t => F_dofferref20_Canon_l1 N rows o s t.1 t.2) (fun i (s : List Int) => (s, (i : Int))) id row (fun i r => r.length = 256 ∧ ∀ j : Nat, j < i → r[j]? = (row[j]?).map (pl o)) (N := N) (s := List.replicate 256 0) (by omega)
    ⟨List.length_replicate, fun j hj => absurd hj (by omega)⟩
    (fun i x r hx hI => by
      obtain ⟨k1, k2⟩ := hI
      have hi := lt_len hx
      have hir : i < r.length := by omega
      refine ⟨r.set i (pl o x), ?_, by simp [k1], fun j hj => ?_⟩
      · unfold F_dofferref20_Canon_l1
        simp only [show ((i : Int) < 256) by omega, decide_true, if_true, hr, idx_of hx, place_spec hN ho, idx_nat hir, setI_nat hir, bind, Option.bind_some]
        rw [w64_succ (by omega)]
      · by_cases hji : j = i
        · subst hji
          rw [List.getElem?_set_self hir, hx]; rfl
        · rw [List.getElem?_set_ne (by omega), k2 j (by omega)])
    (fun s _ => by unfold F_dofferref20_Canon_l1; simp [hw])
  rw [show iterO N (fun t => F_dofferref20_Canon_l1 N rows o s t.1 t.2) (List.replicate 256 0, 0) = _ from h1]
  congr 1
  apply List.ext_getElem?
  intro j
  rw [id, List.getElem?_map]
  by_cases h : j < row.length
  · exact h3 j h
  · rw [List.getElem?_eq_none (by omega), List.getElem?_eq_none (by omega)]; rfl
theorem refCanon_spec {N : Nat} {rows : List (List Int)} {rule entry : List Int} (hN : 4294967296 ≤ N) (hs : Sz rows rule entry) (h : Rt rows rule entry) :
    F_dofferref20_Canon N rows rule entry = some (reRows (ord rows entry) rows, reRule (ord rows entry) rule, reEntry (ord rows entry) entry) := by
  obtain ⟨hA, hp, hc⟩ := ord_props h
  have hle := hA.len
  have hn2 := h.n2
  have he2 := h.e2
  unfold F_dofferref20_Canon
  simp only [refOrder_spec hN hs h, bind, Option.bind_some]
  obtain ⟨s1, q1, q2, q3⟩ := loop_inv (f := fun s => F_dofferref20_Canon_l0 N rows rule (ord rows entry) s.1 s.2.1 s.2.2) (fun i (s : List (List Int) × List Int) => ((i : Int), s.1, s.2)) id (ord rows entry)
    (fun i s => s.1 = (reRows (ord rows entry) rows).take i ∧ s.2 = (reRule (ord rows entry) rule).take i) (N := N) (s := ([], [])) (by omega) ⟨by simp, by simp⟩
    (fun i x s hx hI => by
      obtain ⟨k1, k2⟩ := hI
      obtain ⟨R, U⟩ := s
      simp only at k1 k2
      have hi := lt_len hx
      have hxr := hA.rng x (List.mem_of_getElem? hx)
      obtain ⟨row, r1, r2, r3, r4⟩ := row_of h hxr
      obtain ⟨v, rfl⟩ : ∃ v : Nat, x = (v : Int) := ⟨x.toNat, by omega⟩
      have hvu : v < rule.length := by have := h.ru; omega
      have l1 : R.length ≤ i := by rw [k1]; simp; omega
      have l2 : U.length ≤ i := by rw [k2]; simp; omega
      have g1 : (reRows (ord rows entry) rows)[i]? = some (row.map (pl (ord rows entry))) := by
        unfold reRows; rw [List.getElem?_map, hx, ← r2]; rfl
      have g2 : (reRule (ord rows entry) rule)[i]? = some rule[v] := by
        unfold reRule; rw [List.getElem?_map, hx]
        show some (rule.getD (v : Int).toNat 0) = _
        rw [getD_of (List.getElem?_eq_getElem (show (v : Int).toNat < rule.length by simpa using hvu))]
        rfl
      refine ⟨(R ++ [row.map (pl (ord rows entry))], U ++ [rule[v]]), ?_, ?_, ?_⟩
      · unfold F_dofferref20_Canon_l0
        simp only [show ((i : Int) < ((ord rows entry).length : Int)) by omega, decide_true, if_true, idx_of hx, bind, Option.bind_some]
        rw [refRow_loop hN (by omega) r1 (hs.w row r3)]
        simp only [Option.bind_some]
        rw [app_eq (by simp; omega)]
        simp only [Option.bind_some, idx_nat hvu]
        rw [app_eq (by simp; omega)]
        simp only [Option.bind_some]
        rw [w64_succ (by omega)]
      · rw [List.take_add_one, g1, k1]; rfl
      · rw [List.take_add_one, g2, k2]; rfl)
    (fun s _ => by unfold F_dofferref20_Canon_l0; simp)
  rw [show iterO N (fun s => F_dofferref20_Canon_l0 N rows rule (ord rows entry) s.1 s.2.1 s.2.2) (0, [], []) = _ from q1]
  rw [List.take_of_length_le (by simp [reRows])] at q2
  rw [List.take_of_length_le (by simp [reRule])] at q3
  obtain ⟨s1a, s1b⟩ := s1
  simp only at q2 q3
  subst q2 q3
  simp only [Option.bind_some, id]
  obtain ⟨s3, w1, w2⟩ := loop_inv (f := fun s => F_dofferref20_Canon_l2 N entry (ord rows entry) s.1 s.2) (fun i (s : List Int) => (s, (i : Int))) id entry (fun i s => s = (reEntry (ord rows entry) entry).take i) (N := N) (s := []) (by omega) (by simp)
    (fun i x s hx k1 => by
      have hi := lt_len hx
      have l1 : s.length ≤ i := by rw [k1]; simp; omega
      refine ⟨s ++ [pl (ord rows entry) x], ?_, ?_⟩
      · unfold F_dofferref20_Canon_l2
        simp only [show ((i : Int) < (entry.length : Int)) by omega, decide_true, if_true, idx_of hx, place_spec hN (show (ord rows entry).length < 4294967296 by omega), bind, Option.bind_some]
        rw [app_eq (by simp; omega)]
        simp only [Option.bind_some]
        rw [w64_succ (by omega)]
      · have : (reEntry (ord rows entry) entry)[i]? = some (pl (ord rows entry) x) := by unfold reEntry; rw [List.getElem?_map, hx]; rfl
        rw [List.take_add_one, this, k1]; rfl)
    (fun s _ => by unfold F_dofferref20_Canon_l2; simp)
  rw [show iterO N (fun s => F_dofferref20_Canon_l2 N entry (ord rows entry) s.1 s.2) ([], 0) = _ from w1]
  rw [List.take_of_length_le (by simp [reEntry])] at w2
  subst w2
  rfl
/-- no DFA: nothing comes out -/
theorem canon_not {N : Nat} {rows : List (List Int)} {rule entry : List Int} (hN : 4294967296 ≤ N) (hs : Sz rows rule entry) (h : ¬ Rt rows rule entry) : F_canon_Canon N rows rule entry = some ([], [], []) := by
  obtain ⟨b, hb, hbt⟩ := right_spec hN hs
  have hbf : b = false := by
    cases b with
    | false => rfl
    | true => exact absurd (hbt.1 rfl) h
  subst hbf
  have ha := hs.a
  obtain ⟨M, rfl⟩ : ∃ m, N = m + 1 := ⟨N - 1, by omega⟩
  unfold F_canon_Canon F_canon_Order
  simp only [hb, bind, Option.bind_some, Bool.not_false, if_true]
  rw [mk_eq (by omega)]
  simp [iterO, F_canon_Canon_l0, F_canon_Canon_l1]
theorem order_not {N : Nat} {rows : List (List Int)} {rule entry : List Int} (hN : 4294967296 ≤ N) (hs : Sz rows rule entry) (h : ¬ Rt rows rule entry) : F_canon_Order N rows rule entry = some [] := by
  obtain ⟨b, hb, hbt⟩ := right_spec hN hs
  have hbf : b = false := by
    cases b with
    | false => rfl
    | true => exact absurd (hbt.1 rfl) h
  subst hbf
  unfold F_canon_Order
  simp only [hb, bind, Option.bind_some, Bool.not_false, if_true]
theorem order_yes {N : Nat} {rows : List (List Int)} {rule entry : List Int} (hN : 4294967296 ≤ N) (hs : Sz rows rule entry) (h : Rt rows rule entry) : F_canon_Order N rows rule entry = some (ord rows entry) := by
  obtain ⟨b, hb, hbt⟩ := right_spec hN hs
  rw [hbt.2 h] at hb
  unfold F_canon_Order
  simp only [hb, bind, Option.bind_some, Bool.not_true, Bool.false_eq_true, if_false, order_spec hN hs h]
theorem less_spec (N : Nat) (x y : Int) : F_cmp_Less_int N x y = some (decide (x < y)) := by
  unfold F_cmp_Less_int F_cmp_isNaN_int
  simp
theorem sorted_spec {N : Nat} {xs : List Int} (hN : 4294967296 ≤ N) (hl : xs.length < 4294967296) : ∃ b, F_slices_IsSorted_int_int N xs = some b ∧ (b = true ↔ ∀ i, (h : i + 1 < xs.length) → xs[i] ≤ xs[i + 1]) := by
  unfold F_slices_IsSorted_int_int
  have body : ∀ i : Nat, (hi : i + 1 < xs.length) → F_slices_IsSorted_int_int_l0 N xs ((i + 1 : Nat) : Int) = if xs[i + 1] < xs[i] then some (.inr (.inr false)) else some (.inl (i : Int)) := by
    intro i hi
    unfold F_slices_IsSorted_int_int_l0
    have e1 : w64 (((i + 1 : Nat) : Int) - 1) = (i : Int) := by rw [w64, wrap64] <;> omega
    simp only [show (((i + 1 : Nat) : Int) > 0) by omega, decide_true, if_true, idx_nat hi, e1, idx_nat (show i < xs.length by omega), less_spec, bind, Option.bind_some]
    simp only [decide_eq_true_eq]
  have key : ∀ (k M : Nat), k < M → (hk : k < xs.length) → iterO M (fun s => F_slices_IsSorted_int_int_l0 N xs s) (k : Int) = some (if ∀ i, (h : i < k) → xs[i] ≤ xs[i + 1] then .inl () else .inr false) := by
    intro k
    induction k with
    | zero =>
      intro M hM hk
      obtain ⟨M, rfl⟩ : ∃ m, M = m + 1 := ⟨M - 1, by omega⟩
      simp [iterO, F_slices_IsSorted_int_int_l0]
    | succ k ih =>
      intro M hM hk
      obtain ⟨M, rfl⟩ : ∃ m, M = m + 1 := ⟨M - 1, by omega⟩
      simp only [iterO]
      rw [body k hk]
      by_cases hlt : xs[k + 1] < xs[k]
      · rw [if_pos hlt, if_neg]
        intro hall
        have := hall k (by omega)
        omega
      · rw [if_neg hlt]
        simp only []
        rw [ih M (by omega) (by omega)]
        by_cases hall : ∀ i, (h : i < k) → xs[i] ≤ xs[i + 1]
        · rw [if_pos hall, if_pos]
          intro i hi
          by_cases hik : i = k
          · subst hik; omega
          · exact hall i (by omega)
        · rw [if_neg hall, if_neg]
          intro hall2
          exact hall fun i hi => hall2 i (by omega)
  by_cases h0 : xs.length = 0
  · have hx : xs = [] := List.eq_nil_of_length_eq_zero h0
    subst hx
    obtain ⟨M, rfl⟩ : ∃ m, N = m + 1 := ⟨N - 1, by omega⟩
    have : w64 (((([] : List Int).length : Nat) : Int) - 1) = -1 := by rw [w64, wrap64] <;> simp
    rw [this]
    exact ⟨true, by simp [iterO, F_slices_IsSorted_int_int_l0], by simp⟩
  · have e1 : w64 ((xs.length : Int) - 1) = ((xs.length - 1 : Nat) : Int) := by rw [w64, wrap64] <;> omega
    rw [e1, key (xs.length - 1) N (by omega) (by omega)]
    by_cases hall : ∀ i, (h : i < xs.length - 1) → xs[i] ≤ xs[i + 1]
    · rw [if_pos hall]
      exact ⟨true, rfl, fun _ i h => hall i (by omega), fun _ => rfl⟩
    · rw [if_neg hall]
      exact ⟨false, rfl, fun h => by simp at h, fun hh => absurd (fun i h => hh i (by omega)) hall⟩
end Go.Proofs.YteiaphkejkgfkaaDoor
