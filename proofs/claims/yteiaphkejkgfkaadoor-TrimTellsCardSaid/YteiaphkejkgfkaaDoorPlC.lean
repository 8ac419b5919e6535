/-
  PLAIN LEAN: the document's Right; the copy; lists of integers compared; DFAs compared.
-/
import Derived.Test.YteiaphkejkgfkaaDoorPlB
namespace Go.Proofs.YteiaphkejkgfkaaDoor
open Go Go.Eng
theorem range_get {n i x : Nat} (h : (List.range n)[i]? = some x) : i < n ∧ x = i := by
  have hl := lt_len h
  simp at hl
  rw [List.getElem?_range hl] at h
  exact ⟨hl, (Option.some.inj h).symm⟩
/-- what the document asks of row i -/
def badRow (rows : List (List Int)) (rule : List Int) (i : Nat) : Bool :=
  (decide (rule.getD i 0 < -1) || decide (rule.getD i 0 > 47)) || (rows.getD i []).any fun x => decide (x < 0) || decide (x ≥ (rows.length : Int)) || (i == 0 && x != 0)
theorem ref_row {N : Nat} {rows : List (List Int)} {rule : List Int} (hN : 4294967296 ≤ N) (h2 : rows.length ≤ 200) (hw : ∀ r ∈ rows, r.length = 256) (hu : rule.length = rows.length) :
    iterO N (fun s => F_dofferref17_Right_l0 N rows rule s) 0 = some (if (List.range rows.length).any (badRow rows rule) then .inr false else .inl ()) := by
  refine loop_any (List.range rows.length) (badRow rows rule) false (by simp; omega) (fun i x hx => ?_) (by simp [F_dofferref17_Right_l0])
  obtain ⟨hi, rfl⟩ := range_get hx
  have hr : rows[x]? = some rows[x] := List.getElem?_eq_getElem hi
  have hui : x < rule.length := by omega
  have hu : rule[x]? = some rule[x] := List.getElem?_eq_getElem hui
  have hlen := hw rows[x] (List.getElem_mem hi)
  have g1 : rule.getD x 0 = rule[x] := by simp [List.getD, hu]
  have g2 : rows.getD x [] = rows[x] := by simp [List.getD, hr]
  unfold F_dofferref17_Right_l0 badRow
  rw [g1, g2]
  simp only [show ((x : Int) < (rows.length : Int)) by omega, decide_true, if_true, idx_of hr, idx_of hu, bind, Option.bind_some]
  by_cases b1 : rule[x] < -1
  · simp [b1]
  by_cases b2 : rule[x] > 47
  · simp [b1, b2]
  simp only [decide_eq_false b1, decide_eq_false b2, Bool.false_eq_true, if_false, Option.bind_some, Bool.or_false, Bool.false_or]
  rw [loop_any (rows[x]) (fun y => decide (y < 0) || decide (y ≥ (rows.length : Int)) || (x == 0 && y != 0)) (τ := Int ⊕ (Unit ⊕ Bool)) (.inr (.inr false)) (by omega) (fun j y hy => by
    have hj := lt_len hy
    unfold F_dofferref17_Right_l1
    simp only [show ((j : Int) < 256) by omega, decide_true, if_true, idx_of hy, bind, Option.bind_some]
    by_cases c1 : y < 0
    · simp [c1]
    by_cases c2 : y ≥ (rows.length : Int)
    · simp [c1, c2]
    simp only [decide_eq_false c1, decide_eq_false c2, Bool.false_eq_true, if_false, Bool.or_false, Bool.false_or]
    rw [w64_succ (by omega)]
    by_cases c3 : x = 0
    · subst c3; by_cases c4 : y = 0 <;> simp [c4]
    · have : ¬ ((x : Int) = 0) := by omega
      simp [this, c3]) (by unfold F_dofferref17_Right_l1; simp [hlen])]
  rw [w64_succ (by omega)]
  by_cases d : (rows[x].any fun y => decide (y < 0) || decide (y ≥ (rows.length : Int)) || (x == 0 && y != 0)) = true
  · simp [d]
  · simp [d]
theorem refRight_spec {N : Nat} {rows : List (List Int)} {rule entry : List Int} (hN : 4294967296 ≤ N) (hs : Sz rows rule entry) : ∃ b, F_dofferref17_Right N rows rule entry = some b ∧ (b = true ↔ Rt rows rule entry) := by
  unfold F_dofferref17_Right
  by_cases a1 : (rows.length : Int) < 1
  · exact ⟨false, by simp [a1], by simp; intro h; have := h.n1; omega⟩
  by_cases a2 : (rows.length : Int) > 200
  · exact ⟨false, by simp [a1, a2], by simp; intro h; have := h.n2; omega⟩
  by_cases a3 : rule.length = rows.length
  case neg =>
    have e0 : ((rule.length : Int) != (rows.length : Int)) = true := by simp; omega
    exact ⟨false, by simp [a1, a2, e0], by simp; intro h; exact a3 h.ru⟩
  by_cases a4 : (entry.length : Int) < 1
  · exact ⟨false, by simp [a1, a2, a3, a4], by simp; intro h; have := h.e1; omega⟩
  by_cases a5 : (entry.length : Int) > 8
  · exact ⟨false, by simp [a1, a2, a3, a4, a5], by simp; intro h; have := h.e2; omega⟩
  have e0 : ((rule.length : Int) != (rows.length : Int)) = false := by simp [a3]
  simp only [decide_eq_false a1, decide_eq_false a2, e0, decide_eq_false a4, decide_eq_false a5, bind, Option.bind_some, Bool.false_eq_true, if_false]
  rw [ref_row hN (by omega) hs.w a3]
  have hr0 : 0 < rows.length := by omega
  have hu0 : 0 < rule.length := by omega
  by_cases c1 : ((List.range rows.length).any (badRow rows rule)) = true
  · refine ⟨false, by simp [c1], ?_⟩
    simp only [Bool.false_eq_true, false_iff]
    intro h
    obtain ⟨i, hi, hp⟩ := List.any_eq_true.1 c1
    have hi : i < rows.length := by simpa using hi
    have hui : i < rule.length := by omega
    unfold badRow at hp
    have g1 : rule.getD i 0 = rule[i] := by simp [List.getD, List.getElem?_eq_getElem hui]
    have g2 : rows.getD i [] = rows[i] := by simp [List.getD, List.getElem?_eq_getElem hi]
    rw [g1, g2] at hp
    have h1 := h.rul _ (List.getElem_mem hui)
    rcases Bool.or_eq_true_iff.1 hp with hp | hp
    · simp at hp; omega
    · obtain ⟨x, hx, hp⟩ := List.any_eq_true.1 hp
      have h2 := h.row _ (List.getElem_mem hi) x hx
      simp at hp
      rcases hp with hp | ⟨rfl, h4⟩
      · omega
      · have h3 := h.r0
        rw [List.getElem?_eq_getElem hr0] at h3
        rw [Option.some.inj h3] at hx
        exact h4 (List.eq_of_mem_replicate hx)
  rw [if_neg c1]
  simp only [Option.bind_some]
  rw [loop_any entry (fun x => decide (x < 0) || decide (x ≥ (rows.length : Int))) false (by have := hs.c; omega) (fun i x hx => by
    have hi := lt_len hx
    unfold F_dofferref17_Right_l2
    simp only [show ((i : Int) < (entry.length : Int)) by omega, decide_true, if_true, idx_of hx, bind, Option.bind_some]
    rw [w64_succ (by omega)]
    by_cases c1 : x < 0 <;> simp [c1]) (by unfold F_dofferref17_Right_l2; simp)]
  have c1' : ∀ i, (hi : i < rows.length) → (-1 ≤ rule[i]'(by omega) ∧ rule[i]'(by omega) < 48) ∧ ∀ x ∈ rows[i], 0 ≤ x ∧ x < (rows.length : Int) ∧ (i = 0 → x = 0) := by
    intro i hi
    have hui : i < rule.length := by omega
    have h1 : ((List.range rows.length).any (badRow rows rule)) = false := by simpa using c1
    have hp := List.any_eq_false.1 h1 i (by simpa using hi)
    unfold badRow at hp
    have g1 : rule.getD i 0 = rule[i] := by simp [List.getD, List.getElem?_eq_getElem hui]
    have g2 : rows.getD i [] = rows[i] := by simp [List.getD, List.getElem?_eq_getElem hi]
    rw [g1, g2, Bool.not_eq_true, Bool.or_eq_false_iff] at hp
    obtain ⟨hp1, hp2⟩ := hp
    refine ⟨by simp at hp1; omega, fun x hx => ?_⟩
    have := List.any_eq_false.1 hp2 x hx
    simp at this
    exact ⟨by omega, by omega, this.2⟩
  by_cases c3 : (entry.any fun x => decide (x < 0) || decide (x ≥ (rows.length : Int))) = true
  · refine ⟨false, by simp [c3], ?_⟩
    simp
    intro h
    obtain ⟨x, hx, hp⟩ := List.any_eq_true.1 c3
    have := h.ent x hx
    simp at hp; omega
  have c3' : ∀ x ∈ entry, 0 ≤ x ∧ x < (rows.length : Int) := by
    intro x hx
    have h3 := List.any_eq_false.1 (by simpa using c3 : (entry.any fun x => decide (x < 0) || decide (x ≥ (rows.length : Int))) = false) x hx
    simp at h3; omega
  rw [if_neg c3]
  have i1 : idx rule 0 = some rule[0] := idx_nat (i := 0) hu0
  simp only [i1, Option.bind_some]
  by_cases d2 : rule[0] = -1
  · refine ⟨true, by simp [d2], ?_⟩
    simp only [true_iff]
    refine ⟨by omega, by omega, a3, by omega, by omega, ?_, ?_, c3', ?_, by rw [List.getElem?_eq_getElem hu0, d2]⟩
    · intro r hr x hx
      obtain ⟨i, hi, rfl⟩ := List.mem_iff_getElem.1 hr
      have := (c1' i hi).2 x hx
      exact ⟨this.1, this.2.1⟩
    · intro x hx
      obtain ⟨i, hi, rfl⟩ := List.mem_iff_getElem.1 hx
      exact (c1' i (by omega)).1
    · rw [List.getElem?_eq_getElem hr0]
      congr 1
      exact List.eq_replicate_iff.2 ⟨hs.w _ (List.getElem_mem hr0), fun x hx => ((c1' 0 hr0).2 x hx).2.2 rfl⟩
  · refine ⟨false, by simp [d2], ?_⟩
    simp
    intro h
    have := h.u0
    rw [List.getElem?_eq_getElem hu0] at this
    exact d2 (Option.some.inj this)

/-- the copy -/
theorem of_spec {N : Nat} {rows : List (List Int)} {rule entry : List Int} {m : Int} (hN : 4294967296 ≤ N) (hs : Sz rows rule entry) :
    F_dofferlaw17_Of N rows rule entry m = some (if (rows.length : Int) > m ∨ (rule.length : Int) > m ∨ (entry.length : Int) > 20 then ([], false) else (rows, true)) := by
  unfold F_dofferlaw17_Of
  by_cases a1 : (rows.length : Int) > m
  · simp [a1]
  by_cases a2 : (rule.length : Int) > m
  · simp [a1, a2]
  by_cases a3 : (entry.length : Int) > 20
  · simp [a1, a2, a3]
  simp only [decide_eq_false a1, decide_eq_false a2, decide_eq_false a3, bind, Option.bind_some, Bool.false_eq_true, if_false, a1, a2, a3, or_self]
  have := loop_fold (f := fun s => F_dofferlaw17_Of_l0 N rows s.1 s.2) (fun i (s : List (List Int)) => ((i : Int), s)) id rows (fun s x => s ++ [x]) (fun i s => s.length = i) (N := N) (s := []) (by have := hs.a; omega) rfl
    (fun i x s hx hI => ⟨by
      have hi := lt_len hx
      have := hs.a
      unfold F_dofferlaw17_Of_l0
      simp only [show ((i : Int) < (rows.length : Int)) by omega, decide_true, if_true, idx_of hx, bind, Option.bind_some]
      rw [w64_succ (by omega), app_eq (by simp; omega)]
      rfl, by simp [hI]⟩) (fun s _ => by unfold F_dofferlaw17_Of_l0; simp)
  rw [show iterO N (fun s => F_dofferlaw17_Of_l0 N rows s.1 s.2) (0, []) = _ from this]
  have hf : ∀ (l acc : List (List Int)), l.foldl (fun s x => s ++ [x]) acc = acc ++ l := by
    intro l
    induction l with
    | nil => simp
    | cons x l ih => intro acc; rw [List.foldl_cons, ih]; simp
  rw [hf]
  simp
theorem sameInts_spec {N : Nat} {a b : List Int} (hN : 4294967296 ≤ N) (ha : a.length < 4294967296) : F_doffernum_SameInts N a b = some (decide (a = b)) := by
  unfold F_doffernum_SameInts
  by_cases h : a.length = b.length
  case neg =>
    have : ((a.length : Int) != (b.length : Int)) = true := by simp; omega
    have hne : a ≠ b := fun e => h (by rw [e])
    simp [this, hne]
  have e0 : ((a.length : Int) != (b.length : Int)) = false := by simp [h]
  simp only [e0, Bool.false_eq_true, if_false]
  rw [loop_any (List.range a.length) (fun i => a.getD i 0 != b.getD i 0) false (by simp; omega) (fun i x hx => by
    obtain ⟨hi, rfl⟩ := range_get hx
    have hib : x < b.length := by omega
    unfold F_doffernum_SameInts_l0
    have g1 : a.getD x 0 = a[x] := by simp [List.getD, List.getElem?_eq_getElem hi]
    have g2 : b.getD x 0 = b[x] := by simp [List.getD, List.getElem?_eq_getElem hib]
    rw [g1, g2]
    simp only [show ((x : Int) < (a.length : Int)) by omega, decide_true, if_true, idx_nat hi, idx_nat hib, bind, Option.bind_some]
    rw [w64_succ (by omega)]) (by simp [F_doffernum_SameInts_l0])]
  by_cases c : ((List.range a.length).any fun i => a.getD i 0 != b.getD i 0) = true
  · have : a ≠ b := by
      obtain ⟨i, _, hp⟩ := List.any_eq_true.1 c
      intro e
      simp [e] at hp
    rw [if_pos c]
    simp [this]
  · have : a = b := by
      apply List.ext_getElem h
      intro i h1 h2
      have h3 := List.any_eq_false.1 (by simpa using c : ((List.range a.length).any fun i => a.getD i 0 != b.getD i 0) = false) i (by simpa using h1)
      have g1 : a.getD i 0 = a[i] := by simp [List.getD, List.getElem?_eq_getElem h1]
      have g2 : b.getD i 0 = b[i] := by simp [List.getD, List.getElem?_eq_getElem h2]
      rw [g1, g2] at h3
      simpa using h3
    rw [if_neg c]
    simp [this]
theorem same_spec {N : Nat} {rows rows' : List (List Int)} {rule entry rule' entry' : List Int} (hN : 4294967296 ≤ N) (hs : Sz rows rule entry) :
    F_dofferref17_Same N rows rule entry rows' rule' entry' = some (decide (rows = rows' ∧ rule = rule' ∧ entry = entry')) := by
  unfold F_dofferref17_Same
  by_cases h : rows.length = rows'.length
  case neg =>
    have : ((rows.length : Int) != (rows'.length : Int)) = true := by simp; omega
    have hne : rows ≠ rows' := fun e => h (by rw [e])
    simp [this, hne]
  have e0 : ((rows.length : Int) != (rows'.length : Int)) = false := by simp [h]
  simp only [e0, Bool.false_eq_true, if_false, sameInts_spec hN hs.b, sameInts_spec hN hs.c, bind, Option.bind_some]
  by_cases h1 : rule = rule'
  case neg => simp [h1]
  by_cases h2 : entry = entry'
  case neg => simp [h1, h2]
  simp only [h1, h2, decide_true, Bool.not_true, Bool.false_eq_true, if_false, Option.bind_some, and_true]
  have ha := hs.a
  rw [loop_any (List.range rows.length) (fun i => rows.getD i [] != rows'.getD i []) false (by simp; omega) (fun i x hx => by
    obtain ⟨hi, rfl⟩ := range_get hx
    have hib : x < rows'.length := by omega
    unfold F_dofferref17_Same_l0
    have g1 : rows.getD x [] = rows[x] := by simp [List.getD, List.getElem?_eq_getElem hi]
    have g2 : rows'.getD x [] = rows'[x] := by simp [List.getD, List.getElem?_eq_getElem hib]
    rw [g1, g2]
    simp only [show ((x : Int) < (rows.length : Int)) by omega, decide_true, if_true, idx_nat hi, idx_nat hib, bind, Option.bind_some]
    rw [w64_succ (by omega)]) (by simp [F_dofferref17_Same_l0])]
  by_cases c : ((List.range rows.length).any fun i => rows.getD i [] != rows'.getD i []) = true
  · have : rows ≠ rows' := by
      obtain ⟨i, _, hp⟩ := List.any_eq_true.1 c
      intro e
      simp [e] at hp
    rw [if_pos c]
    simp [this]
  · have : rows = rows' := by
      apply List.ext_getElem h
      intro i h1 h2
      have h3 := List.any_eq_false.1 (by simpa using c : ((List.range rows.length).any fun i => rows.getD i [] != rows'.getD i []) = false) i (by simpa using h1)
      have g1 : rows.getD i [] = rows[i] := by simp [List.getD, List.getElem?_eq_getElem h1]
      have g2 : rows'.getD i [] = rows'[i] := by simp [List.getD, List.getElem?_eq_getElem h2]
      rw [g1, g2] at h3
      simpa using h3
    rw [if_neg c]
    simp [this]
end Go.Proofs.YteiaphkejkgfkaaDoor
