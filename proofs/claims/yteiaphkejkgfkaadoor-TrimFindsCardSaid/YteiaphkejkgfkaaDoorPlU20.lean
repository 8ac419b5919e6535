/-
  PLAIN LEAN: the law CanonFinds answers true.
-/
import Derived.Test.YteiaphkejkgfkaaDoorPlN
import Derived.Test.YteiaphkejkgfkaaDoorPlT20
namespace Go.Proofs.YteiaphkejkgfkaaDoor
open Go Go.Eng
set_option maxRecDepth 100000
/-- subset.Right, whatever the lengths of the lists -/
theorem right_any {N : Nat} {rows : List (List Int)} {rule entry : List Int} (hN : 4294967296 ≤ N) (hw : ∀ r ∈ rows, r.length = 256) (ha : rows.length < 4294967296) :
    ∃ b, F_subset_Right N rows rule entry = some b ∧ (b = true ↔ Rt rows rule entry) := by
  by_cases h : rule.length = rows.length ∧ entry.length ≤ 8
  · exact right_spec hN ⟨hw, ha, by omega, by omega⟩
  · refine ⟨false, ?_, by simp only [Bool.false_eq_true, false_iff]; exact fun hr => h ⟨hr.ru, hr.e2⟩⟩
    unfold F_subset_Right
    by_cases a1 : (rows.length : Int) < 1
    · simp [a1]
    by_cases a2 : (rows.length : Int) > 200
    · simp [a1, a2]
    by_cases a3 : rule.length = rows.length
    case neg =>
      have e0 : ((rule.length : Int) != (rows.length : Int)) = true := by simp; omega
      simp [a1, a2, e0]
    have e0 : ((rule.length : Int) != (rows.length : Int)) = false := by simp [a3]
    by_cases a4 : (entry.length : Int) < 1
    · simp [a1, a2, e0, a4]
    have a5 : (entry.length : Int) > 8 := by omega
    simp only [decide_eq_false a1, decide_eq_false a2, e0, decide_eq_false a4, decide_eq_true a5, bind, Option.bind_some, Bool.false_eq_true, if_false, if_true]
theorem Rt.sz {rows : List (List Int)} {rule entry : List Int} (h : Rt rows rule entry) (hw : ∀ r ∈ rows, r.length = 256) : Sz rows rule entry :=
  ⟨hw, by have := h.n2; omega, by have := h.n2; have := h.ru; omega, by have := h.e2; omega⟩
theorem canonFinds_true {rows : List (List Int)} {rule entry text : List Int} {cond : Int} (hw : ∀ r ∈ rows, r.length = 256) (ht : Byt text) : F_dofferlaw20_CanonFinds 4294967296 rows rule entry text cond = some true := by
  have hN : 4294967296 ≤ 4294967296 := Nat.le_refl _
  unfold F_dofferlaw20_CanonFinds
  simp only [alive20, bind, Option.bind_some, Bool.not_true, Bool.false_eq_true, if_false]
  by_cases g1 : (rows.length : Int) > 30
  · simp [g1]
  by_cases g2 : (text.length : Int) > 50
  · simp [g1, g2]
  obtain ⟨b, hb, hbt⟩ := right_any (rule := rule) (entry := entry) hN hw (by omega)
  simp only [decide_eq_false g1, decide_eq_false g2, Bool.false_eq_true, if_false, hb, Option.bind_some]
  by_cases h : Rt rows rule entry
  case neg =>
    have hbf : b = false := by
      cases b with
      | false => rfl
      | true => exact absurd (hbt.1 rfl) h
    subst hbf
    simp
  obtain rfl := hbt.2 h
  have hs := h.sz hw
  have hr := re_right h
  have hrs := re_sz hs h
  obtain ⟨b1, hb1, hbt1⟩ := right_spec hN hrs
  obtain rfl := hbt1.2 hr
  obtain ⟨hA, _⟩ := ord_props h
  have hle := hA.len
  have c1 : ¬ ((reRows (ord rows entry) rows).length : Int) > (rows.length : Int) := by simp only [reRows, List.length_map]; omega
  have c2 := edg_re_le hs h
  have c3 := len_le_edg hrs
  simp only [canon_spec hN hs h, Option.bind_some, Bool.not_true, Bool.false_eq_true, if_false, hb1, decide_eq_false c1, edges_spec hN hs h, edges_spec hN hrs hr,
    show ¬ ((edg (reRows (ord rows entry) rows) : Nat) : Int) > (edg rows : Int) by omega, show ¬ ((edg (reRows (ord rows entry) rows) : Nat) : Int) < ((reRows (ord rows entry) rows).length : Int) by omega, decide_false]
  have e1 : w64 ((text.length : Int) + 1) = ((text.length + 1 : Nat) : Int) := w64_succ (by omega)
  have := iterO_for0 (f := fun s => F_dofferlaw20_CanonFinds_l0 4294967296 rows rule entry text cond (reRows (ord rows entry) rows) (reRule (ord rows entry) rule) (reEntry (ord rows entry) entry) s) (r := (.inl () : Unit ⊕ Bool)) (fun i => (i : Int)) (text.length + 1) (s := 0) (N := 4294967296) rfl (by omega)
    (fun i hi => by
      unfold F_dofferlaw20_CanonFinds_l0
      have hsl : slc text 0 (i : Int) = some (text.take i) := by unfold slc; rw [if_pos (by omega)]; simp
      have hl : (text.take i).length < 4294967296 := by simp; omega
      simp only [e1, show ((i : Int) < ((text.length + 1 : Nat) : Int)) by omega, decide_true, if_true, hsl, bind, Option.bind_some, run_spec hN hs h cond (ht.take i) hl, run_re hN hs h cond (ht.take i) hl, bne_self_eq_false, Bool.false_eq_true, if_false]
      rw [w64_succ (by omega)])
    (by unfold F_dofferlaw20_CanonFinds_l0; simp [e1])
  rw [this]
  rfl
end Go.Proofs.YteiaphkejkgfkaaDoor
