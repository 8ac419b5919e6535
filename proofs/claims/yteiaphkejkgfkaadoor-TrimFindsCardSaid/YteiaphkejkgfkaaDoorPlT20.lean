/-
  PLAIN LEAN: the law CanonTells answers true.
-/
import Derived.Test.YteiaphkejkgfkaaDoorPlM
namespace Go.Proofs.YteiaphkejkgfkaaDoor
open Go Go.Eng
set_option maxRecDepth 100000
theorem alive20 : F_dofferlaw20_alive 4294967296 = some true := by kernel_rfl
theorem canonTells_true {rows : List (List Int)} {rule entry : List Int} (hw : ∀ r ∈ rows, r.length = 256) : F_dofferlaw20_CanonTells 4294967296 rows rule entry = some true := by
  unfold F_dofferlaw20_CanonTells
  simp only [alive20, bind, Option.bind_some, Bool.not_true, Bool.false_eq_true, if_false]
  by_cases g1 : (rows.length : Int) > 30
  · simp [F_dofferlaw17_Of, g1]
  by_cases g2 : (rule.length : Int) > 30
  · simp [F_dofferlaw17_Of, g1, g2]
  by_cases g3 : (entry.length : Int) > 20
  · simp [F_dofferlaw17_Of, g1, g2, g3]
  have hN : 4294967296 ≤ 4294967296 := Nat.le_refl _
  have hs : Sz rows rule entry := ⟨hw, by omega, by omega, by omega⟩
  rw [of_spec hN hs, if_neg (by omega)]
  obtain ⟨b, hb, hbt⟩ := refRight_spec hN hs
  simp only [Option.bind_some, Bool.not_true, Bool.false_eq_true, if_false, hb]
  by_cases h : Rt rows rule entry
  case neg =>
    have hbf : b = false := by
      cases b with
      | false => rfl
      | true => exact absurd (hbt.1 rfl) h
    subst hbf
    obtain ⟨b', hb', hbt'⟩ := isCanon_spec hN hs
    have hbf' : b' = false := by
      cases b' with
      | false => rfl
      | true => exact absurd (hbt'.1 rfl).1 h
    subst hbf'
    simp only [canon_not hN hs h, order_not hN hs h, edges_not hN hs h, hb', Option.bind_some, Bool.not_false, if_true]
    rfl
  rw [hbt.2 h] at *
  have hr := re_right h
  have hrs := re_sz hs h
  obtain ⟨hA, _⟩ := ord_props h
  have hle := hA.len
  have he2 := h.e2
  have g4 : ¬ (((reRows (ord rows entry) rows).length : Int) > 30 ∨ ((reRule (ord rows entry) rule).length : Int) > 30 ∨ ((reEntry (ord rows entry) entry).length : Int) > 20) := by
    simp only [reRows, reRule, reEntry, List.length_map]
    omega
  obtain ⟨b1, hb1, hbt1⟩ := isCanon_spec hN hs
  obtain ⟨b2, hb2, hbt2⟩ := isCanon_spec hN hrs
  have e2 : b2 = true := hbt2.2 ⟨hr, re_canon h⟩
  subst e2
  have e1 : (b1 == decide (reRows (ord rows entry) rows = rows ∧ reRule (ord rows entry) rule = rule ∧ reEntry (ord rows entry) entry = entry)) = true := by
    have : b1 = true ↔ (reRows (ord rows entry) rows = rows ∧ reRule (ord rows entry) rule = rule ∧ reEntry (ord rows entry) entry = entry) := hbt1.trans ⟨fun h => h.2, fun hc => ⟨h, hc⟩⟩
    rw [beq_iff_eq]
    cases b1 with
    | true => exact (decide_eq_true (this.1 rfl)).symm
    | false => exact (decide_eq_false fun hc => by simpa using this.2 hc).symm
  have hol : (ord rows entry).length < 4294967296 := by have := h.n2; omega
  simp only [canon_spec hN hs h, refCanon_spec hN hs h, order_yes hN hs h, refOrder_spec hN hs h, edges_spec hN hs h, refEdges_spec hN hs h, of_spec hN hrs, if_neg g4, sameInts_spec hN hol, same_spec hN hrs, hb1, hb2, e1, Option.bind_some, Bool.not_true, Bool.false_eq_true, if_false, decide_true, and_self, if_true]
  simp
end Go.Proofs.YteiaphkejkgfkaaDoor
