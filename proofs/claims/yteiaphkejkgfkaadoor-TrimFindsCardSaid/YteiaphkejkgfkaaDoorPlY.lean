/-
  PLAIN LEAN: the law TrimFinds answers true.
-/
import Derived.Test.YteiaphkejkgfkaaDoorPlW
import Derived.Test.YteiaphkejkgfkaaDoorPlV18
namespace Go.Proofs.YteiaphkejkgfkaaDoor
open Go Go.Eng
set_option maxRecDepth 100000
section
variable {N : Nat} {rows : List (List Int)} {rule entry : List Int}
theorem eqRows_self {l : List (List Int)} (hN : 4294967296 ≤ N) (hl : l.length < 4294967296) : F_slices_Equal_subset_Row_subset_Row N l l = some true := by
  unfold F_slices_Equal_subset_Row_subset_Row
  have := iterO_for0 (f := fun s => F_slices_Equal_subset_Row_subset_Row_l0 N l l s) (r := (.inl () : Unit ⊕ Bool)) (fun i => (i : Int)) l.length (s := 0) (N := N) rfl (by omega)
    (fun i hi => by
      unfold F_slices_Equal_subset_Row_subset_Row_l0
      simp only [show ((i : Int) < (l.length : Int)) by omega, decide_true, if_true, idx_nat hi, bind, Option.bind_some, bne_self_eq_false, Bool.false_eq_true, if_false]
      rw [w64_succ (by omega)])
    (by unfold F_slices_Equal_subset_Row_subset_Row_l0; simp)
  simp only [bne_self_eq_false, Bool.false_eq_true, if_false]
  rw [this]
  rfl
theorem eqInts_self {l : List Int} (hN : 4294967296 ≤ N) (hl : l.length < 4294967296) : F_slices_Equal_int_int N l l = some true := by
  unfold F_slices_Equal_int_int
  have := iterO_for0 (f := fun s => F_slices_Equal_int_int_l0 N l l s) (r := (.inl () : Unit ⊕ Bool)) (fun i => (i : Int)) l.length (s := 0) (N := N) rfl (by omega)
    (fun i hi => by
      unfold F_slices_Equal_int_int_l0
      simp only [show ((i : Int) < (l.length : Int)) by omega, decide_true, if_true, idx_nat hi, bind, Option.bind_some, bne_self_eq_false, Bool.false_eq_true, if_false]
      rw [w64_succ (by omega)])
    (by unfold F_slices_Equal_int_int_l0; simp)
  simp only [bne_self_eq_false, Bool.false_eq_true, if_false]
  rw [this]
  rfl
theorem same_self (hN : 4294967296 ≤ N) (hs : Sz rows rule entry) : F_subset_Same N rows rule entry rows rule entry = some true := by
  unfold F_subset_Same
  simp only [eqRows_self hN hs.a, eqInts_self hN hs.b, eqInts_self hN hs.c, bind, Option.bind_some, if_true]
/-- a state that isn't kept is numbered 0 -/
theorem pl_out {o : List Int} {s : Int} (h : s ∉ o) : pl o s = 0 := by unfold pl; rw [if_neg h]
theorem beg_rch (h : Rt rows rule entry) (cond : Int) : Rch rows entry (beg entry cond) := by
  unfold beg
  split
  · rename_i hc
    have hl : cond.toNat < entry.length := by omega
    rw [getD_of (List.getElem?_eq_getElem hl)]
    exact .ent (List.getElem_mem hl)
  · exact .zero
theorem begT (h : Rt rows rule entry) (cond : Int) : beg (reEntry (kp rows rule entry) entry) cond = pl (kp rows rule entry) (beg entry cond) := by
  unfold beg
  have hl : (reEntry (kp rows rule entry) entry).length = entry.length := by simp [reEntry]
  rw [hl]
  split
  · rename_i hcd
    have hl : cond.toNat < entry.length := by omega
    unfold reEntry
    rw [List.getD, List.getElem?_map, List.getElem?_eq_getElem hl, List.getD, List.getElem?_eq_getElem hl]; rfl
  · exact (pl_zero kp_acc (kp_zero h)).symm
theorem nxtT (hs : Sz rows rule entry) (h : Rt rows rule entry) {s c : Int} (hr : Rch rows entry s) (hc : 0 ≤ c ∧ c < 256) :
    nxt (reRows (kp rows rule entry) rows) (pl (kp rows rule entry) s) c = pl (kp rows rule entry) (nxt rows s c) := by
  have hsr := hr.rng h
  have hz := pl_zero (n := rows.length) (kp_acc (rows := rows) (rule := rule) (entry := entry)) (kp_zero h)
  have hm := nxt_mem hs hsr hc
  by_cases ho : s ∈ kp rows rule entry
  · obtain ⟨row, g1, g2, g3, g4⟩ := nxt_get hs hsr hc
    have e1 : rows.getD s.toNat [] = row := by
      obtain ⟨_, hlt, hx⟩ := idx_some g1
      rw [List.getD, hx]; rfl
    obtain ⟨_, hlt, hx⟩ := idx_some g3
    show (List.getD (List.getD (reRows (kp rows rule entry) rows) (pl (kp rows rule entry) s).toNat []) c.toNat 0) = _
    rw [reRows_get ho, e1, List.getD, List.getElem?_map, hx]
    rfl
  · have hl : ¬ Lv rows rule s := fun hl => ho ((mem_kp h).2 (.inr ⟨hr, hl⟩))
    have hn : pl (kp rows rule entry) (nxt rows s c) = 0 := by
      by_cases hy : nxt rows s c ∈ kp rows rule entry
      · rcases (mem_kp h).1 hy with h0 | ⟨_, h2⟩
        · rw [h0, hz]
        · exact absurd (.step hsr.1 hsr.2 hm h2) hl
      · exact pl_out hy
    rw [pl_out ho, hn]
    have hr0 := (reO_right h (o := kp rows rule entry) kp_acc (kp_zero h)).r0
    unfold nxt
    rw [show (0 : Int).toNat = 0 from rfl, getD_of hr0, getD_of (x := 0)]
    rw [List.getElem?_replicate, if_pos (by omega)]
theorem sttT (hs : Sz rows rule entry) (h : Rt rows rule entry) (cond : Int) {text : List Int} (ht : Byt text) :
    stt (reRows (kp rows rule entry) rows) (reEntry (kp rows rule entry) entry) cond text = pl (kp rows rule entry) (stt rows entry cond text) ∧ Rch rows entry (stt rows entry cond text) := by
  unfold stt
  rw [begT h]
  have key : ∀ (l : List Int) (s : Int), Byt l → Rch rows entry s → l.foldl (nxt (reRows (kp rows rule entry) rows)) (pl (kp rows rule entry) s) = pl (kp rows rule entry) (l.foldl (nxt rows) s) ∧ Rch rows entry (l.foldl (nxt rows) s) := by
    intro l
    induction l with
    | nil => intro s _ hm; exact ⟨rfl, hm⟩
    | cons c l ih =>
      intro s hl hm
      have hc := hl c (by simp)
      simp only [List.foldl_cons]
      rw [nxtT hs h hm hc]
      exact ih _ (fun x hx => hl x (by simp [hx])) (.step hm (nxt_mem hs (hm.rng h) hc))
  exact key text _ ht (beg_rch h cond)
theorem ruleT (h : Rt rows rule entry) {s : Int} (hr : Rch rows entry s) : (reRule (kp rows rule entry) rule).getD (pl (kp rows rule entry) s).toNat 0 = rule.getD s.toNat 0 := by
  by_cases ho : s ∈ kp rows rule entry
  · exact rule_re ho
  · have hl : ¬ Lv rows rule s := fun hl => ho ((mem_kp h).2 (.inr ⟨hr, hl⟩))
    have hsr := hr.rng h
    have h1 : rule.getD s.toNat 0 = -1 := by
      refine Classical.byContradiction fun hne => hl (.here hsr.1 hsr.2 hne)
    rw [pl_out ho, h1]
    have hu := (reO_right h (o := kp rows rule entry) kp_acc (kp_zero h)).u0
    exact getD_of hu
theorem runT (hN : 4294967296 ≤ N) (hs : Sz rows rule entry) (h : Rt rows rule entry) (cond : Int) {text : List Int} (ht : Byt text) (hl : text.length < 4294967296) :
    F_subset_DFA_Run N (reRows (kp rows rule entry) rows) (reRule (kp rows rule entry) rule) (reEntry (kp rows rule entry) entry) cond text = some (rule.getD (stt rows entry cond text).toNat 0) := by
  rw [run_spec hN (reO_sz hs h kp_acc) (reO_right h kp_acc (kp_zero h)) cond ht hl]
  obtain ⟨k1, k2⟩ := sttT hs h cond ht
  rw [k1, ruleT h k2]
theorem trimFinds_true {text : List Int} {cond : Int} (hw : ∀ r ∈ rows, r.length = 256) (ht : Byt text) : F_dofferlaw18_TrimFinds 4294967296 rows rule entry text cond = some true := by
  have hN : 4294967296 ≤ 4294967296 := Nat.le_refl _
  unfold F_dofferlaw18_TrimFinds
  simp only [alive18, bind, Option.bind_some, Bool.not_true, Bool.false_eq_true, if_false]
  by_cases g1 : (rows.length : Int) > 30
  · simp [g1]
  by_cases g2 : (text.length : Int) > 50
  · simp [g1, g2]
  obtain ⟨b, hb, hbt⟩ := right_any (rule := rule) (entry := entry) hN hw (by omega)
  simp only [decide_eq_false g1, decide_eq_false g2, Bool.false_eq_true, if_false, hb, Option.bind_some]
  by_cases h : Rt rows rule entry
  case neg =>
    have hbf : b = false := by
      cases b with
      | false => rfl
      | true => exact absurd (hbt.1 rfl) h
    subst hbf
    simp
  obtain rfl := hbt.2 h
  have hs := h.sz hw
  have hA : Acc rows.length (kp rows rule entry) := kp_acc
  have hr := reO_right h hA (kp_zero h)
  have hrs := reO_sz hs h hA
  have hle := hA.len
  obtain ⟨b2, hb2, hbt2⟩ := isTrim_spec hN hrs
  obtain rfl := hbt2.2 ⟨hr, by rw [kp_re h, upto_len]⟩
  have c1 : ¬ ((reRows (kp rows rule entry) rows).length : Int) > (rows.length : Int) := by simp only [reRows, List.length_map]; omega
  have tt : F_trim_Trim 4294967296 (reRows (kp rows rule entry) rows) (reRule (kp rows rule entry) rule) (reEntry (kp rows rule entry) entry) = some (reRows (kp rows rule entry) rows, reRule (kp rows rule entry) rule, reEntry (kp rows rule entry) entry) := by
    rw [trim_spec hN hrs hr, kp_re h]
    obtain ⟨q1, q2, q3⟩ := re_upto hr
    rw [q1, q2, q3]
  simp only [trim_spec hN hs h, Option.bind_some, Bool.not_true, Bool.false_eq_true, if_false, right_yes hN hrs hr, hb2, decide_eq_false c1, tt, same_self hN hrs]
  have e1 : w64 ((text.length : Int) + 1) = ((text.length + 1 : Nat) : Int) := w64_succ (by omega)
  have := iterO_for0 (f := fun s => F_dofferlaw18_TrimFinds_l0 4294967296 rows rule entry text cond (reRows (kp rows rule entry) rows) (reRule (kp rows rule entry) rule) (reEntry (kp rows rule entry) entry) s) (r := (.inl () : Unit ⊕ Bool)) (fun i => (i : Int)) (text.length + 1) (s := 0) (N := 4294967296) rfl (by omega)
    (fun i hi => by
      unfold F_dofferlaw18_TrimFinds_l0
      have hsl : slc text 0 (i : Int) = some (text.take i) := by unfold slc; rw [if_pos (by omega)]; simp
      have hl : (text.take i).length < 4294967296 := by simp; omega
      simp only [e1, show ((i : Int) < ((text.length + 1 : Nat) : Int)) by omega, decide_true, if_true, hsl, bind, Option.bind_some, run_spec hN hs h cond (ht.take i) hl, runT hN hs h cond (ht.take i) hl, bne_self_eq_false, Bool.false_eq_true, if_false]
      rw [w64_succ (by omega)])
    (by unfold F_dofferlaw18_TrimFinds_l0; simp [e1])
  rw [this]
  rfl
end
end Go.Proofs.YteiaphkejkgfkaaDoor
