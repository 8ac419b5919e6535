/-
  PLAIN LEAN: what is trimmed is trim; the document's Trim.
-/
import Derived.Test.YteiaphkejkgfkaaDoorPlV
namespace Go.Proofs.YteiaphkejkgfkaaDoor
open Go Go.Eng
section
variable {N : Nat} {rows : List (List Int)} {rule entry : List Int}
theorem pl_zero {o : List Int} {n : Nat} (hA : Acc n o) (h0 : o[0]? = some 0) : pl o 0 = 0 := by
  obtain ⟨hl, he⟩ := List.getElem?_eq_some_iff.1 h0
  have := pl_get hA.nd hl
  rwa [he] at this
theorem kp_mem (h : Rt rows rule entry) {s : Int} (hr : Rch rows entry s) (hl : Lv rows rule s) : s ∈ kp rows rule entry := (mem_kp h).2 (.inr ⟨hr, hl⟩)
theorem kp_rch (h : Rt rows rule entry) {s : Int} (hr : Rch rows entry s) (hl : Lv rows rule s) : Rch (reRows (kp rows rule entry) rows) (reEntry (kp rows rule entry) entry) (pl (kp rows rule entry) s) := by
  induction hr with
  | zero => rw [pl_zero kp_acc (kp_zero h)]; exact .zero
  | ent hx => exact .ent (List.mem_map_of_mem hx)
  | @step s y hr hy ih =>
    have hsr := hr.rng h
    have hl' : Lv rows rule s := .step hsr.1 hsr.2 hy hl
    refine .step (ih hl') ?_
    rw [reRows_get (kp_mem h hr hl')]
    exact List.mem_map_of_mem hy
theorem kp_lv (h : Rt rows rule entry) {s : Int} (hr : Rch rows entry s) (hl : Lv rows rule s) : Lv (reRows (kp rows rule entry) rows) (reRule (kp rows rule entry) rule) (pl (kp rows rule entry) s) := by
  have hpos : 0 < (kp rows rule entry).length := (List.getElem?_eq_some_iff.1 (kp_zero h)).1
  have hrg : ∀ x, 0 ≤ pl (kp rows rule entry) x ∧ pl (kp rows rule entry) x < ((reRows (kp rows rule entry) rows).length : Int) := fun x => by
    have := pl_rng (x := x) hpos
    simpa [reRows] using this
  induction hl with
  | here a0 a1 a2 =>
    refine .here (hrg _).1 (hrg _).2 ?_
    rw [rule_re (kp_mem h hr (.here a0 a1 a2))]
    exact a2
  | step a0 a1 a2 a3 ih =>
    refine .step (hrg _).1 (hrg _).2 ?_ (ih (.step hr a2))
    rw [reRows_get (kp_mem h hr (.step a0 a1 a2 a3))]
    exact List.mem_map_of_mem a2
theorem lst_all {f : Nat → Bool} {n : Nat} (h : ∀ j, j < n → f j = true) : lst f n = upto n := by
  unfold lst upto
  rw [List.filter_eq_self.2 fun j hj => h j (List.mem_range.1 hj)]
theorem kp_re (h : Rt rows rule entry) : kp (reRows (kp rows rule entry) rows) (reRule (kp rows rule entry) rule) (reEntry (kp rows rule entry) entry) = upto (reRows (kp rows rule entry) rows).length := by
  refine lst_all fun j hj => ?_
  have hj' : j < (kp rows rule entry).length := by simpa [reRows] using hj
  unfold kpf
  rw [Bool.or_eq_true, Bool.and_eq_true, rch_iff, lv_iff, beq_iff_eq]
  have hA : Acc rows.length (kp rows rule entry) := kp_acc
  have hp := pl_get hA.nd hj'
  rcases (mem_kp h).1 (List.getElem_mem hj') with h0 | ⟨h1, h2⟩
  · left
    rw [h0, pl_zero hA (kp_zero h)] at hp
    omega
  · right
    have a1 := kp_rch h h1 h2
    have a2 := kp_lv h h1 h2
    rw [hp] at a1 a2
    exact ⟨a1, a2⟩
theorem lst_split {f : Nat → Bool} {x : Nat} (hf : f x = true) : ∀ {n : Nat}, x < n → ∃ t, lst f n = lst f x ++ (x : Int) :: t
  | 0, h => by omega
  | n + 1, h => by
    rw [lst_succ]
    by_cases hx : x = n
    · subst hx
      exact ⟨[], by simp [hf]⟩
    · obtain ⟨t, ht⟩ := lst_split hf (n := n) (by omega)
      rw [ht]
      split
      · exact ⟨t ++ [(n : Int)], by simp⟩
      · exact ⟨t, rfl⟩
theorem pl_lst {f : Nat → Bool} {n x : Nat} (hx : x < n) : pl (lst f n) (x : Int) = if f x then ((lst f x).length : Int) else 0 := by
  unfold pl
  by_cases hf : f x = true
  · rw [if_pos hf, if_pos (mem_lst.2 ⟨by omega, by simpa using hf⟩)]
    obtain ⟨t, ht⟩ := lst_split hf hx
    have hn : (x : Int) ∉ lst f x := fun hm => by have := (mem_lst.1 hm).1; omega
    rw [ht, List.idxOf_append, if_neg hn]
    simp
  · rw [if_neg hf, if_neg fun hm => hf (by simpa using (mem_lst.1 hm).2)]
/-- the document's numbers -/
theorem refNumber {l1 l2 : List Bool} {n : Nat} {k : Nat → Bool} (hN : 4294967296 ≤ N) (hn : rows.length = n) (hn1 : 1 ≤ n) (hn2 : n < 4294967296) (h1 : l1.length = n) (h2 : l2.length = n) (hk0 : k 0 = true) (hk : ∀ j, 0 < j → j < n → (bt l1 j && bt l2 j) = k j) :
    ∃ P, iterO N (fun s => F_dofferref18_Trim_l0 N rows l1 l2 s.1 s.2.1 s.2.2) (List.replicate n 0, 1, 1) = some P ∧ P.length = n ∧ ∀ x : Nat, x < n → P[x]? = some (pl (lst k n) x) := by
  have hle := lst_len k
  have l1' : lst k 1 = [0] := by rw [lst_succ]; simp [hk0, lst]
  obtain ⟨s, q1, ⟨q2, q3, q4⟩⟩ := loop_inv (f := fun s => F_dofferref18_Trim_l0 N rows l1 l2 s.1 s.2.1 s.2.2) (fun i (s : List Int × Int) => (s.1, s.2, ((i + 1 : Nat) : Int))) (fun s => s.1) (List.range (n - 1))
    (fun i s => s.1.length = n ∧ s.2 = ((lst k (i + 1)).length : Int) ∧ ∀ x : Nat, x < n → s.1[x]? = some (if x < i + 1 then pl (lst k n) x else 0)) (N := N) (s := (List.replicate n 0, 1)) (by simp; omega)
    ⟨by simp, by rw [l1']; rfl, fun x hx => by
      by_cases h : x < 0 + 1
      · obtain rfl : x = 0 := by omega
        rw [if_pos h, pl_lst hx, hk0]
        simp [hx, lst]
      · rw [if_neg h]; simp [hx]⟩
    (fun i x s hx hI => by
      obtain ⟨k1, k2, k3⟩ := hI
      obtain ⟨P, m⟩ := s
      simp only at k1 k2 k3
      obtain ⟨hi, rfl⟩ := range_get hx
      have hin : x + 1 < n := by omega
      have hsu := lst_succ k (x + 1)
      have hlx := hle (x + 1)
      have hb1 := idx_bt (l := l1) (i := x + 1) (by omega)
      have hb2 := idx_bt (l := l2) (i := x + 1) (by omega)
      have hkx := hk (x + 1) (by omega) hin
      have hpx : pl (lst k n) ((x + 1 : Nat) : Int) = if k (x + 1) then ((lst k (x + 1)).length : Int) else 0 := pl_lst hin
      by_cases hc : k (x + 1) = true
      · refine ⟨(P.set (x + 1) m, ((lst k (x + 1 + 1)).length : Int)), ?_, by simp [k1], rfl, fun y hy => ?_⟩
        · rw [hc, Bool.and_eq_true] at hkx
          unfold F_dofferref18_Trim_l0
          simp only [hn, show (((x + 1 : Nat) : Int) < (n : Int)) by omega, decide_true, if_true, hb1, hkx.1, hb2, hkx.2, bind, Option.bind_some, idx_nat (show x + 1 < P.length by omega), setI_nat (show x + 1 < P.length by omega)]
          rw [w64_succ (by omega), k2, w64_succ (by omega), hsu, if_pos hc, List.length_append]
          rfl
        · show (P.set (x + 1) m)[y]? = _
          by_cases hyx : y = x + 1
          · subst hyx
            rw [List.getElem?_set_self (by omega), if_pos (by omega), hpx, if_pos hc, k2]
          · rw [List.getElem?_set_ne (by omega), k3 y hy]
            by_cases h : y < x + 1
            · rw [if_pos h, if_pos (by omega)]
            · rw [if_neg h, if_neg (by omega)]
      · have hc' : k (x + 1) = false := by simpa using hc
        refine ⟨(P, m), ?_, k1, ?_, fun y hy => ?_⟩
        · rw [hc'] at hkx
          unfold F_dofferref18_Trim_l0
          simp only [hn, show (((x + 1 : Nat) : Int) < (n : Int)) by omega, decide_true, if_true, hb1, hb2, bind, Option.bind_some]
          rw [w64_succ (by omega)]
          cases e1 : bt l1 (x + 1) with
          | false => simp
          | true =>
            rw [e1, Bool.true_and] at hkx
            simp [hkx]
        · show m = _
          rw [hsu, if_neg hc, k2]
        · show P[y]? = _
          rw [k3 y hy]
          by_cases hyx : y = x + 1
          · subst hyx
            rw [if_neg (by omega), if_pos (by omega), hpx, if_neg hc]
          · by_cases h : y < x + 1
            · rw [if_pos h, if_pos (by omega)]
            · rw [if_neg h, if_neg (by omega)])
    (fun s _ => by
      unfold F_dofferref18_Trim_l0
      rw [List.length_range, hn, show n - 1 + 1 = n by omega]
      simp)
  refine ⟨s.1, q1, q2, fun x hx => ?_⟩
  rw [q4 x hx, if_pos (by rw [List.length_range]; omega)]
end
end Go.Proofs.YteiaphkejkgfkaaDoor
