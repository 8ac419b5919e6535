/-
  PLAIN LEAN: the marks' length; the edges: the code's and the document's are one.
-/
import Derived.Test.YteiaphkejkgfkaaDoorPlK
namespace Go.Proofs.YteiaphkejkgfkaaDoor
open Go Go.Eng
theorem countP_one {p : Nat → Bool} {k : Nat} (hk : p k = false) : ∀ {l : List Nat}, l.Nodup → k ∈ l → l.countP (fun j => p j || j == k) = l.countP p + 1
  | [], _, h => by simp at h
  | x :: l, hn, h => by
    obtain ⟨h1, h2⟩ := List.nodup_cons.1 hn
    by_cases hx : x = k
    · subst hx
      have : l.countP (fun j => p j || j == x) = l.countP p := List.countP_congr fun j hj => by
        have : j ≠ x := fun e => h1 (e ▸ hj)
        simp [this]
      rw [List.countP_cons, List.countP_cons, this]
      simp [hk]
    · have hm : k ∈ l := by
        rcases List.mem_cons.1 h with h | h
        · exact absurd h.symm hx
        · exact h
      have ih := countP_one hk h2 hm
      rw [List.countP_cons, List.countP_cons, ih]
      simp [hx]
      omega
theorem pop_or {a k : Nat} (hk : k < 64) (h : a.testBit k = false) : pop (a ||| 2 ^ k) = pop a + 1 := by
  unfold pop
  rw [← countP_one (p := (a.testBit ·)) h List.nodup_range (by simpa using hk)]
  refine List.countP_congr fun j _ => ?_
  rw [Nat.testBit_or, Nat.testBit_two_pow]
  by_cases hj : j = k
  · subst hj; simp
  · have : ¬ k = j := fun e => hj e.symm
    simp [hj, this]
theorem pop_le (a : Nat) : pop a ≤ 64 := by
  unfold pop
  have := List.countP_le_length (p := (a.testBit ·)) (l := List.range 64)
  simpa using this
def cnt (m : List Int) : Nat := (m.map fun w => pop w.toNat).sum
theorem sum_set {f : Int → Nat} : ∀ {l : List Int} {i : Nat} {x y : Int}, l[i]? = some x → ((l.set i y).map f).sum + f x = (l.map f).sum + f y
  | [], i, x, y, h => by simp at h
  | z :: l, 0, x, y, h => by simp at h; subst h; simp; omega
  | z :: l, i + 1, x, y, h => by
    have := sum_set (f := f) (l := l) (i := i) (x := x) (y := y) (by simpa using h)
    simp only [List.set_cons_succ, List.map_cons, List.sum_cons]
    omega
theorem put_cnt {N n : Nat} {m acc : List Int} {x : Int} (h : Rel n m acc) (h0 : 0 ≤ x ∧ x < n) (hn : n ≤ 65536) (hc : cnt m = acc.length) : ∃ m', F_marks_Marks_Put N m (n : Int) x = some (m', decide (x ∉ acc)) ∧ Rel n m' (ins acc x) ∧ cnt m' = (ins acc x).length := by
  obtain ⟨m', h1, h2⟩ := put_rel (N := N) h h0 hn
  refine ⟨m', h1, h2, ?_⟩
  obtain ⟨i, rfl⟩ : ∃ i : Nat, x = (i : Int) := ⟨x.toNat, by omega⟩
  have hi : i < n := by omega
  obtain ⟨m'', e1, _, _, e2⟩ := put_spec (N := N) h.mkr hi hn
  rw [h1] at e1
  have e3 := (Prod.mk.inj (Option.some.inj e1)).1
  subst e3
  have ha := h.at_ i hi
  unfold ins
  by_cases hh : has m i = true
  · rw [e2, if_pos hh, if_pos (ha.1 hh), hc]
  · have hf : has m i = false := by simpa using hh
    have hm : ¬ (i : Int) ∈ acc := fun hm => hh (ha.2 hm)
    rw [if_neg hh] at e2
    rw [if_neg hm, e2]
    have hl : i / 64 < m.length := by rw [h.mkr.len]; omega
    have hw := h.mkr.rng _ (List.getElem_mem hl)
    have hx : m[i / 64]? = some m[i / 64] := List.getElem?_eq_getElem hl
    have hg : m.getD (i / 64) 0 = m[i / 64] := by rw [List.getD, hx]; rfl
    have hs := sum_set (f := fun w => pop w.toNat) (y := ((m[i / 64].toNat ||| 2 ^ (i % 64) : Nat) : Int)) hx
    have hb : m[i / 64].toNat.testBit (i % 64) = false := by
      unfold has at hf
      rwa [hg] at hf
    rw [hg]
    simp only [Int.toNat_natCast] at hs
    rw [pop_or (by omega) hb] at hs
    unfold cnt at hc ⊢
    simp only [List.length_append, List.length_cons, List.length_nil]
    omega
theorem cnt_le {m : List Int} : cnt m ≤ 64 * m.length := by
  unfold cnt
  induction m with
  | nil => simp
  | cons x m ih =>
    have := pop_le x.toNat
    simp only [List.map_cons, List.sum_cons, List.length_cons]
    omega
theorem len_spec {N n : Nat} {m : List Int} (hN : 4294967296 ≤ N) (hm : MkR n m) (hn : n ≤ 65536) : F_marks_Marks_Len N m (n : Int) = some ((cnt m : Nat) : Int) := by
  have hl : m.length ≤ 1024 := by rw [hm.len]; omega
  unfold F_marks_Marks_Len F_marks_Marks_own
  obtain ⟨s, h1, h2⟩ := loop_inv (f := fun s => F_marks_Marks_Len_l0 N m s.1 s.2) (fun i (s : Nat) => ((s : Int), (i : Int))) (fun s => (s : Int)) m (fun i s => s = cnt (m.take i)) (N := N) (s := 0) (by omega) (by simp [cnt])
    (fun i w s hw hs => by
      subst hs
      have hi := lt_len hw
      have hwr := hm.rng w (List.mem_of_getElem? hw)
      obtain ⟨a, rfl⟩ : ∃ a : Nat, w = (a : Int) := ⟨w.toNat, by omega⟩
      have hc := cnt_le (m := m.take i)
      have hp := pop_le a
      have hti : (m.take i).length ≤ 1024 := by simp; omega
      refine ⟨cnt (m.take i) + pop a, ?_, ?_⟩
      · unfold F_marks_Marks_Len_l0
        simp only [show ((i : Int) < (m.length : Int)) by omega, decide_true, if_true, idx_of hw, ones_spec (N := N) (show a < 18446744073709551616 by omega), bind, Option.bind_some]
        rw [w64_succ (by omega), ← Int.natCast_add, w64, wrap64 (by omega) (by omega)]
      · rw [List.take_add_one, hw]
        simp [cnt])
    (fun s _ => by unfold F_marks_Marks_Len_l0; simp)
  rw [List.take_length] at h2
  simp only [bind, Option.bind_some]
  rw [show iterO N (fun s => F_marks_Marks_Len_l0 N m s.1 s.2) (0, 0) = _ from h1, h2]
  rfl
def edg (rows : List (List Int)) : Nat := (rows.map fun r => (insAll [] r).length).sum
theorem edg_take {rows : List (List Int)} {i : Nat} {r : List Int} (h : rows[i]? = some r) : edg (rows.take (i + 1)) = edg (rows.take i) + (insAll [] r).length := by
  rw [List.take_add_one, h]
  simp [edg]
theorem acc_nil (n : Nat) : Acc n [] := ⟨by simp, fun x hx => by simp at hx⟩
theorem edg_le {rows : List (List Int)} {n : Nat} (h : ∀ r ∈ rows, ∀ x ∈ r, 0 ≤ x ∧ x < (n : Int)) : edg rows ≤ n * rows.length := by
  induction rows with
  | nil => simp [edg]
  | cons r rows ih =>
    have h1 := (Acc.insAll (acc_nil n) (h r (by simp))).len
    have h2 := ih fun r hr => h r (by simp [hr])
    simp only [edg, List.map_cons, List.sum_cons, List.length_cons, Nat.mul_add, Nat.mul_one] at h2 ⊢
    omega
theorem edges_row {N : Nat} {row m : List Int} (hN : 4294967296 ≤ N) (hw : row.length = 256) (hr : ∀ x ∈ row, 0 ≤ x ∧ x < (200 : Nat)) (hR : Rel 200 m []) (hc : cnt m = 0) :
    ∃ m', iterO N (fun s => F_canon_Edges_l1 N row s.1 s.2) (0, m) = some m' ∧ MkR 200 m' ∧ cnt m' = (insAll [] row).length := by
  obtain ⟨s, h1, h2, h3, h4⟩ := loop_inv (f := fun s => F_canon_Edges_l1 N row s.1 s.2) (fun i (s : List Int) => ((i : Int), s)) id row (fun i m => Acc 200 (insAll [] (row.take i)) ∧ Rel 200 m (insAll [] (row.take i)) ∧ cnt m = (insAll [] (row.take i)).length) (N := N) (s := m) (by omega)
    ⟨acc_nil _, hR, hc⟩
    (fun i x m hx hI => by
      obtain ⟨k0, k1, k2⟩ := hI
      have hi := lt_len hx
      have hxr := hr x (List.mem_of_getElem? hx)
      obtain ⟨m', e1, e2, e3⟩ := put_cnt (N := N) k1 hxr (by omega) k2
      refine ⟨m', ?_, ?_⟩
      · unfold F_canon_Edges_l1
        simp only [show ((i : Int) < 256) by omega, decide_true, if_true, idx_of hx, bind, Option.bind_some]
        rw [show F_marks_Marks_Put N m 200 x = _ from e1]
        simp only [Option.bind_some]
        rw [w64_succ (by omega)]
      · rw [insAll_take hx]
        exact ⟨k0.ins hxr, e2, e3⟩)
    (fun s _ => by unfold F_canon_Edges_l1; simp [hw])
  rw [List.take_length] at h3 h4
  exact ⟨s, h1, h3.mkr, h4⟩
theorem edges_spec {N : Nat} {rows : List (List Int)} {rule entry : List Int} (hN : 4294967296 ≤ N) (hs : Sz rows rule entry) (h : Rt rows rule entry) : F_canon_Edges N rows rule entry = some ((edg rows : Nat) : Int) := by
  obtain ⟨b, hb, hbt⟩ := right_spec hN hs
  rw [hbt.2 h] at hb
  have hn2 := h.n2
  have hle := edg_le h.row
  have hle2 : edg rows ≤ 200 * 200 := Nat.le_trans hle (Nat.mul_le_mul hn2 hn2)
  obtain ⟨m0, e0, hm0, hz0⟩ := new_spec (N := N) (n := 200) (by omega)
  have hc0 : cnt m0 = 0 := by
    have e1 : F_marks_New N ((200 : Nat) : Int) = some (.inr (List.replicate 4 0)) := rfl
    rw [e0] at e1
    obtain rfl := Sum.inr.inj (Option.some.inj e1)
    decide +kernel
  unfold F_canon_Edges
  obtain ⟨s, h1, h2⟩ := loop_inv (f := fun s => F_canon_Edges_l0 N rows s.1 s.2) (fun i (s : Nat) => ((i : Int), (s : Int))) (fun s => Sum.inl (s : Int)) rows (fun i s => s = edg (rows.take i) ∧ s ≤ i * 200) (N := N) (s := 0) (by omega) ⟨by simp [edg], by simp⟩
    (fun i r s hr hI => by
      obtain ⟨rfl, hI2⟩ := hI
      have hi := lt_len hr
      have hrm := List.mem_of_getElem? hr
      have hrr : ∀ x ∈ r, 0 ≤ x ∧ x < ((200 : Nat) : Int) := fun x hx => by have := h.row r hrm x hx; omega
      obtain ⟨m', f1, f2, f3⟩ := edges_row (N := N) hN (hs.w r hrm) hrr ⟨hm0, fun j _ => by simp [hz0]⟩ hc0
      have hl := (Acc.insAll (acc_nil 200) hrr).len
      refine ⟨edg (rows.take i) + (insAll [] r).length, ?_, (edg_take hr).symm, by omega⟩
      unfold F_canon_Edges_l0
      simp only [show ((i : Int) < (rows.length : Int)) by omega, decide_true, if_true, idx_of hr, bind, Option.bind_some]
      rw [show F_marks_New N 200 = _ from e0]
      simp only [Option.bind_some]
      rw [f1]
      simp only [Option.bind_some]
      rw [show F_marks_Marks_Len N m' 200 = _ from len_spec hN f2 (by decide)]
      simp only [Option.bind_some]
      rw [w64_succ (by omega), f3, ← Int.natCast_add, w64, wrap64 (by omega) (by omega)])
    (fun s _ => by unfold F_canon_Edges_l0; simp)
  rw [List.take_length] at h2
  simp only [hb, bind, Option.bind_some, Bool.not_true, Bool.false_eq_true, if_false]
  rw [show iterO N (fun s => F_canon_Edges_l0 N rows s.1 s.2) (0, 0) = _ from h1, h2.1]
  rfl
theorem edges_not {N : Nat} {rows : List (List Int)} {rule entry : List Int} (hN : 4294967296 ≤ N) (hs : Sz rows rule entry) (h : ¬ Rt rows rule entry) : F_canon_Edges N rows rule entry = some 0 := by
  obtain ⟨b, hb, hbt⟩ := right_spec hN hs
  have hbf : b = false := by
    cases b with
    | false => rfl
    | true => exact absurd (hbt.1 rfl) h
  subst hbf
  unfold F_canon_Edges
  simp only [hb, bind, Option.bind_some, Bool.not_false, if_true]
theorem refEdges_spec {N : Nat} {rows : List (List Int)} {rule entry : List Int} (hN : 4294967296 ≤ N) (hs : Sz rows rule entry) (h : Rt rows rule entry) : F_dofferref20_Edges N rows rule entry = some ((edg rows : Nat) : Int) := by
  have hn2 := h.n2
  unfold F_dofferref20_Edges
  obtain ⟨s, h1, h2⟩ := loop_inv (f := fun s => F_dofferref20_Edges_l0 N rows s.1 s.2) (fun i (s : Nat) => ((i : Int), (s : Int))) (fun s => (s : Int)) rows (fun i s => s = edg (rows.take i) ∧ s ≤ i * 200) (N := N) (s := 0) (by omega) ⟨by simp [edg], by simp⟩
    (fun i r s hr hI => by
      obtain ⟨rfl, hI2⟩ := hI
      have hi := lt_len hr
      have hrm := List.mem_of_getElem? hr
      have hw := hs.w r hrm
      have hrr := h.row r hrm
      have hl := (Acc.insAll (acc_nil rows.length) hrr).len
      obtain ⟨a, f1, f2, f3⟩ := loop_inv (f := fun s => F_dofferref20_Edges_l1 N r s.1 s.2) (fun i (s : List Int) => ((i : Int), s)) id r (fun i s => s = insAll [] (r.take i) ∧ Acc rows.length s) (N := N) (s := []) (by omega) ⟨by simp [insAll], acc_nil _⟩
        (fun j x a hx hJ => by
          obtain ⟨k1, k2⟩ := hJ
          have hj := lt_len hx
          have hxr := hrr x (List.mem_of_getElem? hx)
          have hlen := k2.len
          refine ⟨ins a x, ?_, by rw [insAll_take hx, k1], k2.ins hxr⟩
          unfold F_dofferref20_Edges_l1
          simp only [show ((j : Int) < 256) by omega, decide_true, if_true, idx_of hx, in_spec hN (show a.length < 4294967296 by omega), bind, Option.bind_some]
          rw [w64_succ (by omega)]
          by_cases hm : x ∈ a
          · simp [hm, ins]
          · simp [hm, ins]
            rw [app_eq (by simp; omega)]
            rfl)
        (fun s _ => by unfold F_dofferref20_Edges_l1; simp [hw])
      rw [List.take_length] at f2
      subst f2
      refine ⟨edg (rows.take i) + (insAll [] r).length, ?_, (edg_take hr).symm, by omega⟩
      unfold F_dofferref20_Edges_l0
      simp only [show ((i : Int) < (rows.length : Int)) by omega, decide_true, if_true, idx_of hr, bind, Option.bind_some]
      rw [show iterO N (fun s => F_dofferref20_Edges_l1 N r s.1 s.2) (0, []) = _ from f1]
      simp only [Option.bind_some, id]
      rw [w64_succ (by omega), ← Int.natCast_add, w64, wrap64 (by omega) (by omega)])
    (fun s _ => by unfold F_dofferref20_Edges_l0; simp)
  rw [List.take_length] at h2
  rw [show iterO N (fun s => F_dofferref20_Edges_l0 N rows s.1 s.2) (0, 0) = _ from h1, h2.1]
  rfl
end Go.Proofs.YteiaphkejkgfkaaDoor
