/-
  PLAIN LEAN: the order of the states: the code's and the document's are one.
-/
import Derived.Test.YteiaphkejkgfkaaDoorPlD
namespace Go.Proofs.YteiaphkejkgfkaaDoor
open Go Go.Eng
def ins (acc : List Int) (x : Int) : List Int := if x ∈ acc then acc else acc ++ [x]
def insAll (acc xs : List Int) : List Int := xs.foldl ins acc
def bfs (rows : List (List Int)) : Nat → Nat → List Int → List Int
  | 0, _, acc => acc
  | k + 1, i, acc => if h : i < acc.length then bfs rows k (i + 1) (insAll acc (rows.getD acc[i].toNat [])) else acc
theorem bfs_done {rows : List (List Int)} {k i : Nat} {acc : List Int} (h : ¬ i < acc.length) : bfs rows k i acc = acc := by
  cases k with
  | zero => rfl
  | succ k => simp [bfs, h]
/-- states of an automaton of n, none twice -/
structure Acc (n : Nat) (acc : List Int) : Prop where
  nd : acc.Nodup
  rng : ∀ x ∈ acc, 0 ≤ x ∧ x < n
theorem nodup_len : ∀ {l m : List Int}, l.Nodup → (∀ x ∈ l, x ∈ m) → l.length ≤ m.length
  | [], _, _, _ => by simp
  | x :: l, m, hn, hs => by
    obtain ⟨h1, h2⟩ := List.nodup_cons.1 hn
    have hx := hs x (by simp)
    have := nodup_len (l := l) (m := m.erase x) h2 (fun y hy => (List.mem_erase_of_ne (show y ≠ x from fun e => h1 (e ▸ hy))).2 (hs y (by simp [hy])))
    rw [List.length_erase_of_mem hx] at this
    have : 0 < m.length := List.length_pos_of_mem hx
    simp; omega
theorem Acc.len {n : Nat} {acc : List Int} (h : Acc n acc) : acc.length ≤ n := by
  have := nodup_len (m := (List.range n).map fun (i : Nat) => (i : Int)) h.nd (fun x hx => by
    have := h.rng x hx
    exact List.mem_map.2 ⟨x.toNat, by simp; omega, by omega⟩)
  simpa using this
theorem Acc.ins {n : Nat} {acc : List Int} {x : Int} (h : Acc n acc) (h0 : 0 ≤ x ∧ x < n) : Acc n (ins acc x) := by
  unfold Go.Proofs.YteiaphkejkgfkaaDoor.ins
  split
  · exact h
  · rename_i hx
    refine ⟨List.nodup_append.2 ⟨h.nd, by simp, fun a ha b hb => ?_⟩, fun y hy => ?_⟩
    · simp at hb; subst hb; exact fun e => hx (e ▸ ha)
    · rcases List.mem_append.1 hy with hy | hy
      · exact h.rng y hy
      · simp at hy; subst hy; exact h0
theorem Acc.insAll {n : Nat} : ∀ {xs acc : List Int}, Acc n acc → (∀ x ∈ xs, 0 ≤ x ∧ x < n) → Acc n (insAll acc xs)
  | [], _, h, _ => h
  | x :: xs, acc, h, hx => Acc.insAll (xs := xs) (h.ins (hx x (by simp))) (fun y hy => hx y (by simp [hy]))
theorem ins_prefix (acc : List Int) (x : Int) : acc <+: ins acc x := by
  unfold ins; split
  · exact List.prefix_refl _
  · exact List.prefix_append _ _
theorem insAll_prefix : ∀ (xs acc : List Int), acc <+: insAll acc xs
  | [], _ => List.prefix_refl _
  | x :: xs, acc => (ins_prefix acc x).trans (insAll_prefix xs _)
theorem insAll_take {acc xs : List Int} {i : Nat} {x : Int} (h : xs[i]? = some x) : insAll acc (xs.take (i + 1)) = ins (insAll acc (xs.take i)) x := by
  unfold insAll
  rw [List.take_add_one, h, List.foldl_append]; rfl
/-- the marks are those of the list -/
structure Rel (n : Nat) (m acc : List Int) : Prop where
  mkr : MkR n m
  at_ : ∀ j, j < n → (has m j = true ↔ (j : Int) ∈ acc)
theorem put_rel {N n : Nat} {m acc : List Int} {x : Int} (h : Rel n m acc) (h0 : 0 ≤ x ∧ x < n) (hn : n ≤ 65536) : ∃ m', F_marks_Marks_Put N m (n : Int) x = some (m', decide (x ∉ acc)) ∧ Rel n m' (ins acc x) := by
  obtain ⟨i, rfl⟩ : ∃ i : Nat, x = (i : Int) := ⟨x.toNat, by omega⟩
  have hi : i < n := by omega
  obtain ⟨m', h1, h2, h3, _⟩ := put_spec (N := N) h.mkr hi hn
  refine ⟨m', ?_, h2, fun j hj => ?_⟩
  · rw [h1]
    have := h.at_ i hi
    by_cases hm : (i : Int) ∈ acc
    · simp [hm, this.2 hm]
    · have : has m i = false := by
        cases hh : has m i with
        | false => rfl
        | true => exact absurd (this.1 hh) hm
      simp [hm, this]
  · rw [h3 j]
    unfold ins
    have := h.at_ j hj
    by_cases hm : (i : Int) ∈ acc
    · rw [if_pos hm, ← this]
      constructor
      · intro h4
        rcases Bool.or_eq_true_iff.1 h4 with h4 | h4
        · exact h4
        · simp at h4; subst h4; exact (h.at_ _ hi).2 hm
      · intro h4; simp [h4]
    · have hji : (j : Int) = i ↔ j = i := by omega
      rw [if_neg hm, List.mem_append, ← this, List.mem_singleton, hji, Bool.or_eq_true, beq_iff_eq]
theorem order1_spec {N n : Nat} {xs m acc : List Int} (hN : 4294967296 ≤ N) (hl : xs.length < 4294967296) (hn : n ≤ 65536) (hx : ∀ x ∈ xs, 0 ≤ x ∧ x < n) (hA : Acc n acc) (hR : Rel n m acc) :
    ∃ m', F_canon_order_1 N xs m (n : Int) acc = some (m', insAll acc xs) ∧ Rel n m' (insAll acc xs) := by
  unfold F_canon_order_1
  obtain ⟨s', h1, h2⟩ := loop_inv (f := fun s => F_canon_order_1_l0 N xs (n : Int) s.1 s.2.1 s.2.2) (fun i (s : List Int × List Int) => (s.1, s.2, (i : Int))) id xs (fun i s => s.2 = insAll acc (xs.take i) ∧ Acc n s.2 ∧ Rel n s.1 s.2) (N := N) (s := (m, acc)) (by omega) ⟨by simp [insAll], hA, hR⟩
    (fun i x s hxi hI => by
      obtain ⟨h1, h2, h3⟩ := hI
      have hi := lt_len hxi
      have hxr := hx x (List.mem_of_getElem? hxi)
      obtain ⟨m', h4, h5⟩ := put_rel (N := N) h3 hxr hn
      refine ⟨(m', ins s.2 x), ?_, by rw [insAll_take hxi, h1], h2.ins hxr, h5⟩
      unfold F_canon_order_1_l0
      simp only [show ((i : Int) < (xs.length : Int)) by omega, decide_true, if_true, idx_of hxi, h4, bind, Option.bind_some]
      rw [w64_succ (by omega)]
      have hlen := h2.len
      by_cases hm : x ∈ s.2
      · simp [hm, ins]
      · simp [hm, ins]
        rw [app_eq (by simp; omega)]
        rfl)
    (fun s _ => by unfold F_canon_order_1_l0; simp)
  refine ⟨s'.1, ?_, ?_⟩
  · rw [show iterO N (fun s => F_canon_order_1_l0 N xs (n : Int) s.1 s.2.1 s.2.2) (m, acc, 0) = _ from h1]
    have := h2.1
    rw [List.take_length] at this
    rw [← this]
    rfl
  · have := h2.1
    rw [List.take_length] at this
    rw [← this]
    exact h2.2.2
end Go.Proofs.YteiaphkejkgfkaaDoor
