/-
  PLAIN LEAN: the order of the states: the code's and the document's are one: 'ord'.
-/
import Derived.Test.YteiaphkejkgfkaaDoorPlE
namespace Go.Proofs.YteiaphkejkgfkaaDoor
open Go Go.Eng
def ord (rows : List (List Int)) (entry : List Int) : List Int := bfs rows (rows.length + 1 - 1) 1 (insAll [0] entry)
theorem acc0 {rows : List (List Int)} {rule entry : List Int} (h : Rt rows rule entry) : Acc rows.length (insAll [0] entry) :=
  Acc.insAll (n := rows.length) (acc := [0]) ⟨by simp, fun x hx => by simp at hx; subst hx; have := h.n1; omega⟩ h.ent
/-- a row of a state in range -/
theorem row_of {rows : List (List Int)} {rule entry : List Int} (h : Rt rows rule entry) {x : Int} (hx : 0 ≤ x ∧ x < rows.length) : ∃ r, idx rows x = some r ∧ rows.getD x.toNat [] = r ∧ r ∈ rows ∧ ∀ y ∈ r, 0 ≤ y ∧ y < rows.length := by
  have hl : x.toNat < rows.length := by omega
  refine ⟨rows[x.toNat], idx_int hx.1 hl, by simp [List.getD, List.getElem?_eq_getElem hl], List.getElem_mem hl, h.row _ (List.getElem_mem hl)⟩
theorem order_spec {N : Nat} {rows : List (List Int)} {rule entry : List Int} (hN : 4294967296 ≤ N) (hs : Sz rows rule entry) (h : Rt rows rule entry) : F_canon_order N rows rule entry = some (ord rows entry) := by
  unfold F_canon_order
  have hn2 := h.n2
  obtain ⟨m0, e0, hm0, hz0⟩ := new_spec (N := N) (n := rows.length) (by omega)
  have hR0 : Rel rows.length m0 [] := ⟨hm0, fun j _ => by simp [hz0]⟩
  obtain ⟨m1, e1, hR1⟩ := put_rel (N := N) (x := 0) hR0 ⟨by omega, by have := h.n1; omega⟩ (by omega)
  have hA1 : Acc rows.length [0] := ⟨by simp, fun x hx => by simp at hx; subst hx; have := h.n1; omega⟩
  obtain ⟨m2, e2, hR2⟩ := order1_spec hN hs.c (show rows.length ≤ 65536 by omega) h.ent hA1 hR1
  simp only [e0, bind, Option.bind_some, e1, e2]
  obtain ⟨r, h1, h2⟩ := iterO_while (f := fun s => F_canon_order_l0 N rows s.1 s.2.1 s.2.2) (fun s => ∃ i : Nat, s.2.2 = (i : Int) ∧ i ≤ rows.length ∧ Acc rows.length s.1 ∧ Rel rows.length s.2.1 s.1 ∧ bfs rows (rows.length + 1 - i) i s.1 = ord rows entry)
    (fun s => rows.length - s.2.2.toNat) (fun r => r = ord rows entry) (fun s hI => by
      obtain ⟨acc, m, iv⟩ := s
      obtain ⟨i, rfl, hi, hA, hR, hb⟩ := hI
      simp only at hA hR hb ⊢
      have hlen := hA.len
      by_cases hlt : i < acc.length
      · left
        have hx := hA.rng _ (List.getElem_mem hlt)
        obtain ⟨row, r1, r2, r3, r4⟩ := row_of h hx
        have hw := hs.w row r3
        obtain ⟨m', e3, hR3⟩ := order1_spec hN (show row.length < 4294967296 by omega) (show rows.length ≤ 65536 by omega) r4 hA hR
        refine ⟨(insAll acc row, m', ((i + 1 : Nat) : Int)), ?_, ⟨i + 1, rfl, by omega, hA.insAll r4, hR3, ?_⟩, by simp; omega⟩
        · unfold F_canon_order_l0
          simp only [show ((i : Int) < (acc.length : Int)) by omega, decide_true, if_true, idx_nat hlt, r1, e3, bind, Option.bind_some]
          rw [w64_succ (by omega)]
        · rw [show rows.length + 1 - i = (rows.length + 1 - (i + 1)) + 1 by omega] at hb
          simp only [bfs, dif_pos hlt, r2] at hb
          exact hb
      · right
        refine ⟨acc, ?_, by rw [← hb, bfs_done hlt]⟩
        unfold F_canon_order_l0
        simp [show ¬ ((i : Int) < (acc.length : Int)) by omega])
    (N := N) (s := (insAll [0] entry, m2, 1)) ⟨1, rfl, by have := h.n1; omega, acc0 h, hR2, rfl⟩ (by simp; omega)
  rw [show iterO N (fun s => F_canon_order_l0 N rows s.1 s.2.1 s.2.2) (insAll [0] entry, m2, 1) = _ from h1, h2]
  rfl
theorem in_spec {N : Nat} {xs : List Int} {x : Int} (hN : 4294967296 ≤ N) (hl : xs.length < 4294967296) : F_doffernum_In N xs x = some (decide (x ∈ xs)) := by
  unfold F_doffernum_In
  rw [loop_any xs (fun y => y == x) true (by omega) (fun i y hy => by
    have hi := lt_len hy
    unfold F_doffernum_In_l0
    simp only [show ((i : Int) < (xs.length : Int)) by omega, decide_true, if_true, idx_of hy, bind, Option.bind_some]
    rw [w64_succ (by omega)]) (by unfold F_doffernum_In_l0; simp)]
  by_cases h : x ∈ xs
  · have : (xs.any fun y => y == x) = true := List.any_eq_true.2 ⟨x, h, by simp⟩
    simp [this, h]
  · have : (xs.any fun y => y == x) = false := List.any_eq_false.2 fun y hy => by
      have : y ≠ x := fun e => h (e ▸ hy)
      simp [this]
    simp [this, h]
/-- the document's round over a list of states -/
theorem refOrder_spec {N : Nat} {rows : List (List Int)} {rule entry : List Int} (hN : 4294967296 ≤ N) (hs : Sz rows rule entry) (h : Rt rows rule entry) : F_dofferref20_Order N rows rule entry = some (ord rows entry) := by
  unfold F_dofferref20_Order
  have hn2 := h.n2
  have hA1 : Acc rows.length [0] := ⟨by simp, fun x hx => by simp at hx; subst hx; have := h.n1; omega⟩
  obtain ⟨a1, e1, q1, q2⟩ := loop_inv (f := fun s => F_dofferref20_Order_l0 N entry s.1 s.2) (fun i (s : List Int) => ((i : Int), s)) id entry (fun i s => s = insAll [0] (entry.take i) ∧ Acc rows.length s) (N := N) (s := [0]) (by have := hs.c; omega) ⟨by simp [insAll], hA1⟩
    (fun i x s hx hI => by
      obtain ⟨h1, h2⟩ := hI
      have hi := lt_len hx
      have hc := hs.c
      have hxr := h.ent x (List.mem_of_getElem? hx)
      have hlen := h2.len
      refine ⟨ins s x, ?_, by rw [insAll_take hx, h1], h2.ins hxr⟩
      unfold F_dofferref20_Order_l0
      simp only [show ((i : Int) < (entry.length : Int)) by omega, decide_true, if_true, idx_of hx, in_spec hN (show s.length < 4294967296 by omega), bind, Option.bind_some]
      rw [w64_succ (by omega)]
      by_cases hm : x ∈ s
      · simp [hm, ins]
      · simp [hm, ins]
        rw [app_eq (by simp; omega)]
        rfl)
    (fun s _ => by unfold F_dofferref20_Order_l0; simp)
  rw [List.take_length] at q1
  subst q1
  obtain ⟨r, h1, h2⟩ := iterO_while (f := fun s => F_dofferref20_Order_l1 N rows s.1 s.2) (fun s => ∃ i : Nat, s.2 = (i : Int) ∧ i ≤ rows.length ∧ Acc rows.length s.1 ∧ bfs rows (rows.length + 1 - i) i s.1 = ord rows entry)
    (fun s => rows.length - s.2.toNat) (fun r => r = ord rows entry) (fun s hI => by
      obtain ⟨acc, iv⟩ := s
      obtain ⟨i, rfl, hi, hA, hb⟩ := hI
      simp only at hA hb ⊢
      have hlen := hA.len
      by_cases hlt : i < acc.length
      · left
        have hx := hA.rng _ (List.getElem_mem hlt)
        obtain ⟨row, r1, r2, r3, r4⟩ := row_of h hx
        have hw := hs.w row r3
        obtain ⟨a2, e2, q3, q4, q5⟩ := loop_inv (f := fun s => F_dofferref20_Order_l2 N rows (i : Int) s.1 s.2) (fun j (s : List Int) => (s, (j : Int))) id row (fun j s => s = insAll acc (row.take j) ∧ Acc rows.length s ∧ acc <+: s) (N := N) (s := acc) (by omega) ⟨by simp [insAll], hA, List.prefix_refl _⟩
          (fun j x s hx2 hI => by
            obtain ⟨k1, k2, k3⟩ := hI
            have hj := lt_len hx2
            have hxr := r4 x (List.mem_of_getElem? hx2)
            have hlen2 := k2.len
            refine ⟨ins s x, ?_, by rw [insAll_take hx2, k1], k2.ins hxr, k3.trans (ins_prefix _ _)⟩
            have hi2 : s[i]? = some acc[i] := by
              obtain ⟨t, rfl⟩ := k3
              rw [List.getElem?_append_left hlt, List.getElem?_eq_getElem hlt]
            unfold F_dofferref20_Order_l2
            simp only [show ((j : Int) < 256) by omega, decide_true, if_true, idx_of hi2, r1, idx_of hx2, in_spec hN (show s.length < 4294967296 by omega), bind, Option.bind_some]
            rw [w64_succ (by omega)]
            by_cases hm : x ∈ s
            · simp [hm, ins]
            · simp [hm, ins]
              rw [app_eq (by simp; omega)]
              rfl)
          (fun s _ => by unfold F_dofferref20_Order_l2; simp [hw])
        rw [List.take_length] at q3
        subst q3
        refine ⟨(insAll acc row, ((i + 1 : Nat) : Int)), ?_, ⟨i + 1, rfl, by omega, hA.insAll r4, ?_⟩, by simp; omega⟩
        · unfold F_dofferref20_Order_l1
          simp only [show ((i : Int) < (acc.length : Int)) by omega, decide_true, if_true, bind]
          rw [show iterO N (fun s => F_dofferref20_Order_l2 N rows (i : Int) s.1 s.2) (acc, 0) = _ from e2]
          simp only [Option.bind_some, id]
          rw [w64_succ (by omega)]
        · rw [show rows.length + 1 - i = (rows.length + 1 - (i + 1)) + 1 by omega] at hb
          simp only [bfs, dif_pos hlt, r2] at hb
          exact hb
      · right
        refine ⟨acc, ?_, by rw [← hb, bfs_done hlt]⟩
        unfold F_dofferref20_Order_l1
        simp [show ¬ ((i : Int) < (acc.length : Int)) by omega])
    (N := N) (s := (insAll [0] entry, 1)) ⟨1, rfl, by have := h.n1; omega, q2, rfl⟩ (by simp; omega)
  rw [show iterO N (fun s => F_dofferref20_Order_l0 N entry s.1 s.2) (0, [0]) = _ from e1]
  simp only [bind, Option.bind_some, id]
  rw [h1, h2]
  rfl
end Go.Proofs.YteiaphkejkgfkaaDoor
