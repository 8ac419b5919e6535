/-
  PLAIN LEAN: the states that are reached: the code's and the document's.
-/
import Derived.Test.YteiaphkejkgfkaaDoorPlO
namespace Go.Proofs.YteiaphkejkgfkaaDoor
open Go Go.Eng
/-- the marks are those of the list, all below n; the list is as long as the marks are many -/
structure Mk (n : Nat) (m acc : List Int) : Prop where
  rel : Rel n m acc
  hb : ∀ j, n ≤ j → has m j = false
  ac : Acc n acc
  c : cnt m = acc.length
theorem Mk.has {n : Nat} {m acc : List Int} (h : Mk n m acc) {j : Nat} (hj : j < n) : has m j = decide ((j : Int) ∈ acc) := by
  have := h.rel.at_ j hj
  by_cases hm : (j : Int) ∈ acc
  · rw [this.2 hm]; simp [hm]
  · cases hh : Go.Proofs.YteiaphkejkgfkaaDoor.has m j with
    | false => simp [hm]
    | true => exact absurd (this.1 hh) hm
theorem put_mk {N n : Nat} {m acc : List Int} {x : Int} (h : Mk n m acc) (h0 : 0 ≤ x ∧ x < n) (hn : n ≤ 65536) : ∃ m', F_marks_Marks_Put N m (n : Int) x = some (m', decide (x ∉ acc)) ∧ Mk n m' (ins acc x) := by
  obtain ⟨m', h1, h2, h3⟩ := put_cnt (N := N) h.rel h0 hn h.c
  refine ⟨m', h1, h2, fun j hj => ?_, h.ac.ins h0, h3⟩
  obtain ⟨i, rfl⟩ : ∃ i : Nat, x = (i : Int) := ⟨x.toNat, by omega⟩
  obtain ⟨m'', e1, _, e2, _⟩ := put_spec (N := N) h.rel.mkr (show i < n by omega) hn
  rw [h1] at e1
  have e3 := (Prod.mk.inj (Option.some.inj e1)).1
  subst e3
  rw [e2 j, h.hb j hj]
  have : ¬ j = i := by omega
  simp [this]
theorem new_mk {N n : Nat} (hn : n ≤ 65536) : ∃ m, F_marks_New N (n : Int) = some (.inr m) ∧ Mk n m [] := by
  obtain ⟨m, h1, h2, h3⟩ := new_spec (N := N) hn
  refine ⟨m, h1, ⟨h2, fun j _ => by simp [h3]⟩, fun j _ => h3 j, acc_nil n, ?_⟩
  have : ∀ w ∈ m, pop w.toNat = 0 := by
    intro w hw
    obtain ⟨i, hi⟩ := List.mem_iff_getElem?.1 hw
    have hwr := h2.rng w hw
    have hz : ∀ c, c < 64 → w.toNat.testBit c = false := fun c hc => by
      have := h3 (64 * i + c)
      unfold has at this
      rw [show (64 * i + c) / 64 = i by omega, show (64 * i + c) % 64 = c by omega, List.getD, hi] at this
      exact this
    unfold pop
    rw [List.countP_eq_zero]
    intro c hc
    have := hz c (by simpa using hc)
    simp [this]
  unfold cnt
  clear h1 h2 h3
  induction m with
  | nil => rfl
  | cons w m ih =>
    have h1 := this w (by simp)
    have h2 := ih (fun x hx => this x (by simp [hx]))
    simp only [List.map_cons, List.sum_cons, h1, h2, List.length_nil] at h2 ⊢
section
variable {N : Nat} {rows : List (List Int)} {rule entry : List Int}
theorem marked_spec {list : List Int} (hN : 4294967296 ≤ N) (hn : rows.length ≤ 65536) (hl : list.length < 4294967296) (hx : ∀ x ∈ list, 0 ≤ x ∧ x < (rows.length : Int)) :
    ∃ m, F_trim_marked N rows rule entry list = some (.inr m) ∧ Mk rows.length m (insAll [] list) := by
  obtain ⟨m0, e0, q0⟩ := new_mk (N := N) hn
  unfold F_trim_marked
  simp only [e0, bind, Option.bind_some]
  obtain ⟨m, h1, h2⟩ := loop_inv (f := fun s => F_trim_marked_l0 N rows list s.1 s.2) (fun i (s : List Int) => ((i : Int), s)) id list (fun i m => Mk rows.length m (insAll [] (list.take i))) (N := N) (s := m0) (by omega) (by simpa [insAll] using q0)
    (fun i x m hxi hI => by
      have hi := lt_len hxi
      obtain ⟨m', e1, q1⟩ := put_mk (N := N) hI (hx x (List.mem_of_getElem? hxi)) hn
      refine ⟨m', ?_, by rw [insAll_take hxi]; exact q1⟩
      unfold F_trim_marked_l0
      simp only [show ((i : Int) < (list.length : Int)) by omega, decide_true, if_true, idx_of hxi, e1, bind, Option.bind_some]
      rw [w64_succ (by omega)])
    (fun s _ => by unfold F_trim_marked_l0; simp)
  rw [List.take_length] at h2
  refine ⟨m, ?_, h2⟩
  rw [show iterO N (fun s => F_trim_marked_l0 N rows list s.1 s.2) (0, m0) = _ from h1]
  rfl
/-- what is reached -/
inductive Rch (rows : List (List Int)) (entry : List Int) : Int → Prop
  | zero : Rch rows entry 0
  | ent {x : Int} : x ∈ entry → Rch rows entry x
  | step {s y : Int} : Rch rows entry s → y ∈ rows.getD s.toNat [] → Rch rows entry y
theorem Rch.rng (h : Rt rows rule entry) {s : Int} (hr : Rch rows entry s) : 0 ≤ s ∧ s < rows.length := by
  induction hr with
  | zero => have := h.n1; omega
  | ent hx => exact h.ent _ hx
  | step _ hy ih =>
    obtain ⟨r, _, h2, h3, h4⟩ := row_of h ih
    rw [h2] at hy
    exact h4 _ hy
theorem row0 (h : Rt rows rule entry) {y : Int} (hy : y ∈ rows.getD (0 : Int).toNat []) : y = 0 := by
  have : rows.getD (0 : Int).toNat [] = List.replicate 256 0 := by show rows.getD 0 [] = _; rw [List.getD, h.r0]; rfl
  rw [this] at hy
  exact List.eq_of_mem_replicate hy
theorem meas {n a w : Nat} (h : a + 1 ≤ n) : (n - (a + 1)) * 257 + (w + 256) < (n - a) * 257 + (w + 1) := by omega
theorem reached_spec (hN : 4294967296 ≤ N) (hs : Sz rows rule entry) (h : Rt rows rule entry) :
    ∃ m acc, F_trim_reached N rows rule entry = some (.inr m) ∧ Mk rows.length m acc ∧ ∀ s, s ∈ acc ↔ Rch rows entry s := by
  have hn2 := h.n2
  have hn1 := h.n1
  have he2 := h.e2
  obtain ⟨m0, e0, q0⟩ := marked_spec (rule := rule) (entry := entry) (list := [0]) hN (show rows.length ≤ 65536 by omega) (by simp) (fun x hx => by simp at hx; subst hx; omega)
  have i0 : insAll [] [(0 : Int)] = [0] := rfl
  rw [i0] at q0
  unfold F_trim_reached F_clone_82
  simp only [e0, bind, Option.bind_some]
  rw [app_eq (by simp; omega)]
  simp only [Option.bind_some, List.nil_append]
  obtain ⟨r, hr, acc, hq1, hq2⟩ := iterO_while (f := fun s => F_trim_reached_l1 N rows s.1 s.2)
    (fun s => ∃ acc, Mk rows.length s.1 acc ∧ (0 : Int) ∈ acc ∧ (∀ x ∈ acc, Rch rows entry x) ∧ (∀ x ∈ s.2, Rch rows entry x) ∧ (∀ x ∈ entry, x ∈ acc ∨ x ∈ s.2) ∧ (∀ x ∈ acc, ∀ y ∈ rows.getD x.toNat [], y ∈ acc ∨ y ∈ s.2) ∧ (rows.length - cnt s.1) * 257 + s.2.length ≤ rows.length * 257 + entry.length)
    (fun s => (rows.length - cnt s.1) * 257 + s.2.length) (fun r => ∃ acc, Mk rows.length r acc ∧ ∀ s, s ∈ acc ↔ Rch rows entry s) (fun s hI => by
      obtain ⟨m, work⟩ := s
      obtain ⟨acc, k1, k2, k3, k4, k5, k6, k7⟩ := hI
      simp only at k1 k4 k5 k6 k7 ⊢
      cases work with
      | nil =>
        right
        refine ⟨m, by unfold F_trim_reached_l1; simp, acc, k1, fun s => ⟨k3 s, fun hr => ?_⟩⟩
        induction hr with
        | zero => exact k2
        | ent hx => exact (k5 _ hx).elim id fun h => by simp at h
        | step _ hy ih => exact (k6 _ ih _ hy).elim id fun h => by simp at h
      | cons x work =>
        left
        have hxr := (k4 x (by simp)).rng h
        obtain ⟨m', e1, q1⟩ := put_mk (N := N) k1 hxr (by omega)
        obtain ⟨row, r1, r2, r3, r4⟩ := row_of h hxr
        have hw := hs.w row r3
        have hlen := k1.ac.len
        have hc := k1.c
        have hc' := q1.c
        have hlen' := q1.ac.len
        have hsl : slc (x :: work) 1 ((x :: work).length : Int) = some work := by
          unfold slc
          rw [if_pos (by simp; omega)]
          simp
        have hix : idx (x :: work) 0 = some x := by simp [idx]
        by_cases hm : x ∈ acc
        · refine ⟨(m', work), ?_, ⟨acc, ?_, k2, k3, fun y hy => k4 y (by simp [hy]), fun y hy => ?_, fun y hy z hz => ?_, ?_⟩, ?_⟩
          · unfold F_trim_reached_l1
            have hpos : decide (((x :: work).length : Int) > 0) = true := decide_eq_true (by simp only [List.length_cons]; omega)
            have hf : decide (x ∉ acc) = false := by simp [hm]
            simp only [hpos, if_true, hix, hsl, e1, hf, bind, Option.bind_some, Bool.false_eq_true, if_false]
          · have : ins acc x = acc := by simp [ins, hm]
            rwa [this] at q1
          · rcases k5 y hy with h1 | h1
            · exact .inl h1
            · rcases List.mem_cons.1 h1 with rfl | h1
              · exact .inl hm
              · exact .inr h1
          · rcases k6 y hy z hz with h1 | h1
            · exact .inl h1
            · rcases List.mem_cons.1 h1 with rfl | h1
              · exact .inl hm
              · exact .inr h1
          · have : ins acc x = acc := by simp [ins, hm]
            rw [this] at hc'
            simp only [hc', List.length_cons, hc] at k7 ⊢
            omega
          · have : ins acc x = acc := by simp [ins, hm]
            rw [this] at hc'
            simp only [hc', List.length_cons, hc]
            omega
        · have hi : ins acc x = acc ++ [x] := by simp [ins, hm]
          have hl1 : (ins acc x).length = acc.length + 1 := by rw [hi]; simp
          refine ⟨(m', work ++ row), ?_, ⟨ins acc x, q1, by rw [hi]; simp [k2], fun y hy => ?_, fun y hy => ?_, fun y hy => ?_, fun y hy z hz => ?_, ?_⟩, ?_⟩
          · unfold F_trim_reached_l1
            have hbnd : work.length + row.length ≤ 4294967296 := by
              simp only [List.length_cons] at k7
              omega
            have hpos : decide (((x :: work).length : Int) > 0) = true := decide_eq_true (by simp only [List.length_cons]; omega)
            simp only [hpos, if_true, hix, hsl, e1, decide_eq_true hm, r1, app_eq hbnd, bind, Option.bind_some]
          · rcases mem_ins.1 hy with h1 | rfl
            · exact k3 y h1
            · exact k4 y (by simp)
          · rcases List.mem_append.1 hy with h1 | h1
            · exact k4 y (by simp [h1])
            · exact (k4 x (by simp)).step (by rw [r2]; exact h1)
          · rcases k5 y hy with h1 | h1
            · exact .inl (mem_ins.2 (.inl h1))
            · rcases List.mem_cons.1 h1 with rfl | h1
              · exact .inl (mem_ins.2 (.inr rfl))
              · exact .inr (by simp [h1])
          · rcases mem_ins.1 hy with h2 | rfl
            · rcases k6 y h2 z hz with h1 | h1
              · exact .inl (mem_ins.2 (.inl h1))
              · rcases List.mem_cons.1 h1 with rfl | h1
                · exact .inl (mem_ins.2 (.inr rfl))
                · exact .inr (by simp [h1])
            · rw [r2] at hz
              exact .inr (by simp [hz])
          · simp only [hc', hl1, List.length_append, List.length_cons, hc, hw] at k7 hlen' ⊢
            exact Nat.le_trans (Nat.le_of_lt (meas hlen')) k7
          · simp only [hc', hl1, List.length_append, List.length_cons, hc, hw] at k7 hlen' ⊢
            exact meas hlen')
    (N := N) (s := (m0, entry)) ⟨[0], q0, by simp, fun x hx => by simp at hx; subst hx; exact .zero, fun x hx => .ent hx, fun x hx => .inr hx, fun x hx y hy => by
      simp at hx; subst hx
      exact .inl (by rw [row0 h hy]; simp), by have := q0.c; simp only [this, List.length_cons, List.length_nil]; omega⟩ (by have := q0.c; simp only [this, List.length_cons, List.length_nil]; omega)
  refine ⟨r, acc, ?_, hq1, hq2⟩
  rw [show iterO N (fun s => F_trim_reached_l1 N rows s.1 s.2) (m0, entry) = _ from hr]
  rfl
/-! ### The document's -/
def bt (l : List Bool) (j : Nat) : Bool := l.getD j false
theorem bt_set {l : List Bool} {i j : Nat} (hi : i < l.length) (v : Bool) : bt (l.set i v) j = if j = i then v else bt l j := by
  unfold bt
  by_cases h : j = i
  · subst h; rw [List.getD, List.getElem?_set_self hi, if_pos rfl]; rfl
  · rw [List.getD, List.getElem?_set_ne (by omega), if_neg h]; rfl
theorem idx_bt {l : List Bool} {i : Nat} (hi : i < l.length) : idx l (i : Int) = some (bt l i) := by
  rw [idx_nat hi]; unfold bt; rw [List.getD, List.getElem?_eq_getElem hi]; rfl
theorem bt_ext {a b : List Bool} (hl : a.length = b.length) (h : ∀ j, j < a.length → bt a j = bt b j) : a = b := by
  refine List.ext_getElem hl fun i h1 h2 => ?_
  have := h i h1
  unfold bt at this
  rw [List.getD, List.getElem?_eq_getElem h1, List.getD, List.getElem?_eq_getElem h2] at this
  exact this
theorem cnt_lt : ∀ {a b : List Bool}, a.length = b.length → (∀ j, bt a j = true → bt b j = true) → a ≠ b → a.countP id < b.countP id
  | [], [], _, _, h => absurd rfl h
  | [], _ :: _, h, _, _ => by simp at h
  | _ :: _, [], h, _, _ => by simp at h
  | x :: a, y :: b, hl, hm, hne => by
    have hl' : a.length = b.length := by simpa using hl
    have hm' : ∀ j, bt a j = true → bt b j = true := fun j hj => hm (j + 1) hj
    have h0 : x = true → y = true := hm 0
    rw [List.countP_cons, List.countP_cons]
    by_cases hab : a = b
    · subst hab
      have hxy : x ≠ y := fun e => hne (by rw [e])
      cases x <;> cases y <;> simp_all
    · have := cnt_lt hl' hm' hab
      cases x <;> cases y <;> simp_all <;> omega
end
end Go.Proofs.YteiaphkejkgfkaaDoor
