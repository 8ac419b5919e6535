/-
  PLAIN LEAN: the states that are live: the code's and the document's.
-/
import Derived.Test.YteiaphkejkgfkaaDoorPlQ
namespace Go.Proofs.YteiaphkejkgfkaaDoor
open Go Go.Eng
section
variable {N : Nat} {rows : List (List Int)} {rule entry : List Int}
/-- from what a rule is come to -/
inductive Lv (rows : List (List Int)) (rule : List Int) : Int → Prop
  | here {s : Int} : 0 ≤ s → s < rows.length → rule.getD s.toNat 0 ≠ -1 → Lv rows rule s
  | step {s y : Int} : 0 ≤ s → s < rows.length → y ∈ rows.getD s.toNat [] → Lv rows rule y → Lv rows rule s
theorem Lv.rng {s : Int} (h : Lv rows rule s) : 0 ≤ s ∧ s < rows.length := by cases h <;> exact ⟨by assumption, by assumption⟩
theorem contains3 {m row : List Int} {n : Nat} (hN : 4294967296 ≤ N) (hm : MkR n m) (hn : n ≤ 65536) (hl : row.length < 4294967296) (hr : ∀ y ∈ row, 0 ≤ y ∧ y < (n : Int)) :
    F_slices_ContainsFunc_int_int_3 N row m (n : Int) = some (row.any fun y => has m y.toNat) := by
  unfold F_slices_ContainsFunc_int_int_3 F_slices_IndexFunc_int_int_3
  rw [loop_find row (fun y => has m y.toNat) (fun i => (i : Int)) (by omega) (fun i x hx => by
    have hi := lt_len hx
    have hxr := hr x (List.mem_of_getElem? hx)
    obtain ⟨v, rfl⟩ : ∃ v : Nat, x = (v : Int) := ⟨x.toNat, by omega⟩
    unfold F_slices_IndexFunc_int_int_3_l0 F_trim_live_1_1
    simp only [show ((i : Int) < (row.length : Int)) by omega, decide_true, if_true, idx_of hx, has_spec (N := N) hm (show v < n by omega) hn, bind, Option.bind_some, Int.toNat_natCast]
    rw [w64_succ (by omega)]) (by unfold F_slices_IndexFunc_int_int_3_l0; simp)]
  cases h : row.findIdx? _ with
  | none =>
    have : row.any (fun y => has m y.toNat) = false := List.any_eq_false.2 fun x hx => by rw [List.findIdx?_eq_none_iff.1 h x hx]; simp
    simp [this]
  | some k =>
    obtain ⟨hk, hp, _⟩ := List.findIdx?_eq_some_iff_getElem.1 h
    have : row.any (fun y => has m y.toNat) = true := List.any_eq_true.2 ⟨_, List.getElem_mem hk, hp⟩
    rw [this]
    simp
/-- one pass over the rows -/
theorem live_pass {m acc : List Int} (hN : 4294967296 ≤ N) (hs : Sz rows rule entry) (h : Rt rows rule entry) (hM : Mk rows.length m acc) (hsd : ∀ x ∈ acc, Lv rows rule x) :
    ∃ m' more acc', iterO N (fun s => F_trim_live_l5 N rows s.1 s.2.1 s.2.2) (m, 0, false) = some (m', more) ∧ Mk rows.length m' acc' ∧ (∀ x ∈ acc', Lv rows rule x) ∧ (∀ x ∈ acc, x ∈ acc') ∧
      (more = false → m' = m ∧ acc' = acc ∧ ∀ i, i < rows.length → (∃ y ∈ rows.getD i [], y ∈ acc) → (i : Int) ∈ acc) ∧ (more = true → acc.length < acc'.length) := by
  have hn2 := h.n2
  obtain ⟨s, h1, acc', g1, g2, g3, g4, g5⟩ := loop_inv (f := fun s => F_trim_live_l5 N rows s.1 s.2.1 s.2.2) (fun i (s : List Int × Bool) => (s.1, (i : Int), s.2)) id rows
    (fun i s => ∃ acc', Mk rows.length s.1 acc' ∧ (∀ x ∈ acc', Lv rows rule x) ∧ (∀ x ∈ acc, x ∈ acc') ∧ (s.2 = false → s.1 = m ∧ acc' = acc ∧ ∀ i', i' < i → (∃ y ∈ rows.getD i' [], y ∈ acc) → (i' : Int) ∈ acc) ∧ (s.2 = true → acc.length < acc'.length)) (N := N) (s := (m, false)) (by omega)
    ⟨acc, hM, hsd, fun _ h => h, fun _ => ⟨rfl, rfl, fun i' hi' => absurd hi' (by omega)⟩, fun h => by cases h⟩
    (fun i r s hr hI => by
      obtain ⟨m1, more⟩ := s
      obtain ⟨acc1, k1, k2, k3, k4, k5⟩ := hI
      simp only at k1 k4 k5 ⊢
      have hi := lt_len hr
      obtain ⟨row, r1, r2, r3, r4⟩ := row_nat h hi
      have hrr : r = row := by
        have := idx_of hr
        rw [r1] at this
        exact (Option.some.inj this).symm
      subst hrr
      have hw := hs.w r r3
      have hlen := k1.ac.len
      have hbody : ∀ (res : List Int × Bool), ((F_marks_Marks_Has_1 N m1 (rows.length : Int) (i : Int) >>= fun x => if (!x) = true then F_slices_ContainsFunc_int_int_3 N r m1 (rows.length : Int) >>= fun x => some x else some false) >>= fun x => if x = true then F_marks_Marks_Put N m1 (rows.length : Int) (i : Int) >>= fun x => some (x.1, x.2) else some (m1, more)) = some res →
          F_trim_live_l5 N rows m1 (i : Int) more = some (.inl (res.1, ((i + 1 : Nat) : Int), res.2)) := by
        intro res hres
        obtain ⟨x, hA, hB⟩ := bnd hres
        unfold F_trim_live_l5
        simp only [bind] at hA hB ⊢
        simp only [show ((i : Int) < (rows.length : Int)) by omega, decide_true, if_true, idx_of hr, Option.bind_some, hA]
        rw [w64_succ (by omega)]
        cases x with
        | true =>
          simp only [if_true] at hB ⊢
          obtain ⟨p, hp, hp2⟩ := Option.bind_eq_some_iff.1 hB
          obtain ⟨a, b⟩ := p
          rw [hp]
          obtain rfl := Option.some.inj hp2
          rfl
        | false =>
          simp only [Bool.false_eq_true, if_false] at hB ⊢
          obtain rfl := Option.some.inj hB
          rfl
      by_cases hmem : (i : Int) ∈ acc1
      · refine ⟨(m1, more), hbody _ ?_, acc1, k1, k2, k3, fun hf => ⟨(k4 hf).1, (k4 hf).2.1, fun i' hi' hy => ?_⟩, k5⟩
        · rw [has_spec k1.rel.mkr hi (by omega), k1.has hi]
          simp [hmem]
        · by_cases hii : i' = i
          · subst hii; rw [← (k4 hf).2.1]; exact hmem
          · exact (k4 hf).2.2 i' (by omega) hy
      · have hany : r.any (fun y => has m1 y.toNat) = true ↔ ∃ y ∈ r, y ∈ acc1 := by
          rw [List.any_eq_true]
          constructor
          · rintro ⟨y, hy, hb⟩
            have hyr := r4 y hy
            rw [k1.has (show y.toNat < rows.length by omega), show ((y.toNat : Nat) : Int) = y by omega] at hb
            exact ⟨y, hy, by simpa using hb⟩
          · rintro ⟨y, hy, hb⟩
            have hyr := r4 y hy
            refine ⟨y, hy, ?_⟩
            rw [k1.has (show y.toNat < rows.length by omega), show ((y.toNat : Nat) : Int) = y by omega]
            simpa using hb
        by_cases ha : r.any (fun y => has m1 y.toNat) = true
        · obtain ⟨y, hy, hya⟩ := hany.1 ha
          obtain ⟨m2, e1, q1⟩ := put_mk (N := N) k1 (x := (i : Int)) (by omega) (by omega)
          have hins : ins acc1 (i : Int) = acc1 ++ [(i : Int)] := by simp [ins, hmem]
          rw [hins] at q1
          refine ⟨(m2, true), hbody _ ?_, acc1 ++ [(i : Int)], q1, fun x hx => ?_, fun x hx => by simp [k3 x hx], fun hf => (by cases hf), fun _ => ?_⟩
          · rw [has_spec k1.rel.mkr hi (by omega), k1.has hi, contains3 hN k1.rel.mkr (by omega) (by omega) r4, ha, e1]
            simp [hmem]
          · rcases List.mem_append.1 hx with hx | hx
            · exact k2 x hx
            · have : x = (i : Int) := by simpa using hx
              subst this
              exact .step (by omega) (by omega) (by rw [Int.toNat_natCast, r2]; exact hy) (k2 y hya)
          · have : acc.length ≤ acc1.length := nodup_len hM.ac.nd k3
            simp; omega
        · have ha' : r.any (fun y => has m1 y.toNat) = false := by simpa using ha
          refine ⟨(m1, more), hbody _ ?_, acc1, k1, k2, k3, fun hf => ⟨(k4 hf).1, (k4 hf).2.1, fun i' hi' hy => ?_⟩, k5⟩
          · rw [has_spec k1.rel.mkr hi (by omega), k1.has hi, contains3 hN k1.rel.mkr (by omega) (by omega) r4, ha']
            simp [hmem]
          · by_cases hii : i' = i
            · subst hii
              rw [r2] at hy
              rw [← (k4 hf).2.1] at hy
              exact absurd (hany.2 hy) ha
            · exact (k4 hf).2.2 i' (by omega) hy)
    (fun s _ => by unfold F_trim_live_l5; simp)
  exact ⟨s.1, s.2, acc', h1, g1, g2, g3, g4, g5⟩
theorem live_spec (hN : 4294967296 ≤ N) (hs : Sz rows rule entry) (h : Rt rows rule entry) :
    ∃ m acc, F_trim_live N rows rule entry = some (.inr m) ∧ Mk rows.length m acc ∧ ∀ s, s ∈ acc ↔ Lv rows rule s := by
  have hn2 := h.n2
  have hru := h.ru
  obtain ⟨m0, e0, q0⟩ := marked_spec (rule := rule) (entry := entry) (list := []) hN (show rows.length ≤ 65536 by omega) (by simp) (fun x hx => by simp at hx)
  have i0 : insAll [] ([] : List Int) = [] := rfl
  rw [i0] at q0
  unfold F_trim_live
  simp only [e0, bind, Option.bind_some]
  obtain ⟨m1, h1, acc1, g1, g2, g3⟩ := loop_inv (f := fun s => F_trim_live_l3 N rows rule s.1 s.2) (fun i (s : List Int) => ((i : Int), s)) id rule
    (fun i s => ∃ acc, Mk rows.length s acc ∧ (∀ x ∈ acc, Lv rows rule x) ∧ ∀ i', i' < i → rule.getD i' 0 ≠ -1 → (i' : Int) ∈ acc) (N := N) (s := m0) (by omega) ⟨[], q0, by simp, fun i' hi' => absurd hi' (by omega)⟩
    (fun i u s hu hI => by
      obtain ⟨acc, k1, k2, k3⟩ := hI
      have hi := lt_len hu
      have hg : rule.getD i 0 = u := getD_of hu
      by_cases hne : u = -1
      · refine ⟨s, ?_, acc, k1, k2, fun i' hi' hy => ?_⟩
        · unfold F_trim_live_l3
          subst hne
          simp only [show ((i : Int) < (rule.length : Int)) by omega, decide_true, if_true, idx_of hu, bind, Option.bind_some, show ((-1 : Int) != -1) = false from rfl, Bool.false_eq_true, if_false]
          rw [w64_succ (by omega)]
        · by_cases hii : i' = i
          · subst hii; exact absurd (hg.trans hne) hy
          · exact k3 i' (by omega) hy
      · obtain ⟨m', e1, q1⟩ := put_mk (N := N) k1 (x := (i : Int)) (by omega) (by omega)
        refine ⟨m', ?_, ins acc (i : Int), q1, fun x hx => ?_, fun i' hi' hy => ?_⟩
        · unfold F_trim_live_l3
          have hb : (u != -1) = true := by simp [hne]
          simp only [show ((i : Int) < (rule.length : Int)) by omega, decide_true, if_true, idx_of hu, bind, Option.bind_some, hb, e1]
          rw [w64_succ (by omega)]
        · rcases mem_ins.1 hx with hx | rfl
          · exact k2 x hx
          · exact .here (by omega) (by omega) (by rw [Int.toNat_natCast, hg]; exact hne)
        · by_cases hii : i' = i
          · subst hii; exact mem_ins.2 (.inr rfl)
          · exact mem_ins.2 (.inl (k3 i' (by omega) hy)))
    (fun s _ => by unfold F_trim_live_l3; simp)
  rw [show iterO N (fun s => F_trim_live_l3 N rows rule s.1 s.2) (0, m0) = _ from h1]
  simp only [Option.bind_some, id]
  obtain ⟨r, hr, acc, hq1, hq2⟩ := iterO_while (f := fun s => F_trim_live_l4 N rows s.1 s.2)
    (fun s => ∃ acc, Mk rows.length s.1 acc ∧ (∀ x ∈ acc, Lv rows rule x) ∧ (∀ i', i' < rule.length → rule.getD i' 0 ≠ -1 → (i' : Int) ∈ acc) ∧ (s.2 = false → ∀ i, i < rows.length → (∃ y ∈ rows.getD i [], y ∈ acc) → (i : Int) ∈ acc))
    (fun s => if s.2 = true then 1 + (rows.length - cnt s.1) else 0) (fun r => ∃ acc, Mk rows.length r acc ∧ ∀ s, s ∈ acc ↔ Lv rows rule s) (fun s hI => by
      obtain ⟨m, more⟩ := s
      obtain ⟨acc, k1, k2, k3, k4⟩ := hI
      simp only at k1 k4 ⊢
      cases more with
      | false =>
        right
        refine ⟨m, by unfold F_trim_live_l4; simp, acc, k1, fun s => ⟨k2 s, fun hl => ?_⟩⟩
        induction hl with
        | here a0 a1 a2 =>
          have := k3 _ (by omega) a2
          rwa [show (((_ : Int).toNat : Nat) : Int) = _ from Int.toNat_of_nonneg a0] at this
        | step a0 a1 a2 _ ih =>
          have := k4 rfl _ (by omega) ⟨_, a2, ih⟩
          rwa [show (((_ : Int).toNat : Nat) : Int) = _ from Int.toNat_of_nonneg a0] at this
      | true =>
        left
        obtain ⟨m', more', acc', e1, q1, q2, q3, q4, q5⟩ := live_pass (N := N) hN hs h k1 k2
        refine ⟨(m', more'), ?_, ⟨acc', q1, q2, fun i' hi' hy => q3 _ (k3 i' hi' hy), fun hf => ?_⟩, ?_⟩
        · unfold F_trim_live_l4
          simp only [if_true, bind]
          rw [e1]
          rfl
        · obtain ⟨_, rfl, hcl⟩ := q4 hf
          exact hcl
        · have hl := q1.ac.len
          have hc := q1.c
          have hc0 := k1.c
          cases more' with
          | false => simp only [Bool.false_eq_true, if_false, if_true]; omega
          | true =>
            have := q5 rfl
            simp only [if_true]
            omega)
    (N := N) (s := (m1, true)) ⟨acc1, g1, g2, g3, fun h => by cases h⟩ (by simp only [if_true]; omega)
  refine ⟨r, acc, ?_, hq1, hq2⟩
  rw [show iterO N (fun s => F_trim_live_l4 N rows s.1 s.2) (m1, true) = _ from hr]
  rfl
/-! ### The document's -/
def bwd (rows : List (List Int)) (rule : List Int) (l : List Bool) : Prop := ∀ i, i < rows.length → (rule.getD i 0 ≥ 0 → bt l i = true) ∧ ∀ y ∈ rows.getD i [], bt l y.toNat = true → bt l i = true
theorem refLive_row {i : Nat} {l : List Bool} {row : List Int} (hN : 4294967296 ≤ N) (hw : row.length = 256) (hl : l.length = rows.length) (hi : i < rows.length) (hr : ∀ y ∈ row, 0 ≤ y ∧ y < rows.length) :
    ∃ l', iterO N (fun s => F_dofferref18_Live_l2 N (i : Int) row s.1 s.2) (l, 0) = some l' ∧ l'.length = rows.length ∧ ∀ j, bt l' j = if j = i then (bt l i || row.any fun y => bt l y.toNat) else bt l j := by
  obtain ⟨s, h1, h2, h3⟩ := loop_inv (f := fun s => F_dofferref18_Live_l2 N (i : Int) row s.1 s.2) (fun c (s : List Bool) => (s, (c : Int))) id row (fun c s => s.length = rows.length ∧ ∀ j, bt s j = if j = i then (bt l i || (row.take c).any fun y => bt l y.toNat) else bt l j) (N := N) (s := l) (by omega)
    ⟨hl, fun j => by by_cases h : j = i <;> simp [h]⟩
    (fun c x s hx hI => by
      obtain ⟨k1, k2⟩ := hI
      have hc := lt_len hx
      have hxr := hr x (List.mem_of_getElem? hx)
      obtain ⟨v, rfl⟩ : ∃ v : Nat, x = (v : Int) := ⟨x.toNat, by omega⟩
      have hvl : v < s.length := by omega
      have hil : i < s.length := by omega
      have hsi : bt s i = (bt l i || (row.take c).any fun y => bt l y.toNat) := by rw [k2 i, if_pos rfl]
      have htk : (row.take (c + 1)).any (fun y => bt l y.toNat) = ((row.take c).any (fun y => bt l y.toNat) || bt l v) := by
        rw [List.take_add_one, hx, List.any_append]; simp
      by_cases hb : bt s i = true
      · refine ⟨s.set i true, ?_, by simpa using k1, fun j => ?_⟩
        · unfold F_dofferref18_Live_l2
          simp only [show ((c : Int) < 256) by omega, decide_true, if_true, idx_of hx, idx_bt hil, hb, setI_bt hil, bind, Option.bind_some]
          rw [w64_succ (by omega)]
        · rw [bt_set hil, htk]
          by_cases h1 : j = i
          · rw [if_pos h1, if_pos h1]
            rw [hsi] at hb
            cases hli : bt l i <;> simp_all
          · rw [if_neg h1, if_neg h1, k2 j, if_neg h1]
      · have hb : bt s i = false := by simpa using hb
        refine ⟨s.set i (bt s v), ?_, by simpa using k1, fun j => ?_⟩
        · unfold F_dofferref18_Live_l2
          simp only [show ((c : Int) < 256) by omega, decide_true, if_true, idx_of hx, idx_bt hil, hb, idx_bt hvl, setI_bt hil, bind, Option.bind_some, Bool.false_eq_true, if_false]
          rw [w64_succ (by omega)]
        · rw [bt_set hil, htk]
          by_cases h1 : j = i
          · rw [if_pos h1, if_pos h1]
            rw [hsi] at hb
            have hli : bt l i = false := by cases hli : bt l i <;> simp_all
            have hany : (row.take c).any (fun y => bt l y.toNat) = false := by rw [hli] at hb; simpa using hb
            rw [hli, hany, k2 v]
            by_cases hvi : v = i
            · rw [if_pos hvi, hli, hany, hvi, hli]; rfl
            · rw [if_neg hvi]; simp
          · rw [if_neg h1, if_neg h1, k2 j, if_neg h1])
    (fun s _ => by unfold F_dofferref18_Live_l2; simp [hw])
  rw [List.take_length] at h3
  exact ⟨s, h1, h2, h3⟩
theorem refLive_round {l : List Bool} (hN : 4294967296 ≤ N) (hs : Sz rows rule entry) (h : Rt rows rule entry) (hl : l.length = rows.length) :
    ∃ l', iterO N (fun s => F_dofferref18_Live_l1 N rows rule s.1 s.2) (0, l) = some l' ∧ l'.length = rows.length ∧ Mono l l' ∧ (Sound (Lv rows rule) rows.length l → Sound (Lv rows rule) rows.length l') ∧ (bwd rows rule l → l' = l) ∧ (l' = l → bwd rows rule l) := by
  have hn2 := h.n2
  have hru := h.ru
  obtain ⟨s, h1, h2, h3, h4, h5, h6⟩ := loop_inv (f := fun s => F_dofferref18_Live_l1 N rows rule s.1 s.2) (fun i (s : List Bool) => ((i : Int), s)) id rows
    (fun i s => s.length = rows.length ∧ Mono l s ∧ (Sound (Lv rows rule) rows.length l → Sound (Lv rows rule) rows.length s) ∧ (bwd rows rule l → s = l) ∧ (s = l → ∀ i', i' < i → (rule.getD i' 0 ≥ 0 → bt l i' = true) ∧ ∀ y ∈ rows.getD i' [], bt l y.toNat = true → bt l i' = true)) (N := N) (s := l) (by omega)
    ⟨hl, Mono.refl l, id, fun _ => rfl, fun _ i' hi' => absurd hi' (by omega)⟩
    (fun i r s hr hI => by
      obtain ⟨k1, k2, k3, k4, k5⟩ := hI
      have hi := lt_len hr
      obtain ⟨row, r1, r2, r3, r4⟩ := row_nat h hi
      have hrr : r = row := by
        have := idx_of hr
        rw [r1] at this
        exact (Option.some.inj this).symm
      subst hrr
      have hil : i < s.length := by omega
      have hui : i < rule.length := by omega
      have hg : rule.getD i 0 = rule[i] := getD_of (List.getElem?_eq_getElem hui)
      -- the state's own rule
      obtain ⟨s1, p1, p2, p3⟩ : ∃ s1, ((idx s (i : Int)) >>= fun x => if x = true then (idx s (i : Int) >>= fun _ => setI s (i : Int) true >>= fun x => some x) else (idx rule (i : Int) >>= fun u => idx s (i : Int) >>= fun _ => setI s (i : Int) (decide (u ≥ 0)) >>= fun x => some x)) = some s1 ∧ s1.length = rows.length ∧ ∀ j, bt s1 j = if j = i then (bt s i || decide (rule.getD i 0 ≥ 0)) else bt s j := by
        by_cases hb : bt s i = true
        · refine ⟨s.set i true, ?_, by simpa using k1, fun j => ?_⟩
          · simp only [idx_bt hil, hb, if_true, setI_bt hil, bind, Option.bind_some]
          · rw [bt_set hil]
            by_cases h1 : j = i <;> simp [h1, hb]
        · have hb : bt s i = false := by simpa using hb
          refine ⟨s.set i (decide (rule[i] ≥ 0)), ?_, by simpa using k1, fun j => ?_⟩
          · simp only [idx_bt hil, hb, Bool.false_eq_true, if_false, idx_nat hui, setI_bt hil, bind, Option.bind_some]
          · rw [bt_set hil, hg]
            by_cases h1 : j = i <;> simp [h1, hb]
      obtain ⟨s', q1, q2, q3⟩ := refLive_row (N := N) (rows := rows) hN (hs.w r r3) p2 hi r4
      have e1 : ∀ j, bt s' j = if j = i then ((bt s i || decide (rule.getD i 0 ≥ 0)) || r.any fun y => bt s1 y.toNat) else bt s j := fun j => by
        rw [q3 j, p3 j, p3 i, if_pos rfl]
        by_cases h1 : j = i
        · rw [if_pos h1, if_pos h1]
        · rw [if_neg h1, if_neg h1, if_neg h1]
      have hm : Mono s s' := fun j hj => by
        rw [e1 j]
        by_cases h1 : j = i
        · subst h1; rw [if_pos rfl, hj]; rfl
        · rw [if_neg h1]; exact hj
      refine ⟨s', ?_, q2, k2.trans hm, fun hsd j hj hb => ?_, fun hf => ?_, fun he i' hi' => ?_⟩
      · unfold F_dofferref18_Live_l1
        simp only [show ((i : Int) < (rows.length : Int)) by omega, decide_true, if_true, idx_of hr, bind, Option.bind_some]
        simp only [bind] at p1
        rw [p1]
        simp only [Option.bind_some]
        rw [q1]
        simp only [Option.bind_some]
        rw [w64_succ (by omega)]
      · have hsd' := k3 hsd
        rw [e1 j] at hb
        by_cases h1 : j = i
        · subst h1
          rw [if_pos rfl] at hb
          rcases Bool.or_eq_true_iff.1 hb with hb | hb
          · rcases Bool.or_eq_true_iff.1 hb with hb | hb
            · exact hsd' j hj hb
            · have : rule.getD j 0 ≥ 0 := by simpa using hb
              exact .here (by omega) (by omega) (by rw [Int.toNat_natCast]; omega)
          · obtain ⟨y, hy, hyb⟩ := List.any_eq_true.1 hb
            have hyr := r4 y hy
            rw [p3] at hyb
            by_cases h2 : y.toNat = j
            · rw [if_pos h2] at hyb
              rcases Bool.or_eq_true_iff.1 hyb with hb | hb
              · exact hsd' j hj hb
              · have : rule.getD j 0 ≥ 0 := by simpa using hb
                exact .here (by omega) (by omega) (by rw [Int.toNat_natCast]; omega)
            · rw [if_neg h2] at hyb
              have := hsd' y.toNat (by omega) hyb
              rw [Int.toNat_of_nonneg hyr.1] at this
              exact .step (by omega) (by omega) (by rw [Int.toNat_natCast, r2]; exact hy) this
        · rw [if_neg h1] at hb; exact hsd' j hj hb
      · have hsl := k4 hf
        subst hsl
        refine bt_ext (by omega) fun j hj => ?_
        rw [e1 j]
        by_cases h1 : j = i
        · subst h1
          rw [if_pos rfl]
          obtain ⟨f1, f2⟩ := hf j hi
          cases hb : bt s j with
          | true => simp
          | false =>
            have a1 : decide (rule.getD j 0 ≥ 0) = false := by
              apply decide_eq_false
              intro hge
              rw [f1 hge] at hb; cases hb
            have a2 : (r.any fun y => bt s1 y.toNat) = false := by
              rw [List.any_eq_false]
              intro y hy hyb
              rw [p3] at hyb
              by_cases h2 : y.toNat = j
              · rw [if_pos h2, hb, a1] at hyb; cases hyb
              · rw [if_neg h2] at hyb
                have := f2 y (by rw [r2]; exact hy) hyb
                rw [hb] at this; cases this
            rw [a1, a2]; rfl
        · rw [if_neg h1]
      · subst he
        have hse : s = s' := Mono.anti (by omega) hm k2
        by_cases hii : i' = i
        · subst hii
          have e2 := e1 i'
          rw [if_pos rfl] at e2
          refine ⟨fun hge => ?_, fun y hy hyb => ?_⟩
          · rw [e2, decide_eq_true hge]; simp
          · rw [r2] at hy
            rw [e2]
            have : (r.any fun y => bt s1 y.toNat) = true := List.any_eq_true.2 ⟨y, hy, by
              rw [p3]
              by_cases h2 : y.toNat = i'
              · rw [if_pos h2]; rw [hse]; rw [h2] at hyb; rw [hyb]; rfl
              · rw [if_neg h2, hse]; exact hyb⟩
            rw [this]; simp
        · exact k5 hse i' (by omega))
    (fun s _ => by unfold F_dofferref18_Live_l1; simp)
  exact ⟨s, h1, h2, h3, h4, h5, fun he i hi => h6 he i hi⟩
theorem refLive_spec (hN : 4294967296 ≤ N) (hs : Sz rows rule entry) (h : Rt rows rule entry) :
    ∃ l, F_dofferref18_Live N rows rule entry = some l ∧ l.length = rows.length ∧ ∀ j, j < rows.length → (bt l j = true ↔ Lv rows rule (j : Int)) := by
  have hn2 := h.n2
  have hru := h.ru
  have z0 : ∀ j, bt (List.replicate rows.length false) j = false := fun j => by
    unfold bt
    rw [List.getD, List.getElem?_replicate]
    split <;> rfl
  unfold F_dofferref18_Live
  rw [mk_eq (by omega)]
  simp only [bind, Option.bind_some]
  have sd0 : Sound (Lv rows rule) rows.length (List.replicate rows.length false) := fun j _ hb => by rw [z0] at hb; cases hb
  have e1 : w64 ((rows.length : Int) + 1) = ((rows.length + 1 : Nat) : Int) := w64_succ (by omega)
  obtain ⟨l2, h2, f1, f3, f4⟩ := loop_inv (f := fun s => F_dofferref18_Live_l0 N rows rule s.1 s.2) (fun i (s : List Bool) => ((i : Int), s)) id (List.range (rows.length + 1))
    (fun i s => s.length = rows.length ∧ Sound (Lv rows rule) rows.length s ∧ (bwd rows rule s ∨ i ≤ s.countP id)) (N := N) (s := List.replicate rows.length false) (by simp; omega)
    ⟨by simp, sd0, .inr (by omega)⟩
    (fun i x s hx hI => by
      obtain ⟨k1, k3, k4⟩ := hI
      obtain ⟨hi, rfl⟩ := range_get hx
      obtain ⟨s', q1, q2, q3, q4, q5, q6⟩ := refLive_round (N := N) hN hs h k1
      refine ⟨s', ?_, q2, q4 k3, ?_⟩
      · unfold F_dofferref18_Live_l0
        simp only [e1, show ((x : Int) < ((rows.length + 1 : Nat) : Int)) by omega, decide_true, if_true, bind]
        rw [q1]
        simp only [Option.bind_some]
        rw [w64_succ (by omega)]
      · rcases Classical.em (bwd rows rule s) with hf | hf
        · rw [q5 hf]; exact .inl hf
        · right
          have hne : s ≠ s' := fun e => hf (q6 e.symm)
          have := cnt_lt (by omega) q3 hne
          rcases k4 with k4 | k4
          · exact absurd k4 hf
          · omega)
    (fun s _ => by unfold F_dofferref18_Live_l0; simp [e1])
  refine ⟨l2, ?_, f1, fun j hj => ⟨f3 j hj, fun hr => ?_⟩⟩
  · rw [show iterO N (fun s => F_dofferref18_Live_l0 N rows rule s.1 s.2) (0, List.replicate rows.length false) = _ from h2]
    rfl
  · have hf : bwd rows rule l2 := by
      rcases f4 with hf | hf
      · exact hf
      · have := cntB_le l2
        simp at hf
        omega
    have key : ∀ s, Lv rows rule s → bt l2 s.toNat = true := by
      intro s hl
      induction hl with
      | @here s a0 a1 a2 =>
        have hlt : s.toNat < rule.length := by omega
        refine (hf _ (by omega)).1 ?_
        have := h.rul _ (List.getElem_mem hlt)
        rw [getD_of (List.getElem?_eq_getElem hlt)] at a2 ⊢
        omega
      | step a0 a1 a2 _ ih => exact (hf _ (by omega)).2 _ a2 ih
    have := key _ hr
    simpa using this
end
end Go.Proofs.YteiaphkejkgfkaaDoor
