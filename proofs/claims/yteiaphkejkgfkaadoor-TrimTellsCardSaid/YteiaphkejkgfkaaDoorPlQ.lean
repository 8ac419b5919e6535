/-
  PLAIN LEAN: the states that are reached, in the document.
-/
import Derived.Test.YteiaphkejkgfkaaDoorPlP
namespace Go.Proofs.YteiaphkejkgfkaaDoor
open Go Go.Eng
section
variable {N : Nat} {rows : List (List Int)} {rule entry : List Int}
/-- what a row of truths says holds of the states -/
def Sound (P : Int → Prop) (n : Nat) (l : List Bool) : Prop := ∀ j, j < n → bt l j = true → P (j : Int)
def Mono (a b : List Bool) : Prop := ∀ j, bt a j = true → bt b j = true
theorem Mono.refl (a : List Bool) : Mono a a := fun _ h => h
theorem Mono.trans {a b c : List Bool} (h : Mono a b) (h' : Mono b c) : Mono a c := fun j hj => h' j (h j hj)
theorem Mono.anti {a b : List Bool} (hl : a.length = b.length) (h : Mono a b) (h' : Mono b a) : a = b := bt_ext hl fun j _ => by
  cases ha : bt a j with
  | true => exact (h j ha).symm
  | false =>
    cases hb : bt b j with
    | false => rfl
    | true => rw [h' j hb] at ha; cases ha
theorem setI_bt {l : List Bool} {i : Nat} (hi : i < l.length) (v : Bool) : setI l (i : Int) v = some (l.set i v) := setI_nat hi
def fwd (rows : List (List Int)) (l : List Bool) : Prop := ∀ i, i < rows.length → bt l i = true → ∀ y ∈ rows.getD i [], bt l y.toNat = true
theorem row_nat (h : Rt rows rule entry) {i : Nat} (hi : i < rows.length) : ∃ r, idx rows (i : Int) = some r ∧ rows.getD i [] = r ∧ r ∈ rows ∧ ∀ y ∈ r, 0 ≤ y ∧ y < rows.length := by
  obtain ⟨r, h1, h2, h3, h4⟩ := row_of h (x := (i : Int)) (by omega)
  exact ⟨r, h1, by simpa using h2, h3, h4⟩
/-- one row -/
theorem refReached_row {i : Nat} {l : List Bool} {row : List Int} (hN : 4294967296 ≤ N) (hw : row.length = 256) (hl : l.length = rows.length) (hi : i < rows.length) (hr : ∀ y ∈ row, 0 ≤ y ∧ y < rows.length) :
    ∃ l', iterO N (fun s => F_dofferref18_Reached_l3 N (i : Int) row s.1 s.2) (l, 0) = some l' ∧ l'.length = rows.length ∧ ∀ j, bt l' j = (bt l j || (bt l i && decide ((j : Int) ∈ row))) := by
  obtain ⟨s, h1, h2, h3⟩ := loop_inv (f := fun s => F_dofferref18_Reached_l3 N (i : Int) row s.1 s.2) (fun c (s : List Bool) => (s, (c : Int))) id row (fun c s => s.length = rows.length ∧ ∀ j, bt s j = (bt l j || (bt l i && decide ((j : Int) ∈ row.take c)))) (N := N) (s := l) (by omega)
    ⟨hl, fun j => by simp⟩
    (fun c x s hx hI => by
      obtain ⟨k1, k2⟩ := hI
      have hc := lt_len hx
      have hxr := hr x (List.mem_of_getElem? hx)
      obtain ⟨v, rfl⟩ : ∃ v : Nat, x = (v : Int) := ⟨x.toNat, by omega⟩
      have hvl : v < s.length := by omega
      have hil : i < s.length := by omega
      have hsi : bt s i = bt l i := by rw [k2 i]; cases bt l i <;> simp
      have htk : ∀ j : Nat, decide ((j : Int) ∈ row.take (c + 1)) = (decide ((j : Int) ∈ row.take c) || decide (j = v)) := fun j => by
        rw [List.take_add_one, hx]
        have e : ((j : Int) = (v : Int)) ↔ j = v := by omega
        by_cases h1 : (j : Int) ∈ row.take c <;> by_cases h2 : j = v <;> simp [h1, h2, e]
      by_cases hb : bt l i = true
      · refine ⟨s.set v true, ?_, by simpa using k1, fun j => ?_⟩
        · unfold F_dofferref18_Reached_l3
          simp only [show ((c : Int) < 256) by omega, decide_true, if_true, idx_of hx, idx_bt hil, hsi, hb, idx_bt hvl, setI_bt hvl, bind, Option.bind_some]
          rw [w64_succ (by omega)]
        · rw [bt_set hvl, htk, k2 j, hb]
          by_cases h1 : j = v <;> simp [h1]
      · have hb : bt l i = false := by simpa using hb
        refine ⟨s, ?_, k1, fun j => by rw [k2 j, hb]; simp⟩
        unfold F_dofferref18_Reached_l3
        simp only [show ((c : Int) < 256) by omega, decide_true, if_true, idx_of hx, idx_bt hil, hsi, hb, bind, Option.bind_some, Bool.false_eq_true, if_false]
        rw [w64_succ (by omega)])
    (fun s _ => by unfold F_dofferref18_Reached_l3; simp [hw])
  rw [List.take_length] at h3
  exact ⟨s, h1, h2, h3⟩
/-- one round -/
theorem refReached_round {l : List Bool} (hN : 4294967296 ≤ N) (hs : Sz rows rule entry) (h : Rt rows rule entry) (hl : l.length = rows.length) :
    ∃ l', iterO N (fun s => F_dofferref18_Reached_l2 N rows s.1 s.2) (l, 0) = some l' ∧ l'.length = rows.length ∧ Mono l l' ∧ (Sound (Rch rows entry) rows.length l → Sound (Rch rows entry) rows.length l') ∧ (fwd rows l → l' = l) ∧ (l' = l → fwd rows l) := by
  have hn2 := h.n2
  obtain ⟨s, h1, h2, h3, h4, h5, h6⟩ := loop_inv (f := fun s => F_dofferref18_Reached_l2 N rows s.1 s.2) (fun i (s : List Bool) => (s, (i : Int))) id rows
    (fun i s => s.length = rows.length ∧ Mono l s ∧ (Sound (Rch rows entry) rows.length l → Sound (Rch rows entry) rows.length s) ∧ (fwd rows l → s = l) ∧ (s = l → ∀ i', i' < i → bt l i' = true → ∀ y ∈ rows.getD i' [], bt l y.toNat = true)) (N := N) (s := l) (by omega)
    ⟨hl, Mono.refl l, id, fun _ => rfl, fun _ i' hi' => absurd hi' (by omega)⟩
    (fun i r s hr hI => by
      obtain ⟨k1, k2, k3, k4, k5⟩ := hI
      have hi := lt_len hr
      obtain ⟨row, r1, r2, r3, r4⟩ := row_nat h hi
      have hrr : r = row := by
        have := idx_of hr
        rw [r1] at this
        exact (Option.some.inj this).symm
      subst hrr
      obtain ⟨s', q1, q2, q3⟩ := refReached_row (N := N) (rows := rows) hN (hs.w r r3) k1 hi r4
      have hm : Mono s s' := fun j hj => by rw [q3 j, hj]; rfl
      refine ⟨s', ?_, q2, k2.trans hm, fun hsd j hj hb => ?_, fun hf => ?_, fun he i' hi' hb y hy => ?_⟩
      · unfold F_dofferref18_Reached_l2
        simp only [show ((i : Int) < (rows.length : Int)) by omega, decide_true, if_true, idx_of hr, bind, Option.bind_some]
        rw [q1]
        simp only [Option.bind_some]
        rw [w64_succ (by omega)]
      · rw [q3 j] at hb
        rcases Bool.or_eq_true_iff.1 hb with hb | hb
        · exact k3 hsd j hj hb
        · obtain ⟨hb1, hb2⟩ := (Bool.and_eq_true _ _).mp hb
          exact (k3 hsd i hi hb1).step (by rw [Int.toNat_natCast, r2]; simpa using hb2)
      · have hsl := k4 hf
        subst hsl
        refine bt_ext (by omega) fun j hj => ?_
        rw [q3 j]
        cases hbi : bt s i with
        | false => simp
        | true =>
          by_cases hjr : (j : Int) ∈ r
          · have := hf i hi hbi (j : Int) (by rw [r2]; exact hjr)
            rw [Int.toNat_natCast] at this
            simp [this]
          · simp [hjr]
      · subst he
        have hse : s = s' := Mono.anti (by omega) hm k2
        by_cases hii : i' = i
        · subst hii
          rw [r2] at hy
          have hyr := r4 y hy
          obtain ⟨v, rfl⟩ : ∃ v : Nat, y = (v : Int) := ⟨y.toNat, by omega⟩
          rw [Int.toNat_natCast, q3 v, hse, hb]
          simp [hy]
        · exact k5 hse i' (by omega) hb y hy)
    (fun s _ => by unfold F_dofferref18_Reached_l2; simp)
  exact ⟨s, h1, h2, h3, h4, h5, fun he i hi hb y hy => h6 he i hi hb y hy⟩
theorem cntB_le (l : List Bool) : l.countP id ≤ l.length := List.countP_le_length
theorem refReached_spec (hN : 4294967296 ≤ N) (hs : Sz rows rule entry) (h : Rt rows rule entry) :
    ∃ l, F_dofferref18_Reached N rows rule entry = some l ∧ l.length = rows.length ∧ ∀ j, j < rows.length → (bt l j = true ↔ Rch rows entry (j : Int)) := by
  have hn2 := h.n2
  have hn1 := h.n1
  have he2 := h.e2
  have hl0 : 0 < (List.replicate rows.length false).length := by simp; omega
  have z0 : ∀ j, bt (List.replicate rows.length false) j = false := fun j => by
    unfold bt
    rw [List.getD, List.getElem?_replicate]
    split <;> rfl
  have sd0 : Sound (Rch rows entry) rows.length ((List.replicate rows.length false).set 0 true) := fun j hj hb => by
    rw [bt_set hl0, z0] at hb
    by_cases hj0 : j = 0
    · subst hj0; exact .zero
    · rw [if_neg hj0] at hb; cases hb
  unfold F_dofferref18_Reached
  rw [mk_eq (by omega)]
  have i0 := idx_bt (l := List.replicate rows.length false) (i := 0) hl0
  have s0 := setI_bt (l := List.replicate rows.length false) (i := 0) hl0 true
  rw [show ((0 : Nat) : Int) = 0 from rfl] at i0 s0
  simp only [bind, Option.bind_some, i0, s0]
  obtain ⟨l1, h1, g1, g2, g3, g4⟩ := loop_inv (f := fun s => F_dofferref18_Reached_l0 N entry s.1 s.2) (fun i (s : List Bool) => ((i : Int), s)) id entry
    (fun i s => s.length = rows.length ∧ bt s 0 = true ∧ Sound (Rch rows entry) rows.length s ∧ ∀ x ∈ entry.take i, bt s x.toNat = true) (N := N) (s := (List.replicate rows.length false).set 0 true) (by omega)
    ⟨by simp, by rw [bt_set hl0]; simp, sd0, by simp⟩
    (fun i x s hx hI => by
      obtain ⟨k1, k2, k3, k4⟩ := hI
      have hi := lt_len hx
      have hxm := List.mem_of_getElem? hx
      have hxr := h.ent x hxm
      obtain ⟨v, rfl⟩ : ∃ v : Nat, x = (v : Int) := ⟨x.toNat, by omega⟩
      have hvl : v < s.length := by omega
      refine ⟨s.set v true, ?_, by simpa using k1, by rw [bt_set hvl, k2]; simp, fun j hj hb => ?_, fun y hy => ?_⟩
      · unfold F_dofferref18_Reached_l0
        simp only [show ((i : Int) < (entry.length : Int)) by omega, decide_true, if_true, idx_of hx, idx_bt hvl, setI_bt hvl, bind, Option.bind_some]
        rw [w64_succ (by omega)]
      · rw [bt_set hvl] at hb
        by_cases hjv : j = v
        · subst hjv; exact .ent hxm
        · rw [if_neg hjv] at hb; exact k3 j hj hb
      · rw [bt_set hvl]
        rw [List.take_add_one, hx] at hy
        rcases List.mem_append.1 hy with hy | hy
        · rw [k4 y hy]; simp
        · have : y = (v : Int) := by simpa using hy
          subst this
          simp)
    (fun s _ => by unfold F_dofferref18_Reached_l0; simp)
  rw [List.take_length] at g4
  rw [show iterO N (fun s => F_dofferref18_Reached_l0 N entry s.1 s.2) (0, (List.replicate rows.length false).set 0 true) = _ from h1]
  simp only [Option.bind_some, id]
  obtain ⟨l2, h2, f1, f2, f3, f4⟩ := loop_inv (f := fun s => F_dofferref18_Reached_l1 N rows s.1 s.2) (fun i (s : List Bool) => (s, (i : Int))) id rows
    (fun i s => s.length = rows.length ∧ Mono l1 s ∧ Sound (Rch rows entry) rows.length s ∧ (fwd rows s ∨ i + 1 ≤ s.countP id)) (N := N) (s := l1) (by omega)
    ⟨g1, Mono.refl l1, g3, .inr (by
      have hp : 0 < l1.countP id := by
        rw [List.countP_pos_iff]
        have hlt : 0 < l1.length := by omega
        refine ⟨l1[0], List.getElem_mem hlt, ?_⟩
        unfold bt at g2
        rw [List.getD, List.getElem?_eq_getElem hlt] at g2
        exact g2
      omega)⟩
    (fun i r s hr hI => by
      obtain ⟨k1, k2, k3, k4⟩ := hI
      have hi := lt_len hr
      obtain ⟨s', q1, q2, q3, q4, q5, q6⟩ := refReached_round (N := N) hN hs h k1
      refine ⟨s', ?_, q2, k2.trans q3, q4 k3, ?_⟩
      · unfold F_dofferref18_Reached_l1
        simp only [show ((i : Int) < (rows.length : Int)) by omega, decide_true, if_true, bind]
        rw [q1]
        simp only [Option.bind_some]
        rw [w64_succ (by omega)]
      · rcases Classical.em (fwd rows s) with hf | hf
        · rw [q5 hf]; exact .inl hf
        · right
          have hne : s ≠ s' := fun e => hf (q6 e.symm)
          have := cnt_lt (by omega) q3 hne
          rcases k4 with k4 | k4
          · exact absurd k4 hf
          · omega)
    (fun s _ => by unfold F_dofferref18_Reached_l1; simp)
  refine ⟨l2, ?_, f1, fun j hj => ⟨f3 j hj, fun hr => ?_⟩⟩
  · rw [show iterO N (fun s => F_dofferref18_Reached_l1 N rows s.1 s.2) (l1, 0) = _ from h2]
    rfl
  · have hf : fwd rows l2 := by
      rcases f4 with hf | hf
      · exact hf
      · have := cntB_le l2
        omega
    have key : ∀ s, Rch rows entry s → bt l2 s.toNat = true := by
      intro s hr
      induction hr with
      | zero => exact f2 0 g2
      | ent hx => exact f2 _ (g4 _ hx)
      | step hr' hy ih =>
        have := hr'.rng h
        exact hf _ (by omega) ih _ hy
    have := key _ hr
    simpa using this
theorem refList_spec {l : List Bool} (hN : 4294967296 ≤ N) (hl : l.length < 4294967296) : F_dofferref18_List N l = some (lst (bt l) l.length) := by
  unfold F_dofferref18_List
  obtain ⟨s, h1, h2⟩ := loop_inv (f := fun s => F_dofferref18_List_l0 N l s.1 s.2) (fun i (s : List Int) => (s, (i : Int))) id l (fun i s => s = lst (bt l) i) (N := N) (s := []) (by omega) rfl
    (fun i x s hx hI => by
      subst hI
      have hi := lt_len hx
      have hb : bt l i = x := by unfold bt; rw [List.getD, hx]; rfl
      have hlen := lst_len (bt l) i
      refine ⟨lst (bt l) (i + 1), ?_, rfl⟩
      rw [lst_succ, hb]
      unfold F_dofferref18_List_l0
      cases x with
      | true =>
        simp only [show ((i : Int) < (l.length : Int)) by omega, decide_true, if_true, idx_of hx, bind, Option.bind_some]
        rw [app_eq (by simp; omega)]
        simp only [Option.bind_some]
        rw [w64_succ (by omega)]
      | false =>
        simp only [show ((i : Int) < (l.length : Int)) by omega, decide_true, if_true, idx_of hx, bind, Option.bind_some, Bool.false_eq_true, if_false]
        rw [w64_succ (by omega)])
    (fun s _ => by unfold F_dofferref18_List_l0; simp)
  rw [show iterO N (fun s => F_dofferref18_List_l0 N l s.1 s.2) ([], 0) = _ from h1, h2]
  rfl
end
end Go.Proofs.YteiaphkejkgfkaaDoor
