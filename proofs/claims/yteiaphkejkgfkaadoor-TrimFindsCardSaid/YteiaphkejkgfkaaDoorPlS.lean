/-
  PLAIN LEAN: the code's Reached, Live, kept.
-/
import Derived.Test.YteiaphkejkgfkaaDoorPlR
namespace Go.Proofs.YteiaphkejkgfkaaDoor
open Go Go.Eng
/-- reached, live, as Bool -/
noncomputable def rch (rows : List (List Int)) (entry : List Int) (j : Nat) : Bool := @decide (Rch rows entry (j : Int)) (Classical.propDecidable _)
noncomputable def lv (rows : List (List Int)) (rule : List Int) (j : Nat) : Bool := @decide (Lv rows rule (j : Int)) (Classical.propDecidable _)
theorem rch_iff {rows : List (List Int)} {entry : List Int} {j : Nat} : rch rows entry j = true ↔ Rch rows entry (j : Int) := by
  unfold rch
  exact @decide_eq_true_iff _ (Classical.propDecidable _)
theorem lv_iff {rows : List (List Int)} {rule : List Int} {j : Nat} : lv rows rule j = true ↔ Lv rows rule (j : Int) := by
  unfold lv
  exact @decide_eq_true_iff _ (Classical.propDecidable _)
/-- what stays: 0, and what is reached and live -/
noncomputable def kpf (rows : List (List Int)) (rule entry : List Int) (j : Nat) : Bool := j == 0 || (rch rows entry j && lv rows rule j)
noncomputable def kp (rows : List (List Int)) (rule entry : List Int) : List Int := lst (kpf rows rule entry) rows.length
theorem mem_lst {f : Nat → Bool} {n : Nat} {x : Int} : x ∈ lst f n ↔ (0 ≤ x ∧ x < n) ∧ f x.toNat = true := by
  unfold lst
  constructor
  · intro h
    obtain ⟨j, hj, rfl⟩ := List.mem_map.1 h
    obtain ⟨h1, h2⟩ := List.mem_filter.1 hj
    have := List.mem_range.1 h1
    exact ⟨by omega, by simpa using h2⟩
  · rintro ⟨h1, h2⟩
    refine List.mem_map.2 ⟨x.toNat, List.mem_filter.2 ⟨List.mem_range.2 (by omega), h2⟩, by omega⟩
theorem lst_acc (f : Nat → Bool) (n : Nat) : Acc n (lst f n) := by
  refine ⟨?_, fun x hx => (mem_lst.1 hx).1⟩
  unfold lst
  have h1 : ((List.range n).filter f).Nodup := List.nodup_range.filter _
  unfold List.Nodup at *
  rw [List.pairwise_map]
  exact h1.imp fun hab => by omega
theorem lst_zero {f : Nat → Bool} {n : Nat} (h : f 0 = true) (hn : 1 ≤ n) : (lst f n)[0]? = some 0 := by
  obtain ⟨m, rfl⟩ : ∃ m, n = m + 1 := ⟨n - 1, by omega⟩
  unfold lst
  rw [List.range_succ_eq_map, List.filter_cons, if_pos h]
  rfl
theorem lst_cons {f g : Nat → Bool} {n : Nat} (h : f 0 = true) (h0 : g 0 = false) (he : ∀ j, 0 < j → f j = g j) (hn : 1 ≤ n) : lst f n = 0 :: lst g n := by
  obtain ⟨m, rfl⟩ : ∃ m, n = m + 1 := ⟨n - 1, by omega⟩
  unfold lst
  rw [List.range_succ_eq_map, List.filter_cons, if_pos h, List.filter_cons, if_neg (by simp [h0])]
  have : ∀ l : List Nat, (l.map Nat.succ).filter f = (l.map Nat.succ).filter g := fun l => List.filter_congr fun j hj => by
    obtain ⟨k, _, rfl⟩ := List.mem_map.1 hj
    exact he _ (by omega)
  rw [this]
  rfl
theorem lst_filter (f : Nat → Bool) (p : Int → Bool) (n : Nat) : (lst f n).filter p = lst (fun j => f j && p (j : Int)) n := by
  unfold lst
  rw [List.filter_map, List.filter_filter]
  congr 1
  exact List.filter_congr fun j _ => by simp [Bool.and_comm]
section
variable {N : Nat} {rows : List (List Int)} {rule entry : List Int}
theorem mem_rch {x : Int} : x ∈ lst (rch rows entry) rows.length ↔ (0 ≤ x ∧ x < rows.length) ∧ Rch rows entry x := by
  rw [mem_lst]
  refine and_congr_right fun h => ?_
  rw [rch_iff, show ((x.toNat : Nat) : Int) = x by omega]
theorem mem_lv {x : Int} : x ∈ lst (lv rows rule) rows.length ↔ Lv rows rule x := by
  rw [mem_lst]
  constructor
  · rintro ⟨h, h2⟩
    rwa [lv_iff, show ((x.toNat : Nat) : Int) = x by omega] at h2
  · intro h
    refine ⟨h.rng, ?_⟩
    have := h.rng
    rwa [lv_iff, show ((x.toNat : Nat) : Int) = x by omega]
theorem mark_list {n : Nat} {m acc : List Int} {P : Int → Prop} {f : Nat → Bool} (hN : 4294967296 ≤ N) (hM : Mk n m acc) (hn : n ≤ 65536) (h0 : 0 < n) (hP : ∀ s, s ∈ acc ↔ P s) (hf : ∀ j, f j = true ↔ P (j : Int)) :
    F_marks_Marks_List_1 N m (n : Int) = some (lst f n) := by
  rw [list_spec hN hM.rel.mkr hn h0 hM.hb]
  congr 1
  refine lst_congr fun j hj => ?_
  rw [hM.has hj, Bool.eq_iff_iff, decide_eq_true_iff, hP, hf]
theorem Reached_yes (hN : 4294967296 ≤ N) (hs : Sz rows rule entry) (h : Rt rows rule entry) : F_trim_Reached N rows rule entry = some (lst (rch rows entry) rows.length) := by
  obtain ⟨b, hb, hbt⟩ := right_spec hN hs
  obtain rfl := hbt.2 h
  obtain ⟨m, acc, h1, h2, h3⟩ := reached_spec hN hs h
  have h4 := mark_list (N := N) (f := rch rows entry) hN h2 (by have := h.n2; omega) (by have := h.n1; omega) h3 (fun j => rch_iff)
  unfold F_trim_Reached
  simp only [hb, h1, h4, bind, Option.bind_some, Bool.not_true, Bool.false_eq_true, if_false]
theorem Live_yes (hN : 4294967296 ≤ N) (hs : Sz rows rule entry) (h : Rt rows rule entry) : F_trim_Live N rows rule entry = some (lst (lv rows rule) rows.length) := by
  obtain ⟨b, hb, hbt⟩ := right_spec hN hs
  obtain rfl := hbt.2 h
  obtain ⟨m, acc, h1, h2, h3⟩ := live_spec hN hs h
  have h4 := mark_list (N := N) (f := lv rows rule) hN h2 (by have := h.n2; omega) (by have := h.n1; omega) h3 (fun j => lv_iff)
  unfold F_trim_Live
  simp only [hb, h1, h4, bind, Option.bind_some, Bool.not_true, Bool.false_eq_true, if_false]
theorem right_not (hN : 4294967296 ≤ N) (hs : Sz rows rule entry) (h : ¬ Rt rows rule entry) : F_subset_Right N rows rule entry = some false := by
  obtain ⟨b, hb, hbt⟩ := right_spec hN hs
  cases b with
  | false => exact hb
  | true => exact absurd (hbt.1 rfl) h
theorem right_yes (hN : 4294967296 ≤ N) (hs : Sz rows rule entry) (h : Rt rows rule entry) : F_subset_Right N rows rule entry = some true := by
  obtain ⟨b, hb, hbt⟩ := right_spec hN hs
  rwa [hbt.2 h] at hb
theorem Reached_not (hN : 4294967296 ≤ N) (hs : Sz rows rule entry) (h : ¬ Rt rows rule entry) : F_trim_Reached N rows rule entry = some [] := by
  unfold F_trim_Reached
  simp [right_not hN hs h]
theorem Live_not (hN : 4294967296 ≤ N) (hs : Sz rows rule entry) (h : ¬ Rt rows rule entry) : F_trim_Live N rows rule entry = some [] := by
  unfold F_trim_Live
  simp [right_not hN hs h]
theorem kept_spec (hN : 4294967296 ≤ N) (hs : Sz rows rule entry) (h : Rt rows rule entry) : F_trim_kept N rows rule entry = some (kp rows rule entry) := by
  obtain ⟨m, acc, h1, h2, h3⟩ := reached_spec hN hs h
  obtain ⟨m', acc', h1', h2', h3'⟩ := live_spec hN hs h
  have hn2 := h.n2
  have hn1 := h.n1
  have h4 := mark_list (N := N) (f := lv rows rule) hN h2' (by omega) (by omega) h3' (fun j => lv_iff)
  have hll := lst_len (lv rows rule) rows.length
  unfold F_trim_kept
  simp only [h1, h1', h4, bind, Option.bind_some]
  have key := loop_fold (f := fun s => F_trim_kept_l3 N rows m (lst (lv rows rule) rows.length) s.1 s.2) (fun i (s : List Int) => ((i : Int), s)) id (lst (lv rows rule) rows.length)
    (fun s x => if rch rows entry x.toNat && decide (x > 0) then s ++ [x] else s) (fun i s => s.length ≤ i + 1) (N := N) (s := [0]) (by omega) (by simp)
    (fun i x s hx hI => by
      have hm := List.mem_of_getElem? hx
      obtain ⟨hr, _⟩ := mem_lst.1 hm
      have hi := (List.getElem?_eq_some_iff.1 hx).1
      have hh := has_spec (N := N) h2.rel.mkr (show x.toNat < rows.length by omega) (by omega)
      have hc : has m x.toNat = rch rows entry x.toNat := by
        rw [h2.has (show x.toNat < rows.length by omega), Bool.eq_iff_iff, decide_eq_true_iff, h3, rch_iff]
      rw [show ((x.toNat : Nat) : Int) = x by omega, hc] at hh
      refine ⟨?_, ?_⟩
      · unfold F_trim_kept_l3
        simp only [show ((i : Int) < ((lst (lv rows rule) rows.length).length : Int)) by omega, decide_true, if_true, idx_of hx, bind, Option.bind_some, hh]
        rw [w64_succ (by omega)]
        cases rch rows entry x.toNat with
        | false => simp
        | true =>
          by_cases h0 : x > 0
          · simp only [h0, decide_true, if_true, Option.bind_some, Bool.and_self]
            rw [app_eq (by simp; omega)]
            rfl
          · simp only [h0, decide_false, if_true, Option.bind_some, Bool.and_false, Bool.false_eq_true, if_false]
      · show (if _ then _ else _ : List Int).length ≤ _
        split
        · simp only [List.length_append, List.length_cons, List.length_nil]; omega
        · omega)
    (fun s _ => by unfold F_trim_kept_l3; simp)
  rw [show iterO N (fun s => F_trim_kept_l3 N rows m (lst (lv rows rule) rows.length) s.1 s.2) (0, [0]) = _ from key]
  rw [Option.bind_some, id_eq]
  have fl : ∀ (l s : List Int), l.foldl (fun s x => if rch rows entry x.toNat && decide (x > 0) then s ++ [x] else s) s = s ++ l.filter (fun x => rch rows entry x.toNat && decide (x > 0)) := by
    intro l
    induction l with
    | nil => intro s; simp
    | cons x l ih =>
      intro s
      rw [List.foldl_cons, ih, List.filter_cons]
      split <;> simp
  rw [fl, lst_filter]
  unfold kp
  rw [lst_cons (f := kpf rows rule entry) (g := fun j => lv rows rule j && (rch rows entry (j : Int).toNat && decide ((j : Int) > 0))) (by simp [kpf]) (by simp) (fun j hj => by
    have hj' : decide ((j : Int) > 0) = true := decide_eq_true (by omega)
    have h0 : (j == 0) = false := by simp; omega
    rw [kpf, hj', h0, Int.toNat_natCast, Bool.false_or, Bool.and_true, Bool.and_comm]) hn1]
  rfl
theorem kp_acc : Acc rows.length (kp rows rule entry) := lst_acc _ _
theorem kp_zero (h : Rt rows rule entry) : (kp rows rule entry)[0]? = some 0 := lst_zero (by simp [kpf]) h.n1
theorem mem_kp (h : Rt rows rule entry) {x : Int} : x ∈ kp rows rule entry ↔ x = 0 ∨ (Rch rows entry x ∧ Lv rows rule x) := by
  unfold kp
  rw [mem_lst]
  have hn1 := h.n1
  constructor
  · rintro ⟨h1, h2⟩
    simp only [kpf, rch_iff, lv_iff, Bool.or_eq_true, Bool.and_eq_true, beq_iff_eq, show ((x.toNat : Nat) : Int) = x by omega] at h2
    rcases h2 with h2 | h2
    · left; omega
    · exact .inr h2
  · rintro (rfl | ⟨h1, h2⟩)
    · exact ⟨by omega, by simp [kpf]⟩
    · have := h2.rng
      refine ⟨this, ?_⟩
      simp only [kpf, rch_iff, lv_iff, Bool.or_eq_true, Bool.and_eq_true, beq_iff_eq, show ((x.toNat : Nat) : Int) = x by omega]
      exact .inr ⟨h1, h2⟩
theorem isTrim_spec (hN : 4294967296 ≤ N) (hs : Sz rows rule entry) : ∃ b, F_trim_IsTrim N rows rule entry = some b ∧ (b = true ↔ Rt rows rule entry ∧ (kp rows rule entry).length = rows.length) := by
  unfold F_trim_IsTrim
  by_cases h : Rt rows rule entry
  · rw [right_yes hN hs h, kept_spec hN hs h]
    refine ⟨_, rfl, ?_⟩
    simp only [beq_iff_eq]
    exact ⟨fun q => ⟨h, by omega⟩, fun q => by omega⟩
  · rw [right_not hN hs h]
    exact ⟨false, rfl, by simp [h]⟩
end
end Go.Proofs.YteiaphkejkgfkaaDoor
