/-
  PLAIN LEAN, no program in sight: what the pure functions answer.
-/
import Derived.Test.YteiaphkejkgfkaaDoorHopcroftFewestP1
namespace Go.Proofs.YteiaphkejkgfkaaDoor
open Go Go.Eng
set_option maxRecDepth 100000
theorem upto_succ (n : Nat) : upto (n + 1) = upto n ++ [(n : Int)] := by simp [upto, List.range_succ]
theorem rg_upto : ∀ m : Nat, RG (upto m) m
  | 0 => .nil
  | m + 1 => by rw [upto_succ]; exact (rg_upto m).new
theorem pt_upto {n : Nat} {s : Int} (h : 0 ≤ s ∧ s < n) : pt (upto n) s = s := by
  have hl : s.toNat < (upto n).length := by rw [upto_len]; omega
  unfold pt
  rw [getD_of (List.getElem?_eq_getElem hl), upto_get]
  omega
section
variable {N : Nat} {rows : List (List Int)} {rule entry P : List Int} {m : Nat}
theorem mgRows_len : (mgRows P m rows).length = m := by simp [mgRows]
theorem mgRule_len : (mgRule P m rule).length = m := by simp [mgRule]
theorem Cls.pos (h : Rt rows rule entry) (hC : Cls rows rule P m) : pt P 0 = 0 ∧ 1 ≤ m := by
  have := hC.len
  have hn := h.n1
  have hf := hC.rg.first (by omega)
  exact ⟨by unfold pt; exact getD_of hf.1, hf.2⟩
/-- each number is a state's -/
theorem Cls.ex (hC : Cls rows rule P m) {v : Int} (hv : 0 ≤ v ∧ v < m) : ∃ s : Int, (0 ≤ s ∧ s < (rows.length : Int)) ∧ pt P s = v := by
  obtain ⟨r1, r2⟩ := hC.rep (v := v.toNat) (by omega)
  exact ⟨_, ⟨by omega, r1⟩, by rw [r2]; omega⟩
theorem mg_sz (hs : Sz rows rule entry) (h : Rt rows rule entry) (hC : Cls rows rule P m) : Sz (mgRows P m rows) (mgRule P m rule) (mgEntry P entry) := by
  have hml := hC.rg.le
  have hl := hC.len
  have hn2 := h.n2
  have he := h.e2
  refine ⟨fun r hr => ?_, by rw [mgRows_len]; omega, by rw [mgRule_len]; omega, by simp only [mgEntry, List.length_map]; omega⟩
  obtain ⟨v, hv, rfl⟩ := List.mem_map.1 hr
  obtain ⟨r1, _⟩ := hC.rep (List.mem_range.1 hv)
  rw [List.length_map]
  have := (row_nxt hs (s := ((P.idxOf (v : Int) : Nat) : Int)) (by omega)).1
  rwa [Int.toNat_natCast] at this
theorem mg_right (hs : Sz rows rule entry) (h : Rt rows rule entry) (hC : Cls rows rule P m) : Rt (mgRows P m rows) (mgRule P m rule) (mgEntry P entry) := by
  have hml := hC.rg.le
  have hl := hC.len
  have hn2 := h.n2
  obtain ⟨h0, h1⟩ := hC.pos h
  have hrow0 := mg_row hs h hC (s := 0) (by have := h.n1; omega)
  rw [h0] at hrow0
  refine ⟨by rw [mgRows_len]; exact h1, by rw [mgRows_len]; omega, by rw [mgRows_len, mgRule_len], by simpa [mgEntry] using h.e1, by simpa [mgEntry] using h.e2, fun r hr x hx => ?_, fun x hx => ?_, fun x hx => ?_, ?_, ?_⟩
  · rw [mgRows_len]
    obtain ⟨v, hv, rfl⟩ := List.mem_map.1 hr
    obtain ⟨r1, _⟩ := hC.rep (List.mem_range.1 hv)
    obtain ⟨y, hy, rfl⟩ := List.mem_map.1 hx
    obtain ⟨row, q1, q2, q3, q4⟩ := row_nat h (i := P.idxOf (v : Int)) (by omega)
    rw [q2] at hy
    exact hC.pt_rng (q4 y hy)
  · obtain ⟨v, hv, rfl⟩ := List.mem_map.1 hx
    obtain ⟨r1, _⟩ := hC.rep (List.mem_range.1 hv)
    have hru := h.ru
    have hrl : P.idxOf (v : Int) < rule.length := by omega
    rw [getD_of (List.getElem?_eq_getElem hrl)]
    exact h.rul _ (List.getElem_mem hrl)
  · rw [mgRows_len]
    obtain ⟨y, hy, rfl⟩ := List.mem_map.1 hx
    exact hC.pt_rng (h.ent y hy)
  · have := hrow0.1
    rw [show ((0 : Int)).toNat = 0 by rfl] at this
    rw [this, getD_of h.r0, List.map_replicate, h0]
  · have := hrow0.2
    rw [show ((0 : Int)).toNat = 0 by rfl] at this
    rw [this, getD_of h.u0]
theorem mg_nxt (hs : Sz rows rule entry) (h : Rt rows rule entry) (hC : Cls rows rule P m) {s c : Int} (hr : 0 ≤ s ∧ s < (rows.length : Int)) (hc : 0 ≤ c ∧ c < 256) : nxt (mgRows P m rows) (pt P s) c = pt P (nxt rows s c) := by
  have h1 := (mg_row hs h hC hr).1
  have h2 := (row_nxt hs hr).2 c.toNat (by omega)
  rw [show ((c.toNat : Nat) : Int) = c by omega] at h2
  show ((mgRows P m rows).getD (pt P s).toNat []).getD c.toNat 0 = _
  rw [getD_of h1]
  refine getD_of ?_
  rw [List.getElem?_map, h2]
  rfl
theorem mg_rul (hs : Sz rows rule entry) (h : Rt rows rule entry) (hC : Cls rows rule P m) {s : Int} (hr : 0 ≤ s ∧ s < (rows.length : Int)) : (mgRule P m rule).getD (pt P s).toNat 0 = rule.getD s.toNat 0 := getD_of (mg_row hs h hC hr).2
theorem foldl_rng (hs : Sz rows rule entry) (h : Rt rows rule entry) : ∀ {t : List Int} {s : Int}, Byt t → 0 ≤ s ∧ s < (rows.length : Int) → 0 ≤ t.foldl (nxt rows) s ∧ t.foldl (nxt rows) s < (rows.length : Int)
  | [], _, _, hr => hr
  | c :: t, s, hb, hr => foldl_rng hs h (t := t) (fun x hx => hb x (by simp [hx])) (nxt_rng hs h hr (hb c (by simp)))
theorem mg_foldl (hs : Sz rows rule entry) (h : Rt rows rule entry) (hC : Cls rows rule P m) : ∀ {t : List Int} {s : Int}, Byt t → 0 ≤ s ∧ s < (rows.length : Int) → t.foldl (nxt (mgRows P m rows)) (pt P s) = pt P (t.foldl (nxt rows) s)
  | [], _, _, _ => rfl
  | c :: t, s, hb, hr => by
    have hc := hb c (by simp)
    rw [List.foldl_cons, List.foldl_cons, mg_nxt hs h hC hr hc]
    exact mg_foldl hs h hC (fun x hx => hb x (by simp [hx])) (nxt_rng hs h hr hc)
theorem mg_alk (hs : Sz rows rule entry) (h : Rt rows rule entry) (hC : Cls rows rule P m) {a b : Int} (ha : 0 ≤ a ∧ a < (rows.length : Int)) (hb : 0 ≤ b ∧ b < (rows.length : Int)) : Alk (mgRows P m rows) (mgRule P m rule) (pt P a) (pt P b) ↔ Alk rows rule a b := by
  unfold Alk
  constructor
  · intro q t ht
    have := q t ht
    rwa [mg_foldl hs h hC ht ha, mg_foldl hs h hC ht hb, mg_rul hs h hC (foldl_rng hs h ht ha), mg_rul hs h hC (foldl_rng hs h ht hb)] at this
  · intro q t ht
    rw [mg_foldl hs h hC ht ha, mg_foldl hs h hC ht hb, mg_rul hs h hC (foldl_rng hs h ht ha), mg_rul hs h hC (foldl_rng hs h ht hb)]
    exact q t ht
theorem cls_upto {n : Nat} (hn : rows.length = n) (hd : ∀ a b : Int, 0 ≤ a ∧ a < (n : Int) → 0 ≤ b ∧ b < (n : Int) → Alk rows rule a b → a = b) : Cls rows rule (upto n) n := by
  refine ⟨rg_upto n, by rw [upto_len, hn], fun i k hi hk => ?_⟩
  have h1 : (upto n)[i]? = some (i : Int) := by rw [List.getElem?_eq_getElem (by rw [upto_len]; omega), upto_get]
  have h2 : (upto n)[k]? = some (k : Int) := by rw [List.getElem?_eq_getElem (by rw [upto_len]; omega), upto_get]
  rw [h1, h2, Option.some.injEq]
  constructor
  · intro q; rw [q]; exact .refl _
  · intro q; exact hd _ _ (by omega) (by omega) q
/-- of the merged one each state is a part -/
theorem mg_cls (hs : Sz rows rule entry) (h : Rt rows rule entry) (hC : Cls rows rule P m) : Cls (mgRows P m rows) (mgRule P m rule) (upto m) m := by
  refine cls_upto mgRows_len fun a b ha hb hk => ?_
  obtain ⟨x, hx, rfl⟩ := hC.ex ha
  obtain ⟨y, hy, rfl⟩ := hC.ex hb
  exact (hC.pt_iff hx hy).2 ((mg_alk hs h hC hx hy).1 hk)
theorem mg_rch (hs : Sz rows rule entry) (h : Rt rows rule entry) (hC : Cls rows rule P m) {s : Int} (hr : Rch rows entry s) : Rch (mgRows P m rows) (mgEntry P entry) (pt P s) := by
  induction hr with
  | zero => rw [(hC.pos h).1]; exact .zero
  | ent hx => exact .ent (List.mem_map_of_mem hx)
  | @step s y hr hy ih =>
    refine ih.step ?_
    rw [getD_of (mg_row hs h hC (hr.rng h)).1]
    exact List.mem_map_of_mem hy
theorem mg_lv (hs : Sz rows rule entry) (h : Rt rows rule entry) (hC : Cls rows rule P m) {s : Int} (hl : Lv rows rule s) : Lv (mgRows P m rows) (mgRule P m rule) (pt P s) := by
  induction hl with
  | here a b hr =>
    have hp := hC.pt_rng ⟨a, b⟩
    exact .here hp.1 (by rw [mgRows_len]; exact hp.2) (by rw [mg_rul hs h hC ⟨a, b⟩]; exact hr)
  | step a b hy _ ih =>
    have hp := hC.pt_rng ⟨a, b⟩
    refine .step hp.1 (by rw [mgRows_len]; exact hp.2) ?_ ih
    rw [getD_of (mg_row hs h hC ⟨a, b⟩).1]
    exact List.mem_map_of_mem hy
theorem kp_full (hl : (kp rows rule entry).length = rows.length) : kp rows rule entry = upto rows.length := by
  unfold kp at hl ⊢
  refine lst_all fun j hj => ?_
  unfold lst at hl
  rw [List.length_map] at hl
  have := List.length_filter_eq_length_iff.1 (hl.trans List.length_range.symm)
  exact this j (List.mem_range.2 hj)
theorem kp_all (h : Rt rows rule entry) (hk : ∀ x : Int, 0 < x → x < (rows.length : Int) → Rch rows entry x ∧ Lv rows rule x) : (kp rows rule entry).length = rows.length := by
  have : ∀ x ∈ upto rows.length, x ∈ kp rows rule entry := fun x hx => by
    have hr := (rg_upto rows.length).mem.1 hx
    rw [mem_kp h]
    by_cases h0 : x = 0
    · exact .inl h0
    · exact .inr (hk x (by omega) hr.2)
  have hnd : (upto rows.length).Nodup := by
    unfold upto List.Nodup
    rw [List.pairwise_map]
    exact (List.nodup_range (n := rows.length)).imp fun hne q => hne (by omega)
  have h1 := nodup_len hnd this
  rw [upto_len] at h1
  have h2 := (kp_acc (rows := rows) (rule := rule) (entry := entry)).len
  omega
theorem mg_kp (hs : Sz rows rule entry) (h : Rt rows rule entry) (hC : Cls rows rule P m) (hk : (kp rows rule entry).length = rows.length) : (kp (mgRows P m rows) (mgRule P m rule) (mgEntry P entry)).length = (mgRows P m rows).length := by
  refine kp_all (mg_right hs h hC) fun v hv0 hv1 => ?_
  rw [mgRows_len] at hv1
  obtain ⟨s, hs', rfl⟩ := hC.ex (v := v) ⟨by omega, hv1⟩
  have hm : s ∈ kp rows rule entry := by rw [kp_full hk]; exact (rg_upto _).mem.2 hs'
  rcases (mem_kp h).1 hm with rfl | ⟨q1, q2⟩
  · rw [(hC.pos h).1] at hv0; omega
  · exact ⟨mg_rch hs h hC q1, mg_lv hs h hC q2⟩
/-- a least DFA -/
def Lst (rows : List (List Int)) (rule entry : List Int) : Prop := Rt rows rule entry ∧ (kp rows rule entry).length = rows.length ∧ Cls rows rule (upto rows.length) rows.length
/-- trimmed -/
noncomputable abbrev tRows (rows : List (List Int)) (rule entry : List Int) := reRows (kp rows rule entry) rows
noncomputable abbrev tRule (rows : List (List Int)) (rule entry : List Int) := reRule (kp rows rule entry) rule
noncomputable abbrev tEntry (rows : List (List Int)) (rule entry : List Int) := reEntry (kp rows rule entry) entry
theorem t_right (h : Rt rows rule entry) : Rt (tRows rows rule entry) (tRule rows rule entry) (tEntry rows rule entry) := reO_right h kp_acc (kp_zero h)
theorem t_sz (hs : Sz rows rule entry) (h : Rt rows rule entry) : Sz (tRows rows rule entry) (tRule rows rule entry) (tEntry rows rule entry) := reO_sz hs h kp_acc
theorem t_kp (h : Rt rows rule entry) : (kp (tRows rows rule entry) (tRule rows rule entry) (tEntry rows rule entry)).length = (tRows rows rule entry).length := by rw [kp_re h, upto_len]
theorem cls_ex (hs : Sz rows rule entry) (h : Rt rows rule entry) : ∃ P m, Cls rows rule P m := by
  obtain ⟨P, m, _, h2⟩ := refParts_spec (N := 4294967296) (Nat.le_refl _) hs h
  exact ⟨P, m, h2⟩
theorem least_spec (hN : 4294967296 ≤ N) (hs : Sz rows rule entry) (h : Rt rows rule entry) (hC : Cls (tRows rows rule entry) (tRule rows rule entry) P m) :
    F_hopcroft_Least N rows rule entry = some (mgRows P m (tRows rows rule entry), mgRule P m (tRule rows rule entry), mgEntry P (tEntry rows rule entry)) := by
  unfold F_hopcroft_Least
  simp only [trim_spec hN hs h, merge_spec hN (t_sz hs h) (t_right h) hC, bind, Option.bind_some]
/-- THE LEAST ONE is least -/
theorem least_lst (hs : Sz rows rule entry) (h : Rt rows rule entry) (hC : Cls (tRows rows rule entry) (tRule rows rule entry) P m) :
    Lst (mgRows P m (tRows rows rule entry)) (mgRule P m (tRule rows rule entry)) (mgEntry P (tEntry rows rule entry)) := by
  refine ⟨mg_right (t_sz hs h) (t_right h) hC, mg_kp (t_sz hs h) (t_right h) hC (t_kp h), ?_⟩
  have := mg_cls (t_sz hs h) (t_right h) hC
  rwa [mgRows_len]
theorem sz_nil : Sz [] [] [] := ⟨fun r hr => by simp at hr, by simp, by simp, by simp⟩
theorem Parts_yes (hN : 4294967296 ≤ N) (hs : Sz rows rule entry) (h : Rt rows rule entry) (hC : Cls rows rule P m) : F_hopcroft_Parts N rows rule entry = some P := by
  obtain ⟨P', m', p1, p2⟩ := parts_spec (N := N) hN hs h
  obtain ⟨rfl, rfl⟩ := p2.uniq hC
  unfold F_hopcroft_Parts
  simp only [right_yes hN hs h, p1, bind, Option.bind_some, Bool.not_true, Bool.false_eq_true, if_false]
end
def prRows : List (List Int) := [List.replicate 256 0, List.replicate 256 2, List.replicate 256 1]
theorem pairs_eq {N : Nat} (hN : 4294967296 ≤ N) : F_dofferlaw19_pairs N = some prRows := by
  unfold F_dofferlaw19_pairs
  rw [show (3 : Int) = ((3 : Nat) : Int) by rfl, mk_eq (by decide)]
  simp only [bind, Option.bind_some]
  obtain ⟨s, h1, r1, r2, h2, h3, h4, h5⟩ := loop_inv (f := fun s => F_dofferlaw19_pairs_l0 N s.1 s.2) (fun c (s : List (List Int)) => (s, (c : Int))) id (List.range 256)
    (fun c s => ∃ r1 r2, s = [List.replicate 256 0, r1, r2] ∧ r1.length = 256 ∧ r2.length = 256 ∧ ∀ j, j < c → r1[j]? = some 2 ∧ r2[j]? = some 1) (N := N) (s := List.replicate 3 (List.replicate 256 0)) (by rw [List.length_range]; omega)
    ⟨List.replicate 256 0, List.replicate 256 0, rfl, List.length_replicate, List.length_replicate, fun j hj => by omega⟩
    (fun c y s hx hI => by
      obtain ⟨hc, rfl⟩ := range_get hx
      obtain ⟨r1, r2, rfl, k1, k2, k3⟩ := hI
      generalize List.replicate 256 (0 : Int) = z
      refine ⟨[z, r1.set y 2, r2.set y 1], ?_, _, _, rfl, by simpa using k1, by simpa using k2, fun j hj => ?_⟩
      · have a1 : y < r1.length := by omega
        have a2 : y < r2.length := by omega
        unfold F_dofferlaw19_pairs_l0
        simp only [show ((y : Int) < 256) by omega, decide_true, if_true, show idx [z, r1, r2] 1 = some r1 by rfl, show idx [z, r1, r2] 2 = some r2 by rfl, idx_nat a1, idx_nat a2, setI_nat a1, setI_nat a2, show setI [z, r1, r2] 1 (r1.set y 2) = some [z, r1.set y 2, r2] by rfl,
          show idx [z, r1.set y 2, r2] 2 = some r2 by rfl, show setI [z, r1.set y 2, r2] 2 (r2.set y 1) = some [z, r1.set y 2, r2.set y 1] by rfl, bind, Option.bind_some]
        rw [w64_succ (by omega)]
      · by_cases hj' : j = y
        · subst hj'
          exact ⟨List.getElem?_set_self (by omega), List.getElem?_set_self (by omega)⟩
        · rw [List.getElem?_set_ne (by omega), List.getElem?_set_ne (by omega)]
          exact k3 j (by omega))
    (fun s _ => by unfold F_dofferlaw19_pairs_l0; simp)
  rw [List.length_range] at h5
  have e1 : r1 = List.replicate 256 2 := List.ext_getElem? fun j => by
    by_cases hj : j < 256
    · rw [(h5 j hj).1, List.getElem?_replicate, if_pos hj]
    · rw [List.getElem?_eq_none (by omega), List.getElem?_eq_none (by rw [List.length_replicate]; omega)]
  have e2 : r2 = List.replicate 256 1 := List.ext_getElem? fun j => by
    by_cases hj : j < 256
    · rw [(h5 j hj).2, List.getElem?_replicate, if_pos hj]
    · rw [List.getElem?_eq_none (by omega), List.getElem?_eq_none (by rw [List.length_replicate]; omega)]
  rw [show iterO N (fun s => F_dofferlaw19_pairs_l0 N s.1 s.2) (List.replicate 3 (List.replicate 256 0), 0) = _ from h1, id, h2, e1, e2]
  rfl
theorem prRow {i : Nat} (hi : i < 3) : prRows[i]? = some (List.replicate 256 (if i = 0 then 0 else if i = 1 then 2 else 1)) := by
  match i, hi with
  | 0, _ => rfl
  | 1, _ => rfl
  | 2, _ => rfl
theorem prNxt {i c : Int} (hi : 0 ≤ i ∧ i < 3) (hc : 0 ≤ c ∧ c < 256) : nxt prRows i c = if i = 0 then 0 else if i = 1 then 2 else 1 := by
  unfold nxt
  rw [getD_of (prRow (i := i.toNat) (by omega))]
  refine getD_of ?_
  rw [List.getElem?_replicate, if_pos (by omega)]
  have e1 : i.toNat = 0 ↔ i = 0 := by omega
  have e2 : i.toNat = 1 ↔ i = 1 := by omega
  simp only [e1, e2]
theorem prRight : Rt prRows [-1, 0, 0] [1] := by
  refine ⟨by decide, by decide, rfl, by decide, by decide, fun r hr x hx => ?_, fun x hx => ?_, fun x hx => ?_, rfl, rfl⟩
  · have : (prRows.length : Int) = 3 := rfl
    rw [this]
    simp only [prRows, List.mem_cons, List.not_mem_nil, or_false] at hr
    rcases hr with rfl | rfl | rfl <;> (have := List.eq_of_mem_replicate hx; omega)
  · simp at hx; omega
  · have : (prRows.length : Int) = 3 := rfl
    simp at hx; omega
theorem prSz : Sz prRows [-1, 0, 0] [1] := ⟨fun r hr => by
  simp only [prRows, List.mem_cons, List.not_mem_nil, or_false] at hr
  rcases hr with rfl | rfl | rfl <;> exact List.length_replicate, by decide, by decide, by decide⟩
theorem prCls : Cls prRows [-1, 0, 0] [0, 1, 1] 2 := by
  have rg : RG [0, 1, 1] 2 := by
    have h1 : RG [0] 1 := RG.nil.new
    have h2 : RG [0, 1] 2 := h1.new
    exact h2.old (by simp)
  have no : ∀ k : Int, k = 1 ∨ k = 2 → ¬ Alk prRows [-1, 0, 0] 0 k := fun k hk q => by
    have := q.rul
    rcases hk with rfl | rfl <;> simp at this
  have yes : ∀ i k : Int, (0 ≤ i ∧ i < 3) → (0 ≤ k ∧ k < 3) → 1 ≤ i ∧ 1 ≤ k → Alk prRows [-1, 0, 0] i k := fun i k hi hk h => by
    refine alk_of (R := fun i k => 1 ≤ i ∧ 1 ≤ k) (n := 3) (fun i k hi hk h => ?_) (fun i c hi hc => ?_) (fun i k c hi hk h hc => ?_) (by omega) (by omega) h
    · have e1 : i = 1 ∨ i = 2 := by omega
      have e2 : k = 1 ∨ k = 2 := by omega
      rcases e1 with rfl | rfl <;> rcases e2 with rfl | rfl <;> rfl
    · rw [prNxt (by omega) hc]
      split
      · omega
      · split <;> omega
    · rw [prNxt (by omega) hc, prNxt (by omega) hc]
      split <;> split <;> first | omega | (split <;> first | omega | (split <;> omega))
  refine ⟨rg, rfl, fun i k hi hk => ?_⟩
  have hi' : i = 0 ∨ i = 1 ∨ i = 2 := by have : prRows.length = 3 := rfl; omega
  have hk' : k = 0 ∨ k = 1 ∨ k = 2 := by have : prRows.length = 3 := rfl; omega
  rcases hi' with rfl | rfl | rfl <;> rcases hk' with rfl | rfl | rfl
  · exact ⟨fun _ => .refl _, fun _ => rfl⟩
  · exact ⟨fun q => by simp at q, fun q => absurd q (no 1 (.inl rfl))⟩
  · exact ⟨fun q => by simp at q, fun q => absurd q (no 2 (.inr rfl))⟩
  · exact ⟨fun q => by simp at q, fun q => absurd q.symm (no 1 (.inl rfl))⟩
  · exact ⟨fun _ => .refl _, fun _ => rfl⟩
  · exact ⟨fun _ => yes _ _ (by decide) (by decide) (by decide), fun _ => rfl⟩
  · exact ⟨fun q => by simp at q, fun q => absurd q.symm (no 2 (.inr rfl))⟩
  · exact ⟨fun _ => yes _ _ (by decide) (by decide) (by decide), fun _ => rfl⟩
  · exact ⟨fun _ => .refl _, fun _ => rfl⟩
theorem alive19_of {N : Nat} (hN : 4294967296 ≤ N) : F_dofferlaw19_alive N = some true := by
  unfold F_dofferlaw19_alive
  simp only [pairs_eq hN, Parts_yes hN prSz prRight prCls, sameInts_spec hN (a := [0, 1, 1]) (by decide), bind, Option.bind_some, decide_true]
end Go.Proofs.YteiaphkejkgfkaaDoor
namespace Go.Proofs.YteiaphkejkgfkaaDoor
open Go Go.Eng
set_option maxRecDepth 100000
section
variable {N : Nat} {rows : List (List Int)} {rule entry : List Int}
abbrev AInv (rows : List (List Int)) (rule : List Int) (s0 : Int × Int) := BInv (nx2 rows) (Apt rule) (fun p => p.1 = p.2) (Dm2 rows.length) s0
abbrev AMid (rows : List (List Int)) (rule : List Int) (s0 : Int × Int) := BMid (nx2 rows) (Apt rule) (fun p => p.1 = p.2) (Dm2 rows.length) s0
theorem trivEq : TrivOk (nx2 rows) (Apt rule) (fun p => p.1 = p.2) :=
  ⟨fun s c h => by show nxt rows s.1 c = nxt rows s.2 c; rw [show s.1 = s.2 from h], fun s h g => g (by rw [show s.1 = s.2 from h])⟩
/-- the map of what was seen -/
def SeenM (S : List (Int × Int)) (M : List (List Int × Bool)) : Prop := M.length = S.length ∧ ∀ x y : Int, mget M [x, y] = if (x, y) ∈ S then some true else none
theorem SeenM.get {S : List (Int × Int)} {M : List (List Int × Bool)} (h : SeenM S M) (x y : Int) : (mget M [x, y]).getD false = decide ((x, y) ∈ S) := by
  rw [h.2 x y]
  by_cases q : (x, y) ∈ S <;> simp [q]
theorem SeenM.add {S : List (Int × Int)} {M : List (List Int × Bool)} {x y : Int} (h : SeenM S M) (hn : (x, y) ∉ S) : SeenM (S ++ [(x, y)]) (mset M [x, y] true) := by
  refine ⟨?_, fun a b => ?_⟩
  · rw [mset_len (by rw [h.2 x y, if_neg hn]), h.1]
    simp
  · rw [mget_mset_g]
    by_cases he : x = a ∧ y = b
    · obtain ⟨rfl, rfl⟩ := he
      simp
    · have : (([x, y] : List Int) == [a, b]) = false := by
        rw [beq_eq_false_iff_ne]
        intro q
        injection q with q1 q2
        injection q2 with q2 _
        exact he ⟨q1, q2⟩
      rw [this]
      simp only [Bool.false_eq_true, if_false]
      rw [h.2 a b]
      have e : (a, b) ∈ S ++ [(x, y)] ↔ (a, b) ∈ S := by
        rw [List.mem_append]
        constructor
        · rintro (q | q)
          · exact q
          · simp at q
            exact absurd ⟨q.1.symm, q.2.symm⟩ he
        · exact .inl
      simp only [e]
def flat (Q : List ((Int × Int) × List Int)) : List (Int × Int × List Int) := Q.map fun p => (p.1.1, p.1.2, p.2)
theorem apart_row {s0 : Int × Int} {a b : Int} {t : List Int} {Q : List ((Int × Int) × List Int)} {S : List (Int × Int)} {M : List (List Int × Bool)} (hN : 4294967296 ≤ N) (hs : Sz rows rule entry) (h : Rt rows rule entry) (hab : Dm2 rows.length (a, b)) (hM : SeenM S M) (hB : AMid rows rule s0 (a, b) t 0 S Q) :
    ∃ Q' M' S', iterO N (fun s => F_hopcroft_Apart_1x_l1 N rows (a, b, t) s.1 s.2.1 s.2.2) (flat Q, 0, M) = some (flat Q', M') ∧ SeenM S' M' ∧ AMid rows rule s0 (a, b) t 256 S' Q' ∧ Q'.length + S.length = S'.length + Q.length := by
  have hn2 := h.n2
  have hnn : rows.length * rows.length ≤ 40000 := Nat.le_trans (Nat.mul_le_mul hn2 hn2) (by decide)
  obtain ⟨s, h1, S', h2, h3, h4⟩ := loop_inv (f := fun s => F_hopcroft_Apart_1x_l1 N rows (a, b, t) s.1 s.2.1 s.2.2) (fun c (s : List ((Int × Int) × List Int) × List (List Int × Bool)) => (flat s.1, (c : Int), s.2)) (fun s => (flat s.1, s.2)) (List.range 256)
    (fun c s => ∃ S', SeenM S' s.2 ∧ AMid rows rule s0 (a, b) t c S' s.1 ∧ s.1.length + S.length = S'.length + Q.length) (N := N) (s := (Q, M)) (by rw [List.length_range]; omega) ⟨S, hM, hB, by simp only; omega⟩
    (fun c y s hx hI => by
      obtain ⟨hc, rfl⟩ := range_get hx
      obtain ⟨Q1, M1⟩ := s
      obtain ⟨S1, k1, k2, k3⟩ := hI
      simp only at k1 k2 k3
      have hA1 := dm2_len k2.nd k2.rng
      obtain ⟨ha, hb⟩ := hab
      simp only at ha hb
      obtain ⟨r1, a1, a2, a3, _⟩ := nxt_get hs ha (c := (y : Int)) (by omega)
      obtain ⟨r2, b1, b2, b3, _⟩ := nxt_get hs hb (c := (y : Int)) (by omega)
      have xr := nxt_rng hs h ha (c := (y : Int)) (by omega)
      have yr := nxt_rng hs h hb (c := (y : Int)) (by omega)
      have hnx : nx2 rows (a, b) (y : Int) = (nxt rows a (y : Int), nxt rows b (y : Int)) := rfl
      generalize nxt rows a (y : Int) = u at *
      generalize nxt rows b (y : Int) = v at *
      have t3 := k2.tb.2.2.1
      have ql := k2.ql
      have fl : (flat Q1).length = Q1.length := by simp [flat]
      by_cases huv : u = v
      · refine ⟨(Q1, M1), ?_, S1, k1, k2.skip (.inr (by rw [hnx]; exact huv)), k3⟩
        unfold F_hopcroft_Apart_1x_l1
        have : (u != v) = false := by simpa using huv
        simp only [show ((y : Int) < 256) by omega, decide_true, if_true, a1, a3, b1, b3, this, Bool.false_eq_true, if_false, bind, Option.bind_some]
        rw [w64_succ (by omega)]
      · have hne : (u != v) = true := by simpa using huv
        by_cases hni : (u, v) ∈ S1
        · have hm : (mget M1 [u, v]).getD false = true := by rw [k1.get]; exact decide_eq_true hni
          refine ⟨(Q1, M1), ?_, S1, k1, k2.skip (.inl (by rw [hnx]; exact hni)), k3⟩
          unfold F_hopcroft_Apart_1x_l1
          simp only [show ((y : Int) < 256) by omega, decide_true, if_true, a1, a3, b1, b3, hne, hm, Bool.not_true, Bool.false_eq_true, if_false, bind, Option.bind_some]
          rw [w64_succ (by omega)]
        · have hm : (mget M1 [u, v]).getD false = false := by rw [k1.get]; exact decide_eq_false hni
          have hp := k2.push trivEq hc (by rw [hnx]; exact hni) (by rw [hnx]; exact huv) (by rw [hnx]; exact ⟨xr, yr⟩)
          rw [hnx] at hp
          have hA2 := dm2_len hp.nd hp.rng
          rw [List.length_append, List.length_singleton] at hA2
          refine ⟨(Q1 ++ [((u, v), t ++ [(y : Int)])], mset M1 [u, v] true), ?_, S1 ++ [(u, v)], k1.add hni, hp, by simp only [List.length_append, List.length_singleton]; omega⟩
          unfold F_hopcroft_Apart_1x_l1 F_clone_67
          simp only [show ((y : Int) < 256) by omega, decide_true, if_true, a1, a3, b1, b3, hne, hm, Bool.not_false, bind, Option.bind_some, wrap8 hc]
          rw [app_eq (by simp; omega)]
          simp only [Option.bind_some, List.nil_append]
          rw [app_eq (by simp; omega)]
          simp only [Option.bind_some]
          rw [app_eq (by rw [fl, List.length_singleton]; omega)]
          simp only [Option.bind_some, flat, List.map_append]
          rw [w64_succ (by omega)]
          rfl)
    (fun s _ => by unfold F_hopcroft_Apart_1x_l1; simp)
  rw [List.length_range] at h3
  exact ⟨s.1, s.2, S', h1, h2, h3, h4⟩
theorem apart_loop {a b : Int} {M : List (List Int × Bool)} (hN : 4294967296 ≤ N) (hs : Sz rows rule entry) (h : Rt rows rule entry) (hab : Dm2 rows.length (a, b)) (hM : SeenM [(a, b)] M) :
    ∃ r, iterO N (fun s => F_hopcroft_Apart_1x_l0 N rows rule s.1 s.2) ([(a, b, [])], M) = some r ∧ ((r = .inl () ∧ ∀ u, ¬ LG (nx2 rows) (Apt rule) (a, b) u) ∨ ∃ g, r = .inr (.inr g) ∧ BestG (nx2 rows) (Apt rule) (a, b) g ∧ g.length < 40000) := by
  have hn2 := h.n2
  have hru := h.ru
  have hnn : rows.length * rows.length ≤ 40000 := Nat.le_trans (Nat.mul_le_mul hn2 hn2) (by decide)
  refine (iterO_while (f := fun s => F_hopcroft_Apart_1x_l0 N rows rule s.1 s.2) (fun s => ∃ S Q, s.1 = flat Q ∧ SeenM S s.2 ∧ AInv rows rule (a, b) S Q) (fun s => 40000 - s.2.length + s.1.length)
    (fun r => (r = .inl () ∧ ∀ u, ¬ LG (nx2 rows) (Apt rule) (a, b) u) ∨ ∃ g, r = .inr (.inr g) ∧ BestG (nx2 rows) (Apt rule) (a, b) g ∧ g.length < 40000) ?_ (N := N) (s := ([(a, b, [])], M)) ⟨[(a, b)], [((a, b), [])], rfl, hM, BInv.start hab⟩ ?_)
  · rintro ⟨Qc, M1⟩ ⟨S1, Q1, rfl, k1, k2⟩
    simp only at k1 k2
    cases Q1 with
    | nil =>
      right
      refine ⟨.inl (), ?_, .inl ⟨rfl, fun u hu => k2.none trivEq u hu⟩⟩
      unfold F_hopcroft_Apart_1x_l0
      simp [flat]
    | cons p Q1 =>
      obtain ⟨⟨x, y⟩, t⟩ := p
      have hd := k2.rng (x, y) (k2.qs ((x, y), t) (by simp))
      obtain ⟨hx, hy⟩ := hd
      simp only at hx hy
      have hfl : flat (((x, y), t) :: Q1) = (x, y, t) :: flat Q1 := rfl
      have fl : (flat Q1).length = Q1.length := by simp [flat]
      have hpos : decide ((((x, y, t) :: flat Q1).length : Int) > 0) = true := decide_eq_true (by simp only [List.length_cons]; omega)
      have hxl : x.toNat < rule.length := by omega
      have hyl : y.toNat < rule.length := by omega
      have g1 : idx rule x = some (rule.getD x.toNat 0) := by rw [getD_of (List.getElem?_eq_getElem hxl)]; exact idx_int hx.1 hxl
      have g2 : idx rule y = some (rule.getD y.toNat 0) := by rw [getD_of (List.getElem?_eq_getElem hyl)]; exact idx_int hy.1 hyl
      have hS1 := dm2_len k2.nd k2.rng
      by_cases hG : rule.getD x.toNat 0 = rule.getD y.toNat 0
      · left
        have hG' : ¬ Apt rule (x, y) := fun q => q hG
        obtain ⟨Q2, M2, S2, e1, e2, e3, e4⟩ := apart_row (N := N) hN hs h ⟨hx, hy⟩ k1 (k2.mid trivEq hG')
        have hb : (rule.getD x.toNat 0 != rule.getD y.toNat 0) = false := by simpa using hG
        have fl2 : (flat Q2).length = Q2.length := by simp [flat]
        have hS2 := dm2_len (e3.done hG').nd (e3.done hG').rng
        have hk1 := k1.1
        have he2 := e2.1
        refine ⟨(flat Q2, M2), ?_, ⟨S2, Q2, rfl, e2, e3.done hG'⟩, ?_⟩
        · unfold F_hopcroft_Apart_1x_l0
          simp only [hfl, hpos, if_true, idx_head, slc_tail, g1, g2, hb, e1, bind, Option.bind_some, Bool.false_eq_true, if_false]
        · simp only [hfl, List.length_cons, fl, fl2]
          omega
      · right
        have hb : (rule.getD x.toNat 0 != rule.getD y.toNat 0) = true := by simpa using hG
        refine ⟨.inr (.inr t), ?_, .inr ⟨t, rfl, k2.best trivEq hG, ?_⟩⟩
        · unfold F_hopcroft_Apart_1x_l0
          simp only [hfl, hpos, if_true, idx_head, slc_tail, g1, g2, hb, bind, Option.bind_some]
        · have := k2.len ((x, y), t) (by simp)
          simp only at this
          omega
  · have := hM.1
    simp only [List.length_cons, List.length_nil] at this ⊢
    omega
theorem apart_spec {a b : Int} (hN : 4294967296 ≤ N) (hs : Sz rows rule entry) (h : Rt rows rule entry) (hab : Dm2 rows.length (a, b)) :
    (F_hopcroft_Apart_1x N rows rule entry a b = some (.inl ()) ∧ ∀ u, ¬ LG (nx2 rows) (Apt rule) (a, b) u) ∨ ∃ g, F_hopcroft_Apart_1x N rows rule entry a b = some (.inr g) ∧ BestG (nx2 rows) (Apt rule) (a, b) g ∧ g.length < 40000 := by
  have hM : SeenM [(a, b)] (mset ([] : List (List Int × Bool)) [a, b] true) := by
    have h0 : SeenM [] ([] : List (List Int × Bool)) := ⟨rfl, fun x y => by simp [mget]⟩
    exact h0.add (by simp)
  obtain ⟨r, q1, q2⟩ := apart_loop (N := N) hN hs h hab hM
  obtain ⟨ha, hb⟩ := hab
  simp only at ha hb
  have e0 : ∀ r, iterO N (fun s => F_hopcroft_Apart_1x_l0 N rows rule s.1 s.2) ([(a, b, [])], mset ([] : List (List Int × Bool)) [a, b] true) = some r → F_hopcroft_Apart_1x N rows rule entry a b = (match r with | .inr z => some z | .inl _ => some (.inl ())) := by
    intro r q1
    unfold F_hopcroft_Apart_1x F_hopcroft_Apart_1_1
    simp only [right_yes hN hs h, Bool.not_true, Bool.false_eq_true, if_false, show ¬ a < 0 by omega, show ¬ a ≥ (rows.length : Int) by omega, show ¬ b < 0 by omega, show ¬ b ≥ (rows.length : Int) by omega, decide_false, bind, Option.bind_some]
    rw [q1]
    rfl
  rcases q2 with ⟨rfl, hn⟩ | ⟨g, rfl, hg, hl⟩
  · exact .inl ⟨e0 _ q1, hn⟩
  · exact .inr ⟨g, e0 _ q1, hg, hl⟩
/-- the least DFA finds what the DFA finds -/
theorem least_lang {P : List Int} {m : Nat} (hs : Sz rows rule entry) (h : Rt rows rule entry) (hC : Cls (tRows rows rule entry) (tRule rows rule entry) P m) (cond : Int) {text : List Int} (ht : Byt text) :
    (mgRule P m (tRule rows rule entry)).getD (stt (mgRows P m (tRows rows rule entry)) (mgEntry P (tEntry rows rule entry)) cond text).toNat 0 = rule.getD (stt rows entry cond text).toNat 0 := by
  have hb : beg (mgEntry P (tEntry rows rule entry)) cond = pt P (beg (tEntry rows rule entry) cond) := by
    unfold beg
    have hl : (mgEntry P (tEntry rows rule entry)).length = (tEntry rows rule entry).length := by simp [mgEntry]
    rw [hl]
    split
    · rename_i hc
      have hcl : cond.toNat < (tEntry rows rule entry).length := by omega
      rw [getD_of (List.getElem?_eq_getElem hcl)]
      refine getD_of ?_
      rw [mgEntry, List.getElem?_map, List.getElem?_eq_getElem hcl]
      rfl
    · exact (hC.pos (t_right h)).1.symm
  have e1 : stt (mgRows P m (tRows rows rule entry)) (mgEntry P (tEntry rows rule entry)) cond text = pt P (stt (tRows rows rule entry) (tEntry rows rule entry) cond text) := by
    unfold stt
    rw [hb]
    exact mg_foldl (t_sz hs h) (t_right h) hC ht (beg_rng (t_right h) cond)
  rw [e1, mg_rul (t_sz hs h) (t_right h) hC (stt_rng (t_sz hs h) (t_right h) cond ht)]
  obtain ⟨e2, e3⟩ := sttT hs h cond ht
  rw [show stt (tRows rows rule entry) (tEntry rows rule entry) cond text = _ from e2]
  exact ruleT h e3
/-- every state of a trim DFA is reached -/
theorem lst_rch (h : Lst rows rule entry) {s : Int} (hr : 0 ≤ s ∧ s < (rows.length : Int)) : Rch rows entry s := by
  have hm : s ∈ kp rows rule entry := by rw [kp_full h.2.1]; exact (rg_upto _).mem.2 hr
  rcases (mem_kp h.1).1 hm with rfl | ⟨q, _⟩
  · exact .zero
  · exact q
theorem fewest_loop {a b : Int} {g : List Int} (hN : 4294967296 ≤ N) (hs : Sz rows rule entry) (h : Rt rows rule entry) (ha : 0 ≤ a ∧ a < (rows.length : Int)) (hb : 0 ≤ b ∧ b < (rows.length : Int)) (hg : Byt g) (hl : g.length < 40000) :
    iterO N (fun s => F_dofferlaw19_HopcroftFewest_l4 N rows rule entry g s.1 s.2.1 s.2.2) (a, b, 0) = some (.inl (g.foldl (nxt rows) a, g.foldl (nxt rows) b)) := by
  have hru := h.ru
  obtain ⟨s, h1, h2, h3⟩ := loop_inv (f := fun s => F_dofferlaw19_HopcroftFewest_l4 N rows rule entry g s.1 s.2.1 s.2.2) (fun i (s : Int × Int) => (s.1, s.2, (i : Int))) (fun s => .inl (s.1, s.2)) g
    (fun i s => s.1 = (g.take i).foldl (nxt rows) a ∧ s.2 = (g.take i).foldl (nxt rows) b) (N := N) (s := (a, b)) (by omega) ⟨rfl, rfl⟩
    (fun i c s hx hI => by
      obtain ⟨x, y⟩ := s
      obtain ⟨k1, k2⟩ := hI
      simp only at k1 k2
      have hi := lt_len hx
      have hc := hg c (List.mem_of_getElem? hx)
      have hxr := foldl_rng hs h (hg.take i) ha
      have hyr := foldl_rng hs h (hg.take i) hb
      rw [← k1] at hxr
      rw [← k2] at hyr
      have x2 := nxt_rng hs h hxr hc
      have y2 := nxt_rng hs h hyr hc
      have ht : g.take (i + 1) = g.take i ++ [c] := by rw [List.take_add_one, hx]; rfl
      refine ⟨(nxt rows x c, nxt rows y c), ?_, ?_, ?_⟩
      · unfold F_dofferlaw19_HopcroftFewest_l4
        simp only [show ((i : Int) < (g.length : Int)) by omega, decide_true, if_true, idx_of hx, next_yes hN hs h hxr hc, next_yes hN hs h hyr hc, show ¬ nxt rows x c < 0 by omega, show ¬ nxt rows y c < 0 by omega, show ¬ nxt rows x c ≥ (rule.length : Int) by omega, show ¬ nxt rows y c ≥ (rule.length : Int) by omega,
          decide_false, Bool.false_eq_true, if_false, bind, Option.bind_some]
        rw [w64_succ (by omega)]
      · rw [ht, List.foldl_append, ← k1]; rfl
      · rw [ht, List.foldl_append, ← k2]; rfl)
    (fun s _ => by unfold F_dofferlaw19_HopcroftFewest_l4; simp)
  rw [List.take_length] at h2 h3
  rw [show iterO N (fun s => F_dofferlaw19_HopcroftFewest_l4 N rows rule entry g s.1 s.2.1 s.2.2) (a, b, 0) = _ from h1, h2, h3]
theorem fewest_pairs (hN : 4294967296 ≤ N) (hs : Sz rows rule entry) (hL : Lst rows rule entry) : iterO N (fun s => F_dofferlaw19_HopcroftFewest_l1 N rows rule entry s) 0 = some (.inl ()) := by
  have h := hL.1
  have hn2 := h.n2
  have hru := h.ru
  refine iterO_for0 (fun i => (i : Int)) rows.length rfl (by omega) (fun i hi => ?_) ?_
  · have inner : iterO N (fun s => F_dofferlaw19_HopcroftFewest_l2 N rows rule entry (i : Int) s) 0 = some (.inl ()) := by
      refine iterO_for0 (fun k => (k : Int)) i rfl (by omega) (fun k hk => ?_) ?_
      · have hir : 0 ≤ (i : Int) ∧ (i : Int) < (rows.length : Int) := by omega
        have hkr : 0 ≤ (k : Int) ∧ (k : Int) < (rows.length : Int) := by omega
        unfold F_dofferlaw19_HopcroftFewest_l2
        simp only [show ((k : Int) < (i : Int)) by omega, decide_true, if_true, bind]
        rcases apart_spec (N := N) hN hs h (a := (i : Int)) (b := (k : Int)) ⟨hir, hkr⟩ with ⟨_, hno⟩ | ⟨g, q1, q2, q3⟩
        · exfalso
          have := (hL.2.2.pt_iff hir hkr).2 (alk_iff.2 hno)
          rw [pt_upto hir, pt_upto hkr] at this
          omega
        · have hx := foldl_rng hs h q2.1.1 hir
          have hy := foldl_rng hs h q2.1.1 hkr
          have hne := q2.1.2
          rw [foldl_nx2] at hne
          simp only [q1, Option.bind_some]
          rw [fewest_loop hN hs h hir hkr q2.1.1 q3]
          generalize g.foldl (nxt rows) (i : Int) = x at *
          generalize g.foldl (nxt rows) (k : Int) = y at *
          have hxl : x.toNat < rule.length := by omega
          have hyl : y.toNat < rule.length := by omega
          have g1 : idx rule x = some (rule.getD x.toNat 0) := by rw [getD_of (List.getElem?_eq_getElem hxl)]; exact idx_int hx.1 hxl
          have g2 : idx rule y = some (rule.getD y.toNat 0) := by rw [getD_of (List.getElem?_eq_getElem hyl)]; exact idx_int hy.1 hyl
          have hb : (rule.getD x.toNat 0 == rule.getD y.toNat 0) = false := beq_eq_false_iff_ne.2 hne
          simp only [g1, g2, hb, Option.bind_some, Bool.false_eq_true, if_false]
          rw [w64_succ (by omega)]
      · unfold F_dofferlaw19_HopcroftFewest_l2
        simp
    unfold F_dofferlaw19_HopcroftFewest_l1
    simp only [show ((i : Int) < (rows.length : Int)) by omega, decide_true, if_true, bind]
    rw [inner]
    simp only [Option.bind_some]
    rw [w64_succ (by omega)]
  · unfold F_dofferlaw19_HopcroftFewest_l1
    simp
theorem hopcroftFewest_of {text : List Int} {cond : Int} (hN : 4294967296 ≤ N) (hw : ∀ r ∈ rows, r.length = 256) (htx : Byt text) : F_dofferlaw19_HopcroftFewest N rows rule entry text cond = some true := by
  unfold F_dofferlaw19_HopcroftFewest
  simp only [alive19_of hN, bind, Option.bind_some, Bool.not_true, Bool.false_eq_true, if_false]
  by_cases g1 : (rows.length : Int) > 14
  · simp [g1]
  by_cases g2 : (text.length : Int) > 50
  · simp [g1, g2]
  obtain ⟨b, hb, hbt⟩ := right_any (rule := rule) (entry := entry) hN hw (by omega)
  simp only [decide_eq_false g1, decide_eq_false g2, Bool.false_eq_true, if_false, hb, Option.bind_some]
  by_cases h : Rt rows rule entry
  case neg =>
    have hbf : b = false := by
      cases b with
      | false => rfl
      | true => exact absurd (hbt.1 rfl) h
    subst hbf
    simp
  obtain rfl := hbt.2 h
  have hs := h.sz hw
  have ht := t_right h
  have hts := t_sz hs h
  obtain ⟨P, m, hC⟩ := cls_ex hts ht
  have hL := least_lst hs h hC
  have hLS := mg_sz hts ht hC
  have hLR := hL.1
  have hlang := fun (text : List Int) (ht : Byt text) => least_lang hs h hC cond (text := text) ht
  simp only [least_spec hN hs h hC, Bool.not_true, Bool.false_eq_true, if_false, Option.bind_some]
  generalize mgRows P m (tRows rows rule entry) = lr at *
  generalize mgRule P m (tRule rows rule entry) = lu at *
  generalize mgEntry P (tEntry rows rule entry) = le at *
  have hlen : (lst (rch lr le) lr.length).length = lr.length := by
    rw [lst_all fun j hj => rch_iff.2 (lst_rch hL (by omega)), upto_len]
  have e1 : (((lst (rch lr le) lr.length).length : Int) != (lr.length : Int)) = false := by rw [hlen]; exact bne_self_eq_false _
  simp only [right_yes hN hLS hLR, Reached_yes hN hLS hLR, e1, Bool.not_true, Bool.false_eq_true, if_false, Option.bind_some]
  have runs : iterO N (fun s => F_dofferlaw19_HopcroftFewest_l0 N rows rule entry text cond lr lu le s) 0 = some (.inl ()) := by
    refine iterO_for0 (fun i => (i : Int)) (text.length + 1) rfl (by omega) (fun i hi => ?_) ?_
    · have hsl : slc text 0 (i : Int) = some (text.take i) := by
        unfold slc
        rw [if_pos (by omega)]
        simp
      have r1 := run_spec hN hLS hLR cond (htx.take i) (by rw [List.length_take]; omega)
      have r2 := run_spec hN hs h cond (htx.take i) (by rw [List.length_take]; omega)
      unfold F_dofferlaw19_HopcroftFewest_l0
      rw [w64_succ (n := text.length) (by omega)]
      simp only [show ((i : Int) < ((text.length + 1 : Nat) : Int)) by omega, decide_true, if_true, hsl, r1, r2, hlang _ (htx.take i), bne_self_eq_false, Bool.false_eq_true, if_false, bind, Option.bind_some]
      rw [w64_succ (by omega)]
    · unfold F_dofferlaw19_HopcroftFewest_l0
      rw [w64_succ (n := text.length) (by omega)]
      simp
  rw [runs]
  simp only [Option.bind_some]
  rw [fewest_pairs hN hLS hL]
  rfl
theorem hopcroftFewest_true {text : List Int} {cond : Int} (hw : ∀ r ∈ rows, r.length = 256) (htx : Byt text) : F_dofferlaw19_HopcroftFewest 4294967296 rows rule entry text cond = some true := hopcroftFewest_of (Nat.le_refl _) hw htx
end
end Go.Proofs.YteiaphkejkgfkaaDoor
