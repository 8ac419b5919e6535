/-
  PLAIN LEAN, no program in sight: what the pure functions answer.
-/
import Derived.Test.YteiaphkejkgfkaaDoorHopcroftAgainP1
namespace Go.Proofs.YteiaphkejkgfkaaDoor
open Go Go.Eng
set_option maxRecDepth 100000
theorem upto_succ (n : Nat) : upto (n + 1) = upto n ++ [(n : Int)] := by simp [upto, List.range_succ]
theorem rg_upto : ∀ m : Nat, RG (upto m) m
  | 0 => .nil
  | m + 1 => by rw [upto_succ]; exact (rg_upto m).new
theorem pt_upto {n : Nat} {s : Int} (h : 0 ≤ s ∧ s < n) : pt (upto n) s = s := by
  have hl : s.toNat < (upto n).length := by rw [upto_len]; omega
  unfold pt
  rw [getD_of (List.getElem?_eq_getElem hl), upto_get]
  omega
section
variable {N : Nat} {rows : List (List Int)} {rule entry P : List Int} {m : Nat}
theorem mgRows_len : (mgRows P m rows).length = m := by simp [mgRows]
theorem mgRule_len : (mgRule P m rule).length = m := by simp [mgRule]
theorem Cls.pos (h : Rt rows rule entry) (hC : Cls rows rule P m) : pt P 0 = 0 ∧ 1 ≤ m := by
  have := hC.len
  have hn := h.n1
  have hf := hC.rg.first (by omega)
  exact ⟨by unfold pt; exact getD_of hf.1, hf.2⟩
/-- each number is a state's -/
theorem Cls.ex (hC : Cls rows rule P m) {v : Int} (hv : 0 ≤ v ∧ v < m) : ∃ s : Int, (0 ≤ s ∧ s < (rows.length : Int)) ∧ pt P s = v := by
  obtain ⟨r1, r2⟩ := hC.rep (v := v.toNat) (by omega)
  exact ⟨_, ⟨by omega, r1⟩, by rw [r2]; omega⟩
theorem mg_sz (hs : Sz rows rule entry) (h : Rt rows rule entry) (hC : Cls rows rule P m) : Sz (mgRows P m rows) (mgRule P m rule) (mgEntry P entry) := by
  have hml := hC.rg.le
  have hl := hC.len
  have hn2 := h.n2
  have he := h.e2
  refine ⟨fun r hr => ?_, by rw [mgRows_len]; omega, by rw [mgRule_len]; omega, by simp only [mgEntry, List.length_map]; omega⟩
  obtain ⟨v, hv, rfl⟩ := List.mem_map.1 hr
  obtain ⟨r1, _⟩ := hC.rep (List.mem_range.1 hv)
  rw [List.length_map]
  have := (row_nxt hs (s := ((P.idxOf (v : Int) : Nat) : Int)) (by omega)).1
  rwa [Int.toNat_natCast] at this
theorem mg_right (hs : Sz rows rule entry) (h : Rt rows rule entry) (hC : Cls rows rule P m) : Rt (mgRows P m rows) (mgRule P m rule) (mgEntry P entry) := by
  have hml := hC.rg.le
  have hl := hC.len
  have hn2 := h.n2
  obtain ⟨h0, h1⟩ := hC.pos h
  have hrow0 := mg_row hs h hC (s := 0) (by have := h.n1; omega)
  rw [h0] at hrow0
  refine ⟨by rw [mgRows_len]; exact h1, by rw [mgRows_len]; omega, by rw [mgRows_len, mgRule_len], by simpa [mgEntry] using h.e1, by simpa [mgEntry] using h.e2, fun r hr x hx => ?_, fun x hx => ?_, fun x hx => ?_, ?_, ?_⟩
  · rw [mgRows_len]
    obtain ⟨v, hv, rfl⟩ := List.mem_map.1 hr
    obtain ⟨r1, _⟩ := hC.rep (List.mem_range.1 hv)
    obtain ⟨y, hy, rfl⟩ := List.mem_map.1 hx
    obtain ⟨row, q1, q2, q3, q4⟩ := row_nat h (i := P.idxOf (v : Int)) (by omega)
    rw [q2] at hy
    exact hC.pt_rng (q4 y hy)
  · obtain ⟨v, hv, rfl⟩ := List.mem_map.1 hx
    obtain ⟨r1, _⟩ := hC.rep (List.mem_range.1 hv)
    have hru := h.ru
    have hrl : P.idxOf (v : Int) < rule.length := by omega
    rw [getD_of (List.getElem?_eq_getElem hrl)]
    exact h.rul _ (List.getElem_mem hrl)
  · rw [mgRows_len]
    obtain ⟨y, hy, rfl⟩ := List.mem_map.1 hx
    exact hC.pt_rng (h.ent y hy)
  · have := hrow0.1
    rw [show ((0 : Int)).toNat = 0 by rfl] at this
    rw [this, getD_of h.r0, List.map_replicate, h0]
  · have := hrow0.2
    rw [show ((0 : Int)).toNat = 0 by rfl] at this
    rw [this, getD_of h.u0]
theorem mg_nxt (hs : Sz rows rule entry) (h : Rt rows rule entry) (hC : Cls rows rule P m) {s c : Int} (hr : 0 ≤ s ∧ s < (rows.length : Int)) (hc : 0 ≤ c ∧ c < 256) : nxt (mgRows P m rows) (pt P s) c = pt P (nxt rows s c) := by
  have h1 := (mg_row hs h hC hr).1
  have h2 := (row_nxt hs hr).2 c.toNat (by omega)
  rw [show ((c.toNat : Nat) : Int) = c by omega] at h2
  show ((mgRows P m rows).getD (pt P s).toNat []).getD c.toNat 0 = _
  rw [getD_of h1]
  refine getD_of ?_
  rw [List.getElem?_map, h2]
  rfl
theorem mg_rul (hs : Sz rows rule entry) (h : Rt rows rule entry) (hC : Cls rows rule P m) {s : Int} (hr : 0 ≤ s ∧ s < (rows.length : Int)) : (mgRule P m rule).getD (pt P s).toNat 0 = rule.getD s.toNat 0 := getD_of (mg_row hs h hC hr).2
theorem foldl_rng (hs : Sz rows rule entry) (h : Rt rows rule entry) : ∀ {t : List Int} {s : Int}, Byt t → 0 ≤ s ∧ s < (rows.length : Int) → 0 ≤ t.foldl (nxt rows) s ∧ t.foldl (nxt rows) s < (rows.length : Int)
  | [], _, _, hr => hr
  | c :: t, s, hb, hr => foldl_rng hs h (t := t) (fun x hx => hb x (by simp [hx])) (nxt_rng hs h hr (hb c (by simp)))
theorem mg_foldl (hs : Sz rows rule entry) (h : Rt rows rule entry) (hC : Cls rows rule P m) : ∀ {t : List Int} {s : Int}, Byt t → 0 ≤ s ∧ s < (rows.length : Int) → t.foldl (nxt (mgRows P m rows)) (pt P s) = pt P (t.foldl (nxt rows) s)
  | [], _, _, _ => rfl
  | c :: t, s, hb, hr => by
    have hc := hb c (by simp)
    rw [List.foldl_cons, List.foldl_cons, mg_nxt hs h hC hr hc]
    exact mg_foldl hs h hC (fun x hx => hb x (by simp [hx])) (nxt_rng hs h hr hc)
theorem mg_alk (hs : Sz rows rule entry) (h : Rt rows rule entry) (hC : Cls rows rule P m) {a b : Int} (ha : 0 ≤ a ∧ a < (rows.length : Int)) (hb : 0 ≤ b ∧ b < (rows.length : Int)) : Alk (mgRows P m rows) (mgRule P m rule) (pt P a) (pt P b) ↔ Alk rows rule a b := by
  unfold Alk
  constructor
  · intro q t ht
    have := q t ht
    rwa [mg_foldl hs h hC ht ha, mg_foldl hs h hC ht hb, mg_rul hs h hC (foldl_rng hs h ht ha), mg_rul hs h hC (foldl_rng hs h ht hb)] at this
  · intro q t ht
    rw [mg_foldl hs h hC ht ha, mg_foldl hs h hC ht hb, mg_rul hs h hC (foldl_rng hs h ht ha), mg_rul hs h hC (foldl_rng hs h ht hb)]
    exact q t ht
theorem cls_upto {n : Nat} (hn : rows.length = n) (hd : ∀ a b : Int, 0 ≤ a ∧ a < (n : Int) → 0 ≤ b ∧ b < (n : Int) → Alk rows rule a b → a = b) : Cls rows rule (upto n) n := by
  refine ⟨rg_upto n, by rw [upto_len, hn], fun i k hi hk => ?_⟩
  have h1 : (upto n)[i]? = some (i : Int) := by rw [List.getElem?_eq_getElem (by rw [upto_len]; omega), upto_get]
  have h2 : (upto n)[k]? = some (k : Int) := by rw [List.getElem?_eq_getElem (by rw [upto_len]; omega), upto_get]
  rw [h1, h2, Option.some.injEq]
  constructor
  · intro q; rw [q]; exact .refl _
  · intro q; exact hd _ _ (by omega) (by omega) q
/-- of the merged one each state is a part -/
theorem mg_cls (hs : Sz rows rule entry) (h : Rt rows rule entry) (hC : Cls rows rule P m) : Cls (mgRows P m rows) (mgRule P m rule) (upto m) m := by
  refine cls_upto mgRows_len fun a b ha hb hk => ?_
  obtain ⟨x, hx, rfl⟩ := hC.ex ha
  obtain ⟨y, hy, rfl⟩ := hC.ex hb
  exact (hC.pt_iff hx hy).2 ((mg_alk hs h hC hx hy).1 hk)
/-- what is of single parts is merged as it is -/
theorem mg_id (hs : Sz rows rule entry) (h : Rt rows rule entry) (hC : Cls rows rule (upto rows.length) rows.length) : mgRows (upto rows.length) rows.length rows = rows ∧ mgRule (upto rows.length) rows.length rule = rule ∧ mgEntry (upto rows.length) entry = entry := by
  obtain ⟨e1, e2⟩ := mg_ext hs h hC (R := rows) (U := rule) rfl h.ru (fun j hj => by
    rw [pt_upto (s := (j : Int)) (by omega), Int.toNat_natCast]
    have hjr : j < rule.length := by have := h.ru; omega
    refine ⟨?_, by rw [getD_of (List.getElem?_eq_getElem hjr)]; exact List.getElem?_eq_getElem hjr⟩
    obtain ⟨row, _, r2, r3, r4⟩ := row_nat h hj
    rw [r2, map_id_of fun x hx => pt_upto (r4 x hx), ← r2, getD_of (List.getElem?_eq_getElem hj)]
    exact List.getElem?_eq_getElem hj)
  exact ⟨e1.symm, e2.symm, map_id_of fun x hx => pt_upto (h.ent x hx)⟩
theorem mg_rch (hs : Sz rows rule entry) (h : Rt rows rule entry) (hC : Cls rows rule P m) {s : Int} (hr : Rch rows entry s) : Rch (mgRows P m rows) (mgEntry P entry) (pt P s) := by
  induction hr with
  | zero => rw [(hC.pos h).1]; exact .zero
  | ent hx => exact .ent (List.mem_map_of_mem hx)
  | @step s y hr hy ih =>
    refine ih.step ?_
    rw [getD_of (mg_row hs h hC (hr.rng h)).1]
    exact List.mem_map_of_mem hy
theorem mg_lv (hs : Sz rows rule entry) (h : Rt rows rule entry) (hC : Cls rows rule P m) {s : Int} (hl : Lv rows rule s) : Lv (mgRows P m rows) (mgRule P m rule) (pt P s) := by
  induction hl with
  | here a b hr =>
    have hp := hC.pt_rng ⟨a, b⟩
    exact .here hp.1 (by rw [mgRows_len]; exact hp.2) (by rw [mg_rul hs h hC ⟨a, b⟩]; exact hr)
  | step a b hy _ ih =>
    have hp := hC.pt_rng ⟨a, b⟩
    refine .step hp.1 (by rw [mgRows_len]; exact hp.2) ?_ ih
    rw [getD_of (mg_row hs h hC ⟨a, b⟩).1]
    exact List.mem_map_of_mem hy
theorem kp_full (hl : (kp rows rule entry).length = rows.length) : kp rows rule entry = upto rows.length := by
  unfold kp at hl ⊢
  refine lst_all fun j hj => ?_
  unfold lst at hl
  rw [List.length_map] at hl
  have := List.length_filter_eq_length_iff.1 (hl.trans List.length_range.symm)
  exact this j (List.mem_range.2 hj)
theorem kp_all (h : Rt rows rule entry) (hk : ∀ x : Int, 0 < x → x < (rows.length : Int) → Rch rows entry x ∧ Lv rows rule x) : (kp rows rule entry).length = rows.length := by
  have : ∀ x ∈ upto rows.length, x ∈ kp rows rule entry := fun x hx => by
    have hr := (rg_upto rows.length).mem.1 hx
    rw [mem_kp h]
    by_cases h0 : x = 0
    · exact .inl h0
    · exact .inr (hk x (by omega) hr.2)
  have hnd : (upto rows.length).Nodup := by
    unfold upto List.Nodup
    rw [List.pairwise_map]
    exact (List.nodup_range (n := rows.length)).imp fun hne q => hne (by omega)
  have h1 := nodup_len hnd this
  rw [upto_len] at h1
  have h2 := (kp_acc (rows := rows) (rule := rule) (entry := entry)).len
  omega
theorem mg_kp (hs : Sz rows rule entry) (h : Rt rows rule entry) (hC : Cls rows rule P m) (hk : (kp rows rule entry).length = rows.length) : (kp (mgRows P m rows) (mgRule P m rule) (mgEntry P entry)).length = (mgRows P m rows).length := by
  refine kp_all (mg_right hs h hC) fun v hv0 hv1 => ?_
  rw [mgRows_len] at hv1
  obtain ⟨s, hs', rfl⟩ := hC.ex (v := v) ⟨by omega, hv1⟩
  have hm : s ∈ kp rows rule entry := by rw [kp_full hk]; exact (rg_upto _).mem.2 hs'
  rcases (mem_kp h).1 hm with rfl | ⟨q1, q2⟩
  · rw [(hC.pos h).1] at hv0; omega
  · exact ⟨mg_rch hs h hC q1, mg_lv hs h hC q2⟩
/-- a least DFA -/
def Lst (rows : List (List Int)) (rule entry : List Int) : Prop := Rt rows rule entry ∧ (kp rows rule entry).length = rows.length ∧ Cls rows rule (upto rows.length) rows.length
/-- trimmed -/
noncomputable abbrev tRows (rows : List (List Int)) (rule entry : List Int) := reRows (kp rows rule entry) rows
noncomputable abbrev tRule (rows : List (List Int)) (rule entry : List Int) := reRule (kp rows rule entry) rule
noncomputable abbrev tEntry (rows : List (List Int)) (rule entry : List Int) := reEntry (kp rows rule entry) entry
theorem t_right (h : Rt rows rule entry) : Rt (tRows rows rule entry) (tRule rows rule entry) (tEntry rows rule entry) := reO_right h kp_acc (kp_zero h)
theorem t_sz (hs : Sz rows rule entry) (h : Rt rows rule entry) : Sz (tRows rows rule entry) (tRule rows rule entry) (tEntry rows rule entry) := reO_sz hs h kp_acc
theorem t_kp (h : Rt rows rule entry) : (kp (tRows rows rule entry) (tRule rows rule entry) (tEntry rows rule entry)).length = (tRows rows rule entry).length := by rw [kp_re h, upto_len]
theorem t_len : (tRows rows rule entry).length = (kp rows rule entry).length := by simp [reRows]
theorem cls_ex (hs : Sz rows rule entry) (h : Rt rows rule entry) : ∃ P m, Cls rows rule P m := by
  obtain ⟨P, m, _, h2⟩ := refParts_spec (N := 4294967296) (Nat.le_refl _) hs h
  exact ⟨P, m, h2⟩
theorem least_spec (hN : 4294967296 ≤ N) (hs : Sz rows rule entry) (h : Rt rows rule entry) (hC : Cls (tRows rows rule entry) (tRule rows rule entry) P m) :
    F_hopcroft_Least N rows rule entry = some (mgRows P m (tRows rows rule entry), mgRule P m (tRule rows rule entry), mgEntry P (tEntry rows rule entry)) := by
  unfold F_hopcroft_Least
  simp only [trim_spec hN hs h, merge_spec hN (t_sz hs h) (t_right h) hC, bind, Option.bind_some]
/-- THE LEAST ONE is least -/
theorem least_lst (hs : Sz rows rule entry) (h : Rt rows rule entry) (hC : Cls (tRows rows rule entry) (tRule rows rule entry) P m) :
    Lst (mgRows P m (tRows rows rule entry)) (mgRule P m (tRule rows rule entry)) (mgEntry P (tEntry rows rule entry)) := by
  refine ⟨mg_right (t_sz hs h) (t_right h) hC, mg_kp (t_sz hs h) (t_right h) hC (t_kp h), ?_⟩
  have := mg_cls (t_sz hs h) (t_right h) hC
  rwa [mgRows_len]
theorem sz_nil : Sz [] [] [] := ⟨fun r hr => by simp at hr, by simp, by simp, by simp⟩
theorem Parts_yes (hN : 4294967296 ≤ N) (hs : Sz rows rule entry) (h : Rt rows rule entry) (hC : Cls rows rule P m) : F_hopcroft_Parts N rows rule entry = some P := by
  obtain ⟨P', m', p1, p2⟩ := parts_spec (N := N) hN hs h
  obtain ⟨rfl, rfl⟩ := p2.uniq hC
  unfold F_hopcroft_Parts
  simp only [right_yes hN hs h, p1, bind, Option.bind_some, Bool.not_true, Bool.false_eq_true, if_false]
end
def prRows : List (List Int) := [List.replicate 256 0, List.replicate 256 2, List.replicate 256 1]
theorem pairs_eq {N : Nat} (hN : 4294967296 ≤ N) : F_dofferlaw19_pairs N = some prRows := by
  unfold F_dofferlaw19_pairs
  rw [show (3 : Int) = ((3 : Nat) : Int) by rfl, mk_eq (by decide)]
  simp only [bind, Option.bind_some]
  obtain ⟨s, h1, r1, r2, h2, h3, h4, h5⟩ := loop_inv (f := fun s => F_dofferlaw19_pairs_l0 N s.1 s.2) (fun c (s : List (List Int)) => (s, (c : Int))) id (List.range 256)
    (fun c s => ∃ r1 r2, s = [List.replicate 256 0, r1, r2] ∧ r1.length = 256 ∧ r2.length = 256 ∧ ∀ j, j < c → r1[j]? = some 2 ∧ r2[j]? = some 1) (N := N) (s := List.replicate 3 (List.replicate 256 0)) (by rw [List.length_range]; omega)
    ⟨List.replicate 256 0, List.replicate 256 0, rfl, List.length_replicate, List.length_replicate, fun j hj => by omega⟩
    (fun c y s hx hI => by
      obtain ⟨hc, rfl⟩ := range_get hx
      obtain ⟨r1, r2, rfl, k1, k2, k3⟩ := hI
      generalize List.replicate 256 (0 : Int) = z
      refine ⟨[z, r1.set y 2, r2.set y 1], ?_, _, _, rfl, by simpa using k1, by simpa using k2, fun j hj => ?_⟩
      · have a1 : y < r1.length := by omega
        have a2 : y < r2.length := by omega
        unfold F_dofferlaw19_pairs_l0
        simp only [show ((y : Int) < 256) by omega, decide_true, if_true, show idx [z, r1, r2] 1 = some r1 by rfl, show idx [z, r1, r2] 2 = some r2 by rfl, idx_nat a1, idx_nat a2, setI_nat a1, setI_nat a2, show setI [z, r1, r2] 1 (r1.set y 2) = some [z, r1.set y 2, r2] by rfl,
          show idx [z, r1.set y 2, r2] 2 = some r2 by rfl, show setI [z, r1.set y 2, r2] 2 (r2.set y 1) = some [z, r1.set y 2, r2.set y 1] by rfl, bind, Option.bind_some]
        rw [w64_succ (by omega)]
      · by_cases hj' : j = y
        · subst hj'
          exact ⟨List.getElem?_set_self (by omega), List.getElem?_set_self (by omega)⟩
        · rw [List.getElem?_set_ne (by omega), List.getElem?_set_ne (by omega)]
          exact k3 j (by omega))
    (fun s _ => by unfold F_dofferlaw19_pairs_l0; simp)
  rw [List.length_range] at h5
  have e1 : r1 = List.replicate 256 2 := List.ext_getElem? fun j => by
    by_cases hj : j < 256
    · rw [(h5 j hj).1, List.getElem?_replicate, if_pos hj]
    · rw [List.getElem?_eq_none (by omega), List.getElem?_eq_none (by rw [List.length_replicate]; omega)]
  have e2 : r2 = List.replicate 256 1 := List.ext_getElem? fun j => by
    by_cases hj : j < 256
    · rw [(h5 j hj).2, List.getElem?_replicate, if_pos hj]
    · rw [List.getElem?_eq_none (by omega), List.getElem?_eq_none (by rw [List.length_replicate]; omega)]
  rw [show iterO N (fun s => F_dofferlaw19_pairs_l0 N s.1 s.2) (List.replicate 3 (List.replicate 256 0), 0) = _ from h1, id, h2, e1, e2]
  rfl
theorem prRow {i : Nat} (hi : i < 3) : prRows[i]? = some (List.replicate 256 (if i = 0 then 0 else if i = 1 then 2 else 1)) := by
  match i, hi with
  | 0, _ => rfl
  | 1, _ => rfl
  | 2, _ => rfl
theorem prNxt {i c : Int} (hi : 0 ≤ i ∧ i < 3) (hc : 0 ≤ c ∧ c < 256) : nxt prRows i c = if i = 0 then 0 else if i = 1 then 2 else 1 := by
  unfold nxt
  rw [getD_of (prRow (i := i.toNat) (by omega))]
  refine getD_of ?_
  rw [List.getElem?_replicate, if_pos (by omega)]
  have e1 : i.toNat = 0 ↔ i = 0 := by omega
  have e2 : i.toNat = 1 ↔ i = 1 := by omega
  simp only [e1, e2]
theorem prRight : Rt prRows [-1, 0, 0] [1] := by
  refine ⟨by decide, by decide, rfl, by decide, by decide, fun r hr x hx => ?_, fun x hx => ?_, fun x hx => ?_, rfl, rfl⟩
  · have : (prRows.length : Int) = 3 := rfl
    rw [this]
    simp only [prRows, List.mem_cons, List.not_mem_nil, or_false] at hr
    rcases hr with rfl | rfl | rfl <;> (have := List.eq_of_mem_replicate hx; omega)
  · simp at hx; omega
  · have : (prRows.length : Int) = 3 := rfl
    simp at hx; omega
theorem prSz : Sz prRows [-1, 0, 0] [1] := ⟨fun r hr => by
  simp only [prRows, List.mem_cons, List.not_mem_nil, or_false] at hr
  rcases hr with rfl | rfl | rfl <;> exact List.length_replicate, by decide, by decide, by decide⟩
theorem prCls : Cls prRows [-1, 0, 0] [0, 1, 1] 2 := by
  have rg : RG [0, 1, 1] 2 := by
    have h1 : RG [0] 1 := RG.nil.new
    have h2 : RG [0, 1] 2 := h1.new
    exact h2.old (by simp)
  have no : ∀ k : Int, k = 1 ∨ k = 2 → ¬ Alk prRows [-1, 0, 0] 0 k := fun k hk q => by
    have := q.rul
    rcases hk with rfl | rfl <;> simp at this
  have yes : ∀ i k : Int, (0 ≤ i ∧ i < 3) → (0 ≤ k ∧ k < 3) → 1 ≤ i ∧ 1 ≤ k → Alk prRows [-1, 0, 0] i k := fun i k hi hk h => by
    refine alk_of (R := fun i k => 1 ≤ i ∧ 1 ≤ k) (n := 3) (fun i k hi hk h => ?_) (fun i c hi hc => ?_) (fun i k c hi hk h hc => ?_) (by omega) (by omega) h
    · have e1 : i = 1 ∨ i = 2 := by omega
      have e2 : k = 1 ∨ k = 2 := by omega
      rcases e1 with rfl | rfl <;> rcases e2 with rfl | rfl <;> rfl
    · rw [prNxt (by omega) hc]
      split
      · omega
      · split <;> omega
    · rw [prNxt (by omega) hc, prNxt (by omega) hc]
      split <;> split <;> first | omega | (split <;> first | omega | (split <;> omega))
  refine ⟨rg, rfl, fun i k hi hk => ?_⟩
  have hi' : i = 0 ∨ i = 1 ∨ i = 2 := by have : prRows.length = 3 := rfl; omega
  have hk' : k = 0 ∨ k = 1 ∨ k = 2 := by have : prRows.length = 3 := rfl; omega
  rcases hi' with rfl | rfl | rfl <;> rcases hk' with rfl | rfl | rfl
  · exact ⟨fun _ => .refl _, fun _ => rfl⟩
  · exact ⟨fun q => by simp at q, fun q => absurd q (no 1 (.inl rfl))⟩
  · exact ⟨fun q => by simp at q, fun q => absurd q (no 2 (.inr rfl))⟩
  · exact ⟨fun q => by simp at q, fun q => absurd q.symm (no 1 (.inl rfl))⟩
  · exact ⟨fun _ => .refl _, fun _ => rfl⟩
  · exact ⟨fun _ => yes _ _ (by decide) (by decide) (by decide), fun _ => rfl⟩
  · exact ⟨fun q => by simp at q, fun q => absurd q.symm (no 2 (.inr rfl))⟩
  · exact ⟨fun _ => yes _ _ (by decide) (by decide) (by decide), fun _ => rfl⟩
  · exact ⟨fun _ => .refl _, fun _ => rfl⟩
theorem alive19_of {N : Nat} (hN : 4294967296 ≤ N) : F_dofferlaw19_alive N = some true := by
  unfold F_dofferlaw19_alive
  simp only [pairs_eq hN, Parts_yes hN prSz prRight prCls, sameInts_spec hN (a := [0, 1, 1]) (by decide), bind, Option.bind_some, decide_true]
end Go.Proofs.YteiaphkejkgfkaaDoor
namespace Go.Proofs.YteiaphkejkgfkaaDoor
open Go Go.Eng
set_option maxRecDepth 100000
section
variable {N : Nat} {rows : List (List Int)} {rule entry P : List Int} {m : Nat}
/-- of a least DFA the least one is it -/
theorem least_same (hN : 4294967296 ≤ N) (hs : Sz rows rule entry) (h : Lst rows rule entry) : F_hopcroft_Least N rows rule entry = some (rows, rule, entry) := by
  obtain ⟨hR, hk, hC⟩ := h
  obtain ⟨e1, e2, e3⟩ := re_upto hR
  obtain ⟨f1, f2, f3⟩ := mg_id hs hR hC
  have hkp := kp_full hk
  unfold F_hopcroft_Least
  simp only [trim_spec hN hs hR, hkp, e1, e2, e3, merge_spec hN hs hR hC, f1, f2, f3, bind, Option.bind_some]
theorem foldlT (hs : Sz rows rule entry) (h : Rt rows rule entry) : ∀ {t : List Int} {s : Int}, Byt t → Rch rows entry s →
    t.foldl (nxt (tRows rows rule entry)) (pl (kp rows rule entry) s) = pl (kp rows rule entry) (t.foldl (nxt rows) s) ∧ Rch rows entry (t.foldl (nxt rows) s)
  | [], _, _, hr => ⟨rfl, hr⟩
  | c :: t, s, hb, hr => by
    have hc := hb c (by simp)
    rw [List.foldl_cons, List.foldl_cons, show nxt (tRows rows rule entry) (pl (kp rows rule entry) s) c = _ from nxtT hs h hr hc]
    exact foldlT hs h (fun x hx => hb x (by simp [hx])) (hr.step (nxt_mem hs (hr.rng h) hc))
/-- trimming leaves alike what is reached and alike -/
theorem t_alk (hs : Sz rows rule entry) (h : Rt rows rule entry) {a b : Int} (ha : Rch rows entry a) (hb : Rch rows entry b) :
    Alk (tRows rows rule entry) (tRule rows rule entry) (pl (kp rows rule entry) a) (pl (kp rows rule entry) b) ↔ Alk rows rule a b := by
  have key : ∀ t, Byt t → ∀ s, Rch rows entry s → (tRule rows rule entry).getD (t.foldl (nxt (tRows rows rule entry)) (pl (kp rows rule entry) s)).toNat 0 = rule.getD (t.foldl (nxt rows) s).toNat 0 := fun t ht s hr => by
    obtain ⟨e1, e2⟩ := foldlT hs h ht hr
    rw [e1]
    exact ruleT h e2
  unfold Alk
  constructor
  · intro q t ht
    rw [← key t ht a ha, ← key t ht b hb]
    exact q t ht
  · intro q t ht
    rw [key t ht a ha, key t ht b hb]
    exact q t ht
/-- the trimmed one has no more parts -/
theorem t_parts {P' : List Int} {m' : Nat} (hs : Sz rows rule entry) (h : Rt rows rule entry) (hC : Cls rows rule P m) (hC' : Cls (tRows rows rule entry) (tRule rows rule entry) P' m') : m' ≤ m := by
  have htl := t_len (rows := rows) (rule := rule) (entry := entry)
  have hA := kp_acc (rows := rows) (rule := rule) (entry := entry)
  -- a kept state of each part
  have rep : ∀ v : Nat, v < m' → ∃ s : Int, s ∈ kp rows rule entry ∧ pt P' (pl (kp rows rule entry) s) = (v : Int) := by
    intro v hv
    obtain ⟨x, hx, hxv⟩ := hC'.ex (v := (v : Int)) (by omega)
    have hl : x.toNat < (kp rows rule entry).length := by omega
    refine ⟨(kp rows rule entry)[x.toNat], List.getElem_mem hl, ?_⟩
    rw [pl_get hA.nd hl, show ((x.toNat : Nat) : Int) = x by omega]
    exact hxv
  have rch : ∀ s : Int, s ∈ kp rows rule entry → Rch rows entry s := fun s hm => by
    rcases (mem_kp h).1 hm with rfl | ⟨q, _⟩
    · exact .zero
    · exact q
  let f : Nat → Int := fun v => if hv : v < m' then pt P (Classical.choose (rep v hv)) else 0
  have hf : ∀ v, v < m' → ∃ s : Int, s ∈ kp rows rule entry ∧ pt P' (pl (kp rows rule entry) s) = (v : Int) ∧ f v = pt P s := fun v hv =>
    ⟨_, (Classical.choose_spec (rep v hv)).1, (Classical.choose_spec (rep v hv)).2, by simp [f, hv]⟩
  have hnd : ((List.range m').map f).Nodup := by
    unfold List.Nodup
    rw [List.pairwise_map]
    refine List.Pairwise.imp_of_mem (fun {a b} ha hb hne he => hne ?_) (List.nodup_range (n := m'))
    obtain ⟨s, s1, s2, s3⟩ := hf a (List.mem_range.1 ha)
    obtain ⟨u, u1, u2, u3⟩ := hf b (List.mem_range.1 hb)
    rw [s3, u3] at he
    have hk := (t_alk hs h (rch s s1) (rch u u1)).2 ((hC.pt_iff ((rch s s1).rng h) ((rch u u1).rng h)).1 he)
    have rng : ∀ z : Int, 0 ≤ pl (kp rows rule entry) z ∧ pl (kp rows rule entry) z < ((tRows rows rule entry).length : Int) := fun z => by
      rw [htl]
      exact pl_rng (List.length_pos_of_mem s1)
    have := (hC'.pt_iff (rng s) (rng u)).2 hk
    omega
  have hsub : ∀ x ∈ (List.range m').map f, x ∈ upto m := fun x hx => by
    obtain ⟨v, hv, rfl⟩ := List.mem_map.1 hx
    obtain ⟨s, s1, _, s3⟩ := hf v (List.mem_range.1 hv)
    rw [s3]
    exact (rg_upto m).mem.2 (hC.pt_rng ((rch s s1).rng h))
  have := nodup_len hnd hsub
  rw [upto_len, List.length_map, List.length_range] at this
  exact this
theorem again_row (hN : 4294967296 ≤ N) (hs : Sz rows rule entry) (h : Rt rows rule entry) (hC : Cls rows rule P m) {i : Nat} {row : List Int} (hi : i < rows.length) (hr : rows[i]? = some row) :
    iterO N (fun s => F_dofferlaw19_HopcroftAgain_l1 N (mgRows P m rows) P (pt P (i : Int)) row s) 0 = some (.inl ()) := by
  have hm := List.mem_of_getElem? hr
  have hw := hs.w row hm
  have hir : 0 ≤ (i : Int) ∧ (i : Int) < (rows.length : Int) := by omega
  have hp := hC.pt_rng hir
  have hPl := hC.len
  have hn2 := h.n2
  have hmr := (mg_row hs h hC hir).1
  rw [Int.toNat_natCast, getD_of hr] at hmr
  have gm : idx (mgRows P m rows) (pt P (i : Int)) = some (row.map (pt P)) := by
    have := idx_of hmr
    rwa [show (((pt P (i : Int)).toNat : Nat) : Int) = pt P (i : Int) by omega] at this
  refine iterO_for0 (fun c => (c : Int)) 256 rfl (by omega) (fun c hc => ?_) ?_
  · have hcl : c < row.length := by omega
    have hx : row[c]? = some row[c] := List.getElem?_eq_getElem hcl
    have hyr := h.row row hm row[c] (List.getElem_mem hcl)
    generalize row[c] = y at hx hyr
    have gy := pt_idx hPl hyr
    have gx : idx (row.map (pt P)) (c : Int) = some (pt P y) := idx_of (by rw [List.getElem?_map, hx]; rfl)
    unfold F_dofferlaw19_HopcroftAgain_l1
    simp only [show ((c : Int) < 256) by omega, decide_true, if_true, idx_of hx, show ¬ y < 0 by omega, show ¬ y ≥ (P.length : Int) by omega, decide_false, Bool.false_eq_true, if_false, gm, gx, gy, bne_self_eq_false, bind, Option.bind_some]
    rw [w64_succ (by omega)]
  · unfold F_dofferlaw19_HopcroftAgain_l1
    simp
theorem hopcroftAgain_of (hN : 4294967296 ≤ N) (hw : ∀ r ∈ rows, r.length = 256) : F_dofferlaw19_HopcroftAgain N rows rule entry = some true := by
  unfold F_dofferlaw19_HopcroftAgain
  simp only [alive19_of hN, bind, Option.bind_some, Bool.not_true, Bool.false_eq_true, if_false]
  by_cases g1 : (rows.length : Int) > 20
  · simp [g1]
  obtain ⟨b, hb, hbt⟩ := right_any (rule := rule) (entry := entry) hN hw (by omega)
  simp only [decide_eq_false g1, Bool.false_eq_true, if_false, hb, Option.bind_some]
  by_cases h : Rt rows rule entry
  case neg =>
    have hbf : b = false := by
      cases b with
      | false => rfl
      | true => exact absurd (hbt.1 rfl) h
    subst hbf
    simp
  obtain rfl := hbt.2 h
  have hs := h.sz hw
  have ht := t_right h
  have hts := t_sz hs h
  obtain ⟨P, m, hC⟩ := cls_ex hs h
  obtain ⟨P', m', hC'⟩ := cls_ex hts ht
  have hmR := mg_right hs h hC
  have hmS := mg_sz hs h hC
  have hmC := mg_cls hs h hC
  have hL := least_lst hs h hC'
  have hLS := mg_sz hts ht hC'
  have hml := hC.rg.le
  have hPl := hC.len
  have hle := t_parts hs h hC hC'
  have hid := mg_id hmS hmR (by rw [mgRows_len]; exact hmC)
  rw [mgRows_len] at hid
  have m1 : F_hopcroft_Merge N (mgRows P m rows) (mgRule P m rule) (mgEntry P entry) = some (mgRows P m rows, mgRule P m rule, mgEntry P entry) := by
    rw [merge_spec hN hmS hmR hmC, hid.1, hid.2.1, hid.2.2]
  have l1 := least_same hN hLS hL
  have loop : iterO N (fun s => F_dofferlaw19_HopcroftAgain_l0 N rows rule (mgRows P m rows) (mgRule P m rule) P s) 0 = some (.inl ()) := by
    refine iterO_for0 (fun c => (c : Int)) P.length rfl (by have := h.n2; omega) (fun i hi => ?_) ?_
    · have hir : 0 ≤ (i : Int) ∧ (i : Int) < (rows.length : Int) := by omega
      have hp := hC.pt_rng hir
      have gi := pt_idx hPl hir
      have hrl : i < rule.length := by have := h.ru; omega
      have gr : idx rule (i : Int) = some (rule.getD i 0) := by rw [getD_of (List.getElem?_eq_getElem hrl)]; exact idx_nat hrl
      have gm : idx (mgRule P m rule) (pt P (i : Int)) = some (rule.getD i 0) := by
        have := idx_of (mg_row hs h hC hir).2
        rwa [show (((pt P (i : Int)).toNat : Nat) : Int) = pt P (i : Int) by omega, Int.toNat_natCast] at this
      obtain ⟨row, r1, r2, r3, r4⟩ := row_nat h (show i < rows.length by omega)
      have hro : rows[i]? = some row := by
        have hil : i < rows.length := by omega
        rw [getD_of (List.getElem?_eq_getElem hil)] at r2
        rw [← r2]
        exact List.getElem?_eq_getElem hil
      unfold F_dofferlaw19_HopcroftAgain_l0
      simp only [show ((i : Int) < (P.length : Int)) by omega, decide_true, if_true, gi, show ¬ pt P (i : Int) < 0 by omega, mgRows_len, show ¬ pt P (i : Int) ≥ (m : Int) by omega, decide_false, Bool.false_eq_true, if_false, gr, gm, r1, bne_self_eq_false, bind, Option.bind_some]
      rw [again_row hN hs h hC (by omega) hro]
      simp only [Option.bind_some]
      rw [w64_succ (by have := h.n2; omega)]
    · unfold F_dofferlaw19_HopcroftAgain_l0
      simp
  have e1 : ((P.length : Int) != (rows.length : Int)) = false := by rw [hPl]; exact bne_self_eq_false _
  simp only [merge_spec hN hs h hC, least_spec hN hs h hC', m1, l1, same_self hN hmS, same_self hN hLS, Parts_yes hN hs h hC, mgRows_len, mgRule_len, e1, bne_self_eq_false, show ¬ ((m' : Int) > (m : Int)) by omega, show ¬ ((m : Int) > (rows.length : Int)) by omega, decide_false, Bool.not_true, Bool.false_eq_true, if_false, Option.bind_some]
  rw [loop]
  rfl
theorem hopcroftAgain_true (hw : ∀ r ∈ rows, r.length = 256) : F_dofferlaw19_HopcroftAgain 4294967296 rows rule entry = some true := hopcroftAgain_of (Nat.le_refl _) hw
end
end Go.Proofs.YteiaphkejkgfkaaDoor
