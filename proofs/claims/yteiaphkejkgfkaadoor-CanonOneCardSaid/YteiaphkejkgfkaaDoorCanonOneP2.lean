/-
  PLAIN LEAN, no program in sight: what the pure functions answer.
-/
import Derived.Test.YteiaphkejkgfkaaDoorCanonOneP1
namespace Go.Proofs.YteiaphkejkgfkaaDoor
open Go Go.Eng
set_option maxRecDepth 100000
theorem RG.take {P : List Int} {m : Nat} (h : RG P m) : ∀ i, ∃ k, RG (P.take i) k := by
  induction h with
  | nil => intro i; exact ⟨0, by simpa using RG.nil⟩
  | @old P m x h hx ih =>
    intro i
    by_cases hi : i ≤ P.length
    · rw [List.take_append_of_le_length hi]; exact ih i
    · rw [List.take_of_length_le (by simp; omega)]
      exact ⟨m, h.old hx⟩
  | @new P m h ih =>
    intro i
    by_cases hi : i ≤ P.length
    · rw [List.take_append_of_le_length hi]; exact ih i
    · rw [List.take_of_length_le (by simp; omega)]
      exact ⟨m + 1, h.new⟩
def mgRows (P : List Int) (m : Nat) (rows : List (List Int)) : List (List Int) := (List.range m).map fun (v : Nat) => (rows.getD (P.idxOf (v : Int)) []).map (pt P)
def mgRule (P : List Int) (m : Nat) (rule : List Int) : List Int := (List.range m).map fun (v : Nat) => rule.getD (P.idxOf (v : Int)) 0
def mgEntry (P entry : List Int) : List Int := entry.map (pt P)
section
variable {N : Nat} {rows : List (List Int)} {rule entry P : List Int} {m : Nat}
theorem Cls.pt_rng (hC : Cls rows rule P m) {s : Int} (hs : 0 ≤ s ∧ s < (rows.length : Int)) : 0 ≤ pt P s ∧ pt P s < m := by
  have hl : s.toNat < P.length := by have := hC.len; omega
  unfold pt
  rw [getD_of (List.getElem?_eq_getElem hl)]
  exact hC.rg.mem.1 (List.getElem_mem hl)
theorem Cls.pt_iff (hC : Cls rows rule P m) {a b : Int} (ha : 0 ≤ a ∧ a < (rows.length : Int)) (hb : 0 ≤ b ∧ b < (rows.length : Int)) : pt P a = pt P b ↔ Alk rows rule a b := by
  have hl : a.toNat < P.length := by have := hC.len; omega
  have hl' : b.toNat < P.length := by have := hC.len; omega
  have := hC.iff_ a.toNat b.toNat (by omega) (by omega)
  rw [show ((a.toNat : Nat) : Int) = a by omega, show ((b.toNat : Nat) : Int) = b by omega, List.getElem?_eq_getElem hl, List.getElem?_eq_getElem hl', Option.some.injEq] at this
  unfold pt
  rw [getD_of (List.getElem?_eq_getElem hl), getD_of (List.getElem?_eq_getElem hl')]
  exact this
/-- each number is a state's -/
theorem Cls.rep (hC : Cls rows rule P m) {v : Nat} (hv : v < m) : ((P.idxOf (v : Int) : Nat) : Int) < (rows.length : Int) ∧ pt P ((P.idxOf (v : Int) : Nat) : Int) = (v : Int) := by
  have hm : (v : Int) ∈ P := hC.rg.mem.2 (by omega)
  have hl := List.idxOf_lt_length_of_mem hm
  have hlen := hC.len
  refine ⟨by omega, ?_⟩
  unfold pt
  rw [Int.toNat_natCast, getD_of (List.getElem?_eq_getElem hl)]
  exact List.getElem_idxOf hl
theorem row_nxt (hs : Sz rows rule entry) {s : Int} (hr : 0 ≤ s ∧ s < (rows.length : Int)) : (rows.getD s.toNat []).length = 256 ∧ ∀ c : Nat, c < 256 → (rows.getD s.toNat [])[c]? = some (nxt rows s (c : Int)) := by
  have hl : s.toNat < rows.length := by omega
  have hw := hs.w _ (List.getElem_mem hl)
  have e : rows.getD s.toNat [] = rows[s.toNat] := getD_of (List.getElem?_eq_getElem hl)
  refine ⟨by rw [e]; exact hw, fun c hc => ?_⟩
  have hcl : c < rows[s.toNat].length := by omega
  unfold nxt
  rw [Int.toNat_natCast, e, getD_of (List.getElem?_eq_getElem hcl)]
  exact List.getElem?_eq_getElem hcl
/-- alike states have rows of the same parts, and one rule -/
theorem Cls.same (hs : Sz rows rule entry) (h : Rt rows rule entry) (hC : Cls rows rule P m) {a b : Int} (ha : 0 ≤ a ∧ a < (rows.length : Int)) (hb : 0 ≤ b ∧ b < (rows.length : Int)) (he : pt P a = pt P b) :
    (rows.getD a.toNat []).map (pt P) = (rows.getD b.toNat []).map (pt P) ∧ rule.getD a.toNat 0 = rule.getD b.toNat 0 := by
  have hk := (hC.pt_iff ha hb).1 he
  refine ⟨List.ext_getElem? fun c => ?_, hk.rul⟩
  obtain ⟨a1, a2⟩ := row_nxt hs ha
  obtain ⟨b1, b2⟩ := row_nxt hs hb
  by_cases hc : c < 256
  · rw [List.getElem?_map, List.getElem?_map, a2 c hc, b2 c hc]
    have := (hC.pt_iff (nxt_rng hs h ha (c := (c : Int)) (by omega)) (nxt_rng hs h hb (c := (c : Int)) (by omega))).2 (hk.step (by omega))
    simp [this]
  · rw [List.getElem?_eq_none (by rw [List.length_map]; omega), List.getElem?_eq_none (by rw [List.length_map]; omega)]
theorem mg_row (hs : Sz rows rule entry) (h : Rt rows rule entry) (hC : Cls rows rule P m) {s : Int} (hr : 0 ≤ s ∧ s < (rows.length : Int)) :
    (mgRows P m rows)[(pt P s).toNat]? = some ((rows.getD s.toNat []).map (pt P)) ∧ (mgRule P m rule)[(pt P s).toNat]? = some (rule.getD s.toNat 0) := by
  have hp := hC.pt_rng hr
  have hv : (pt P s).toNat < m := by omega
  obtain ⟨r1, r2⟩ := hC.rep hv
  have := hC.same hs h (a := ((P.idxOf (((pt P s).toNat : Nat) : Int) : Nat) : Int)) (b := s) (by omega) hr (by rw [r2]; omega)
  rw [Int.toNat_natCast] at this
  unfold mgRows mgRule
  rw [List.getElem?_map, List.getElem?_map, List.getElem?_range hv]
  simp only [Option.map_some]
  exact ⟨by rw [this.1], by rw [this.2]⟩
theorem mg_ext (hs : Sz rows rule entry) (h : Rt rows rule entry) (hC : Cls rows rule P m) {R : List (List Int)} {U : List Int} (hR : R.length = m) (hU : U.length = m)
    (hh : ∀ j : Nat, j < rows.length → R[(pt P (j : Int)).toNat]? = some ((rows.getD j []).map (pt P)) ∧ U[(pt P (j : Int)).toNat]? = some (rule.getD j 0)) : R = mgRows P m rows ∧ U = mgRule P m rule := by
  have key : ∀ v, v < m → R[v]? = (mgRows P m rows)[v]? ∧ U[v]? = (mgRule P m rule)[v]? := by
    intro v hv
    obtain ⟨r1, r2⟩ := hC.rep hv
    have h1 := hh (P.idxOf (v : Int)) (by omega)
    have h2 := mg_row hs h hC (s := ((P.idxOf (v : Int) : Nat) : Int)) (by omega)
    rw [r2, Int.toNat_natCast] at h1 h2
    rw [Int.toNat_natCast] at h2
    exact ⟨h1.1.trans h2.1.symm, h1.2.trans h2.2.symm⟩
  refine ⟨List.ext_getElem? fun v => ?_, List.ext_getElem? fun v => ?_⟩
  · by_cases hv : v < m
    · exact (key v hv).1
    · rw [List.getElem?_eq_none (by omega), List.getElem?_eq_none (by simp [mgRows]; omega)]
  · by_cases hv : v < m
    · exact (key v hv).2
    · rw [List.getElem?_eq_none (by omega), List.getElem?_eq_none (by simp [mgRule]; omega)]
/-- a row is put -/
theorem merge_row {row : List Int} {R : List (List Int)} {p : Nat} (hN : 4294967296 ≤ N) (hp : p < R.length) (hR : ∀ r ∈ R, r.length = 256) (hw : row.length = 256) (hr : ∀ y ∈ row, 0 ≤ y ∧ y < (P.length : Int)) :
    iterO N (fun s => F_hopcroft_Merge_l1 N P (p : Int) row s.1 s.2) (0, R) = some (R.set p (row.map (pt P))) := by
  obtain ⟨S, h1, h2, h3, h4⟩ := loop_inv (f := fun s => F_hopcroft_Merge_l1 N P (p : Int) row s.1 s.2) (fun c (s : List (List Int)) => ((c : Int), s)) id row
    (fun c s => s.length = R.length ∧ (∀ q, q ≠ p → s[q]? = R[q]?) ∧ ∃ r, s[p]? = some r ∧ r.length = 256 ∧ ∀ c', c' < c → r[c']? = (row.map (pt P))[c']?) (N := N) (s := R) (by omega)
    ⟨rfl, fun q _ => rfl, R[p], List.getElem?_eq_getElem hp, hR _ (List.getElem_mem hp), fun c' hc => by omega⟩
    (fun c y s hx hI => by
      obtain ⟨k1, k2, r, k3, k4, k5⟩ := hI
      have hc := lt_len hx
      have hyr := hr y (List.mem_of_getElem? hx)
      have hps : p < s.length := by omega
      have hcr : c < r.length := by omega
      have gy := pt_idx (part := P) (n := P.length) rfl hyr
      refine ⟨s.set p (r.set c (pt P y)), ?_, by simpa using k1, fun q hq => ?_, r.set c (pt P y), List.getElem?_set_self hps, by simpa using k4, fun c' hc' => ?_⟩
      · unfold F_hopcroft_Merge_l1
        simp only [show ((c : Int) < 256) by omega, decide_true, if_true, idx_of hx, gy, idx_of k3, idx_nat hcr, setI_nat hcr, setI_nat hps, bind, Option.bind_some]
        rw [w64_succ (by omega)]
      · rw [List.getElem?_set_ne (by omega)]; exact k2 q hq
      · by_cases he : c' = c
        · subst he
          rw [List.getElem?_set_self hcr, List.getElem?_map, hx]
          rfl
        · rw [List.getElem?_set_ne (by omega)]; exact k5 c' (by omega))
    (fun s _ => by unfold F_hopcroft_Merge_l1; simp [hw])
  rw [show iterO N (fun s => F_hopcroft_Merge_l1 N P (p : Int) row s.1 s.2) (0, R) = _ from h1, id]
  obtain ⟨r, h5, h6, h7⟩ := h4
  have hr' : r = row.map (pt P) := List.ext_getElem? fun c => by
    by_cases hc : c < 256
    · exact h7 c (by omega)
    · rw [List.getElem?_eq_none (by omega), List.getElem?_eq_none (by simp; omega)]
  congr 1
  refine List.ext_getElem? fun q => ?_
  by_cases hq : q = p
  · subst hq
    rw [h5, List.getElem?_set_self hp, hr']
  · rw [h3 q hq, List.getElem?_set_ne (by omega)]
theorem merge_spec (hN : 4294967296 ≤ N) (hs : Sz rows rule entry) (h : Rt rows rule entry) (hC : Cls rows rule P m) : F_hopcroft_Merge N rows rule entry = some (mgRows P m rows, mgRule P m rule, mgEntry P entry) := by
  have hn2 := h.n2
  have hru := h.ru
  have he2 := h.e2
  obtain ⟨P', m', p1, p2⟩ := parts_spec (N := N) hN hs h
  obtain ⟨rfl, rfl⟩ := p2.uniq hC
  have hml := hC.rg.le
  have hPl := hC.len
  unfold F_hopcroft_Merge
  simp only [right_yes hN hs h, p1, Bool.not_true, Bool.false_eq_true, if_false, bind, Option.bind_some]
  rw [mk_eq (by omega)]
  simp only [Option.bind_some]
  rw [mk_eq (by omega)]
  simp only [Option.bind_some]
  obtain ⟨s, h1, h2, h3, h4, h5⟩ := loop_inv (f := fun s => F_hopcroft_Merge_l0 N rows rule P' s.1 s.2.1 s.2.2) (fun i (s : List (List Int) × List Int) => ((i : Int), s.1, s.2)) (fun s => (s.1, s.2)) P'
    (fun i s => s.1.length = m' ∧ s.2.length = m' ∧ (∀ r ∈ s.1, r.length = 256) ∧ ∀ j : Nat, j < i → s.1[(pt P' (j : Int)).toNat]? = some ((rows.getD j []).map (pt P')) ∧ s.2[(pt P' (j : Int)).toNat]? = some (rule.getD j 0))
    (N := N) (s := (List.replicate m' (List.replicate 256 0), List.replicate m' 0)) (by omega) ⟨by simp, by simp, fun r hr => by rw [List.eq_of_mem_replicate hr]; exact List.length_replicate, fun j hj => by omega⟩
    (fun i p s hx hI => by
      obtain ⟨R, U⟩ := s
      obtain ⟨k1, k2, k3, k4⟩ := hI
      simp only at k1 k2 k3 k4
      have hi := lt_len hx
      have hir : 0 ≤ (i : Int) ∧ (i : Int) < (rows.length : Int) := by omega
      have hpi : pt P' (i : Int) = p := by unfold pt; rw [Int.toNat_natCast]; exact getD_of hx
      have hpr := hC.pt_rng hir
      rw [hpi] at hpr
      obtain ⟨pn, rfl⟩ : ∃ pn : Nat, p = (pn : Int) := ⟨p.toNat, by omega⟩
      obtain ⟨row, r1, r2, r3, r4⟩ := row_nat h (show i < rows.length by omega)
      have hmr := merge_row (N := N) (P := P') (p := pn) (R := R) (row := row) hN (by omega) k3 (hs.w row r3) (fun y hy => by have := r4 y hy; omega)
      have gr : idx rule (i : Int) = some (rule.getD i 0) := by rw [getD_of (List.getElem?_eq_getElem (show i < rule.length by omega))]; exact idx_nat _
      have hpU : pn < U.length := by omega
      refine ⟨(R.set pn (row.map (pt P')), U.set pn (rule.getD i 0)), ?_, by simpa using k1, by simpa using k2, fun r hr => ?_, fun j hj => ?_⟩
      · unfold F_hopcroft_Merge_l0
        simp only [show ((i : Int) < (P'.length : Int)) by omega, decide_true, if_true, idx_of hx, r1, bind, Option.bind_some]
        rw [hmr]
        simp only [gr, idx_nat hpU, setI_nat hpU, Option.bind_some]
        rw [w64_succ (by omega)]
      · rcases List.mem_or_eq_of_mem_set hr with hr | rfl
        · exact k3 r hr
        · rw [List.length_map]; exact hs.w row r3
      · have hjr : 0 ≤ (j : Int) ∧ (j : Int) < (rows.length : Int) := by omega
        have hpj := hC.pt_rng hjr
        by_cases he : pt P' (j : Int) = (pn : Int)
        · have := hC.same hs h hjr hir (he.trans hpi.symm)
          rw [Int.toNat_natCast, Int.toNat_natCast, r2] at this
          rw [he, Int.toNat_natCast, List.getElem?_set_self (by omega), List.getElem?_set_self hpU, this.1, this.2]
          exact ⟨rfl, rfl⟩
        · rw [List.getElem?_set_ne (by omega), List.getElem?_set_ne (by omega)]
          refine k4 j ?_
          by_cases hji : j = i
          · subst hji; exact absurd hpi he
          · omega)
    (fun s _ => by unfold F_hopcroft_Merge_l0; simp)
  rw [show iterO N (fun s => F_hopcroft_Merge_l0 N rows rule P' s.1 s.2.1 s.2.2) (0, List.replicate m' (List.replicate 256 0), List.replicate m' 0) = _ from h1]
  simp only [Option.bind_some]
  obtain ⟨e1, e2⟩ := mg_ext hs h hC h2 h3 (fun j hj => h5 j (by omega))
  obtain ⟨E, q1, q2⟩ := loop_inv (f := fun s => F_hopcroft_Merge_l2 N entry P' s.1 s.2) (fun i (s : List Int) => (s, (i : Int))) id entry (fun i s => s = (entry.take i).map (pt P')) (N := N) (s := []) (by omega) (by simp)
    (fun i y s hx hI => by
      have hi := lt_len hx
      have hyr := h.ent y (List.mem_of_getElem? hx)
      have gy := pt_idx (part := P') hPl hyr
      have hsl : s.length = i := by rw [hI, List.length_map, List.length_take]; omega
      refine ⟨s ++ [pt P' y], ?_, by rw [hI, List.take_add_one, hx, List.map_append]; rfl⟩
      unfold F_hopcroft_Merge_l2
      simp only [show ((i : Int) < (entry.length : Int)) by omega, decide_true, if_true, idx_of hx, gy, bind, Option.bind_some]
      rw [app_eq (by rw [List.length_singleton]; omega)]
      simp only [Option.bind_some]
      rw [w64_succ (by omega)])
    (fun s _ => by unfold F_hopcroft_Merge_l2; simp)
  rw [List.take_length] at q2
  rw [show iterO N (fun s => F_hopcroft_Merge_l2 N entry P' s.1 s.2) ([], 0) = _ from q1, e1, e2, q2]
  rfl
end
end Go.Proofs.YteiaphkejkgfkaaDoor
namespace Go.Proofs.YteiaphkejkgfkaaDoor
open Go Go.Eng
set_option maxRecDepth 100000
theorem upto_succ (n : Nat) : upto (n + 1) = upto n ++ [(n : Int)] := by simp [upto, List.range_succ]
theorem rg_upto : ∀ m : Nat, RG (upto m) m
  | 0 => .nil
  | m + 1 => by rw [upto_succ]; exact (rg_upto m).new
theorem pt_upto {n : Nat} {s : Int} (h : 0 ≤ s ∧ s < n) : pt (upto n) s = s := by
  have hl : s.toNat < (upto n).length := by rw [upto_len]; omega
  unfold pt
  rw [getD_of (List.getElem?_eq_getElem hl), upto_get]
  omega
section
variable {N : Nat} {rows : List (List Int)} {rule entry P : List Int} {m : Nat}
theorem mgRows_len : (mgRows P m rows).length = m := by simp [mgRows]
theorem mgRule_len : (mgRule P m rule).length = m := by simp [mgRule]
theorem Cls.pos (h : Rt rows rule entry) (hC : Cls rows rule P m) : pt P 0 = 0 ∧ 1 ≤ m := by
  have := hC.len
  have hn := h.n1
  have hf := hC.rg.first (by omega)
  exact ⟨by unfold pt; exact getD_of hf.1, hf.2⟩
/-- each number is a state's -/
theorem Cls.ex (hC : Cls rows rule P m) {v : Int} (hv : 0 ≤ v ∧ v < m) : ∃ s : Int, (0 ≤ s ∧ s < (rows.length : Int)) ∧ pt P s = v := by
  obtain ⟨r1, r2⟩ := hC.rep (v := v.toNat) (by omega)
  exact ⟨_, ⟨by omega, r1⟩, by rw [r2]; omega⟩
theorem mg_sz (hs : Sz rows rule entry) (h : Rt rows rule entry) (hC : Cls rows rule P m) : Sz (mgRows P m rows) (mgRule P m rule) (mgEntry P entry) := by
  have hml := hC.rg.le
  have hl := hC.len
  have hn2 := h.n2
  have he := h.e2
  refine ⟨fun r hr => ?_, by rw [mgRows_len]; omega, by rw [mgRule_len]; omega, by simp only [mgEntry, List.length_map]; omega⟩
  obtain ⟨v, hv, rfl⟩ := List.mem_map.1 hr
  obtain ⟨r1, _⟩ := hC.rep (List.mem_range.1 hv)
  rw [List.length_map]
  have := (row_nxt hs (s := ((P.idxOf (v : Int) : Nat) : Int)) (by omega)).1
  rwa [Int.toNat_natCast] at this
theorem mg_right (hs : Sz rows rule entry) (h : Rt rows rule entry) (hC : Cls rows rule P m) : Rt (mgRows P m rows) (mgRule P m rule) (mgEntry P entry) := by
  have hml := hC.rg.le
  have hl := hC.len
  have hn2 := h.n2
  obtain ⟨h0, h1⟩ := hC.pos h
  have hrow0 := mg_row hs h hC (s := 0) (by have := h.n1; omega)
  rw [h0] at hrow0
  refine ⟨by rw [mgRows_len]; exact h1, by rw [mgRows_len]; omega, by rw [mgRows_len, mgRule_len], by simpa [mgEntry] using h.e1, by simpa [mgEntry] using h.e2, fun r hr x hx => ?_, fun x hx => ?_, fun x hx => ?_, ?_, ?_⟩
  · rw [mgRows_len]
    obtain ⟨v, hv, rfl⟩ := List.mem_map.1 hr
    obtain ⟨r1, _⟩ := hC.rep (List.mem_range.1 hv)
    obtain ⟨y, hy, rfl⟩ := List.mem_map.1 hx
    obtain ⟨row, q1, q2, q3, q4⟩ := row_nat h (i := P.idxOf (v : Int)) (by omega)
    rw [q2] at hy
    exact hC.pt_rng (q4 y hy)
  · obtain ⟨v, hv, rfl⟩ := List.mem_map.1 hx
    obtain ⟨r1, _⟩ := hC.rep (List.mem_range.1 hv)
    have hru := h.ru
    have hrl : P.idxOf (v : Int) < rule.length := by omega
    rw [getD_of (List.getElem?_eq_getElem hrl)]
    exact h.rul _ (List.getElem_mem hrl)
  · rw [mgRows_len]
    obtain ⟨y, hy, rfl⟩ := List.mem_map.1 hx
    exact hC.pt_rng (h.ent y hy)
  · have := hrow0.1
    rw [show ((0 : Int)).toNat = 0 by rfl] at this
    rw [this, getD_of h.r0, List.map_replicate, h0]
  · have := hrow0.2
    rw [show ((0 : Int)).toNat = 0 by rfl] at this
    rw [this, getD_of h.u0]
theorem mg_nxt (hs : Sz rows rule entry) (h : Rt rows rule entry) (hC : Cls rows rule P m) {s c : Int} (hr : 0 ≤ s ∧ s < (rows.length : Int)) (hc : 0 ≤ c ∧ c < 256) : nxt (mgRows P m rows) (pt P s) c = pt P (nxt rows s c) := by
  have h1 := (mg_row hs h hC hr).1
  have h2 := (row_nxt hs hr).2 c.toNat (by omega)
  rw [show ((c.toNat : Nat) : Int) = c by omega] at h2
  show ((mgRows P m rows).getD (pt P s).toNat []).getD c.toNat 0 = _
  rw [getD_of h1]
  refine getD_of ?_
  rw [List.getElem?_map, h2]
  rfl
theorem mg_rul (hs : Sz rows rule entry) (h : Rt rows rule entry) (hC : Cls rows rule P m) {s : Int} (hr : 0 ≤ s ∧ s < (rows.length : Int)) : (mgRule P m rule).getD (pt P s).toNat 0 = rule.getD s.toNat 0 := getD_of (mg_row hs h hC hr).2
theorem foldl_rng (hs : Sz rows rule entry) (h : Rt rows rule entry) : ∀ {t : List Int} {s : Int}, Byt t → 0 ≤ s ∧ s < (rows.length : Int) → 0 ≤ t.foldl (nxt rows) s ∧ t.foldl (nxt rows) s < (rows.length : Int)
  | [], _, _, hr => hr
  | c :: t, s, hb, hr => foldl_rng hs h (t := t) (fun x hx => hb x (by simp [hx])) (nxt_rng hs h hr (hb c (by simp)))
theorem mg_foldl (hs : Sz rows rule entry) (h : Rt rows rule entry) (hC : Cls rows rule P m) : ∀ {t : List Int} {s : Int}, Byt t → 0 ≤ s ∧ s < (rows.length : Int) → t.foldl (nxt (mgRows P m rows)) (pt P s) = pt P (t.foldl (nxt rows) s)
  | [], _, _, _ => rfl
  | c :: t, s, hb, hr => by
    have hc := hb c (by simp)
    rw [List.foldl_cons, List.foldl_cons, mg_nxt hs h hC hr hc]
    exact mg_foldl hs h hC (fun x hx => hb x (by simp [hx])) (nxt_rng hs h hr hc)
theorem mg_alk (hs : Sz rows rule entry) (h : Rt rows rule entry) (hC : Cls rows rule P m) {a b : Int} (ha : 0 ≤ a ∧ a < (rows.length : Int)) (hb : 0 ≤ b ∧ b < (rows.length : Int)) : Alk (mgRows P m rows) (mgRule P m rule) (pt P a) (pt P b) ↔ Alk rows rule a b := by
  unfold Alk
  constructor
  · intro q t ht
    have := q t ht
    rwa [mg_foldl hs h hC ht ha, mg_foldl hs h hC ht hb, mg_rul hs h hC (foldl_rng hs h ht ha), mg_rul hs h hC (foldl_rng hs h ht hb)] at this
  · intro q t ht
    rw [mg_foldl hs h hC ht ha, mg_foldl hs h hC ht hb, mg_rul hs h hC (foldl_rng hs h ht ha), mg_rul hs h hC (foldl_rng hs h ht hb)]
    exact q t ht
theorem cls_upto {n : Nat} (hn : rows.length = n) (hd : ∀ a b : Int, 0 ≤ a ∧ a < (n : Int) → 0 ≤ b ∧ b < (n : Int) → Alk rows rule a b → a = b) : Cls rows rule (upto n) n := by
  refine ⟨rg_upto n, by rw [upto_len, hn], fun i k hi hk => ?_⟩
  have h1 : (upto n)[i]? = some (i : Int) := by rw [List.getElem?_eq_getElem (by rw [upto_len]; omega), upto_get]
  have h2 : (upto n)[k]? = some (k : Int) := by rw [List.getElem?_eq_getElem (by rw [upto_len]; omega), upto_get]
  rw [h1, h2, Option.some.injEq]
  constructor
  · intro q; rw [q]; exact .refl _
  · intro q; exact hd _ _ (by omega) (by omega) q
/-- of the merged one each state is a part -/
theorem mg_cls (hs : Sz rows rule entry) (h : Rt rows rule entry) (hC : Cls rows rule P m) : Cls (mgRows P m rows) (mgRule P m rule) (upto m) m := by
  refine cls_upto mgRows_len fun a b ha hb hk => ?_
  obtain ⟨x, hx, rfl⟩ := hC.ex ha
  obtain ⟨y, hy, rfl⟩ := hC.ex hb
  exact (hC.pt_iff hx hy).2 ((mg_alk hs h hC hx hy).1 hk)
theorem mg_rch (hs : Sz rows rule entry) (h : Rt rows rule entry) (hC : Cls rows rule P m) {s : Int} (hr : Rch rows entry s) : Rch (mgRows P m rows) (mgEntry P entry) (pt P s) := by
  induction hr with
  | zero => rw [(hC.pos h).1]; exact .zero
  | ent hx => exact .ent (List.mem_map_of_mem hx)
  | @step s y hr hy ih =>
    refine ih.step ?_
    rw [getD_of (mg_row hs h hC (hr.rng h)).1]
    exact List.mem_map_of_mem hy
theorem mg_lv (hs : Sz rows rule entry) (h : Rt rows rule entry) (hC : Cls rows rule P m) {s : Int} (hl : Lv rows rule s) : Lv (mgRows P m rows) (mgRule P m rule) (pt P s) := by
  induction hl with
  | here a b hr =>
    have hp := hC.pt_rng ⟨a, b⟩
    exact .here hp.1 (by rw [mgRows_len]; exact hp.2) (by rw [mg_rul hs h hC ⟨a, b⟩]; exact hr)
  | step a b hy _ ih =>
    have hp := hC.pt_rng ⟨a, b⟩
    refine .step hp.1 (by rw [mgRows_len]; exact hp.2) ?_ ih
    rw [getD_of (mg_row hs h hC ⟨a, b⟩).1]
    exact List.mem_map_of_mem hy
theorem kp_full (hl : (kp rows rule entry).length = rows.length) : kp rows rule entry = upto rows.length := by
  unfold kp at hl ⊢
  refine lst_all fun j hj => ?_
  unfold lst at hl
  rw [List.length_map] at hl
  have := List.length_filter_eq_length_iff.1 (hl.trans List.length_range.symm)
  exact this j (List.mem_range.2 hj)
theorem kp_all (h : Rt rows rule entry) (hk : ∀ x : Int, 0 < x → x < (rows.length : Int) → Rch rows entry x ∧ Lv rows rule x) : (kp rows rule entry).length = rows.length := by
  have : ∀ x ∈ upto rows.length, x ∈ kp rows rule entry := fun x hx => by
    have hr := (rg_upto rows.length).mem.1 hx
    rw [mem_kp h]
    by_cases h0 : x = 0
    · exact .inl h0
    · exact .inr (hk x (by omega) hr.2)
  have hnd : (upto rows.length).Nodup := by
    unfold upto List.Nodup
    rw [List.pairwise_map]
    exact (List.nodup_range (n := rows.length)).imp fun hne q => hne (by omega)
  have h1 := nodup_len hnd this
  rw [upto_len] at h1
  have h2 := (kp_acc (rows := rows) (rule := rule) (entry := entry)).len
  omega
theorem mg_kp (hs : Sz rows rule entry) (h : Rt rows rule entry) (hC : Cls rows rule P m) (hk : (kp rows rule entry).length = rows.length) : (kp (mgRows P m rows) (mgRule P m rule) (mgEntry P entry)).length = (mgRows P m rows).length := by
  refine kp_all (mg_right hs h hC) fun v hv0 hv1 => ?_
  rw [mgRows_len] at hv1
  obtain ⟨s, hs', rfl⟩ := hC.ex (v := v) ⟨by omega, hv1⟩
  have hm : s ∈ kp rows rule entry := by rw [kp_full hk]; exact (rg_upto _).mem.2 hs'
  rcases (mem_kp h).1 hm with rfl | ⟨q1, q2⟩
  · rw [(hC.pos h).1] at hv0; omega
  · exact ⟨mg_rch hs h hC q1, mg_lv hs h hC q2⟩
/-- a least DFA -/
def Lst (rows : List (List Int)) (rule entry : List Int) : Prop := Rt rows rule entry ∧ (kp rows rule entry).length = rows.length ∧ Cls rows rule (upto rows.length) rows.length
/-- trimmed -/
noncomputable abbrev tRows (rows : List (List Int)) (rule entry : List Int) := reRows (kp rows rule entry) rows
noncomputable abbrev tRule (rows : List (List Int)) (rule entry : List Int) := reRule (kp rows rule entry) rule
noncomputable abbrev tEntry (rows : List (List Int)) (rule entry : List Int) := reEntry (kp rows rule entry) entry
theorem t_right (h : Rt rows rule entry) : Rt (tRows rows rule entry) (tRule rows rule entry) (tEntry rows rule entry) := reO_right h kp_acc (kp_zero h)
theorem t_sz (hs : Sz rows rule entry) (h : Rt rows rule entry) : Sz (tRows rows rule entry) (tRule rows rule entry) (tEntry rows rule entry) := reO_sz hs h kp_acc
theorem t_kp (h : Rt rows rule entry) : (kp (tRows rows rule entry) (tRule rows rule entry) (tEntry rows rule entry)).length = (tRows rows rule entry).length := by rw [kp_re h, upto_len]
theorem cls_ex (hs : Sz rows rule entry) (h : Rt rows rule entry) : ∃ P m, Cls rows rule P m := by
  obtain ⟨P, m, _, h2⟩ := refParts_spec (N := 4294967296) (Nat.le_refl _) hs h
  exact ⟨P, m, h2⟩
theorem least_spec (hN : 4294967296 ≤ N) (hs : Sz rows rule entry) (h : Rt rows rule entry) (hC : Cls (tRows rows rule entry) (tRule rows rule entry) P m) :
    F_hopcroft_Least N rows rule entry = some (mgRows P m (tRows rows rule entry), mgRule P m (tRule rows rule entry), mgEntry P (tEntry rows rule entry)) := by
  unfold F_hopcroft_Least
  simp only [trim_spec hN hs h, merge_spec hN (t_sz hs h) (t_right h) hC, bind, Option.bind_some]
/-- THE LEAST ONE is least -/
theorem least_lst (hs : Sz rows rule entry) (h : Rt rows rule entry) (hC : Cls (tRows rows rule entry) (tRule rows rule entry) P m) :
    Lst (mgRows P m (tRows rows rule entry)) (mgRule P m (tRule rows rule entry)) (mgEntry P (tEntry rows rule entry)) := by
  refine ⟨mg_right (t_sz hs h) (t_right h) hC, mg_kp (t_sz hs h) (t_right h) hC (t_kp h), ?_⟩
  have := mg_cls (t_sz hs h) (t_right h) hC
  rwa [mgRows_len]
theorem sz_nil : Sz [] [] [] := ⟨fun r hr => by simp at hr, by simp, by simp, by simp⟩
end
end Go.Proofs.YteiaphkejkgfkaaDoor
namespace Go.Proofs.YteiaphkejkgfkaaDoor
open Go Go.Eng
set_option maxRecDepth 100000
section
variable {N : Nat} {rows : List (List Int)} {rule entry : List Int}
/-- the map of what was seen -/
def SeenM (S : List (Int × Int)) (M : List (List Int × Bool)) : Prop := M.length = S.length ∧ ∀ x y : Int, mget M [x, y] = if (x, y) ∈ S then some true else none
theorem SeenM.get {S : List (Int × Int)} {M : List (List Int × Bool)} (h : SeenM S M) (x y : Int) : (mget M [x, y]).getD false = decide ((x, y) ∈ S) := by
  rw [h.2 x y]
  by_cases q : (x, y) ∈ S <;> simp [q]
theorem SeenM.add {S : List (Int × Int)} {M : List (List Int × Bool)} {x y : Int} (h : SeenM S M) (hn : (x, y) ∉ S) : SeenM (S ++ [(x, y)]) (mset M [x, y] true) := by
  refine ⟨?_, fun a b => ?_⟩
  · rw [mset_len (by rw [h.2 x y, if_neg hn]), h.1]
    simp
  · rw [mget_mset_g]
    by_cases he : x = a ∧ y = b
    · obtain ⟨rfl, rfl⟩ := he
      simp
    · have : (([x, y] : List Int) == [a, b]) = false := by
        rw [beq_eq_false_iff_ne]
        intro q
        injection q with q1 q2
        injection q2 with q2 _
        exact he ⟨q1, q2⟩
      rw [this]
      simp only [Bool.false_eq_true, if_false]
      rw [h.2 a b]
      have e : (a, b) ∈ S ++ [(x, y)] ↔ (a, b) ∈ S := by
        rw [List.mem_append]
        constructor
        · rintro (q | q)
          · exact q
          · simp at q
            exact absurd ⟨q.1.symm, q.2.symm⟩ he
        · exact .inl
      simp only [e]
def flat (Q : List ((Int × Int) × List Int)) : List (Int × Int × List Int) := Q.map fun p => (p.1.1, p.1.2, p.2)
/-- the least DFA finds what the DFA finds -/
theorem least_lang {P : List Int} {m : Nat} (hs : Sz rows rule entry) (h : Rt rows rule entry) (hC : Cls (tRows rows rule entry) (tRule rows rule entry) P m) (cond : Int) {text : List Int} (ht : Byt text) :
    (mgRule P m (tRule rows rule entry)).getD (stt (mgRows P m (tRows rows rule entry)) (mgEntry P (tEntry rows rule entry)) cond text).toNat 0 = rule.getD (stt rows entry cond text).toNat 0 := by
  have hb : beg (mgEntry P (tEntry rows rule entry)) cond = pt P (beg (tEntry rows rule entry) cond) := by
    unfold beg
    have hl : (mgEntry P (tEntry rows rule entry)).length = (tEntry rows rule entry).length := by simp [mgEntry]
    rw [hl]
    split
    · rename_i hc
      have hcl : cond.toNat < (tEntry rows rule entry).length := by omega
      rw [getD_of (List.getElem?_eq_getElem hcl)]
      refine getD_of ?_
      rw [mgEntry, List.getElem?_map, List.getElem?_eq_getElem hcl]
      rfl
    · exact (hC.pos (t_right h)).1.symm
  have e1 : stt (mgRows P m (tRows rows rule entry)) (mgEntry P (tEntry rows rule entry)) cond text = pt P (stt (tRows rows rule entry) (tEntry rows rule entry) cond text) := by
    unfold stt
    rw [hb]
    exact mg_foldl (t_sz hs h) (t_right h) hC ht (beg_rng (t_right h) cond)
  rw [e1, mg_rul (t_sz hs h) (t_right h) hC (stt_rng (t_sz hs h) (t_right h) cond ht)]
  obtain ⟨e2, e3⟩ := sttT hs h cond ht
  rw [show stt (tRows rows rule entry) (tEntry rows rule entry) cond text = _ from e2]
  exact ruleT h e3
/-- every state of a trim DFA is reached -/
theorem lst_rch (h : Lst rows rule entry) {s : Int} (hr : 0 ≤ s ∧ s < (rows.length : Int)) : Rch rows entry s := by
  have hm : s ∈ kp rows rule entry := by rw [kp_full h.2.1]; exact (rg_upto _).mem.2 hr
  rcases (mem_kp h.1).1 hm with rfl | ⟨q, _⟩
  · exact .zero
  · exact q
end
end Go.Proofs.YteiaphkejkgfkaaDoor
namespace Go.Proofs.YteiaphkejkgfkaaDoor
open Go Go.Eng
set_option maxRecDepth 100000
/-- B is A, its states numbered by f -/
structure Iso (f : Int → Int) (rows : List (List Int)) (rule entry : List Int) (rows' : List (List Int)) (rule' entry' : List Int) : Prop where
  n : rows'.length = rows.length
  rng : ∀ s : Int, 0 ≤ s ∧ s < (rows.length : Int) → 0 ≤ f s ∧ f s < (rows.length : Int)
  inj : ∀ a b : Int, 0 ≤ a ∧ a < (rows.length : Int) → 0 ≤ b ∧ b < (rows.length : Int) → f a = f b → a = b
  z : f 0 = 0
  row : ∀ s : Int, 0 ≤ s ∧ s < (rows.length : Int) → rows'.getD (f s).toNat [] = (rows.getD s.toNat []).map f
  rul : ∀ s : Int, 0 ≤ s ∧ s < (rows.length : Int) → rule'.getD (f s).toNat 0 = rule.getD s.toNat 0
  ent : entry' = entry.map f
section
variable {N : Nat} {rows rows' : List (List Int)} {rule entry rule' entry' : List Int} {f : Int → Int}
theorem Iso.insAll (hI : Iso f rows rule entry rows' rule' entry') : ∀ {xs acc : List Int}, (∀ x ∈ acc, 0 ≤ x ∧ x < (rows.length : Int)) → (∀ x ∈ xs, 0 ≤ x ∧ x < (rows.length : Int)) → insAll (acc.map f) (xs.map f) = (insAll acc xs).map f
  | [], _, _, _ => rfl
  | x :: xs, acc, h1, h2 => by
    have hx := h2 x (by simp)
    have e : ins (acc.map f) (f x) = (ins acc x).map f := by
      unfold ins
      by_cases hm : x ∈ acc
      · rw [if_pos hm, if_pos (List.mem_map_of_mem hm)]
      · rw [if_neg hm, if_neg]
        · simp
        · intro hc
          obtain ⟨y, hy, he⟩ := List.mem_map.1 hc
          exact hm (hI.inj y x (h1 y hy) hx he ▸ hy)
    show Go.Proofs.YteiaphkejkgfkaaDoor.insAll (ins (acc.map f) (f x)) (xs.map f) = (Go.Proofs.YteiaphkejkgfkaaDoor.insAll (ins acc x) xs).map f
    rw [e]
    refine hI.insAll (fun y hy => ?_) (fun y hy => h2 y (by simp [hy]))
    rcases mem_ins.1 hy with hy | rfl
    · exact h1 y hy
    · exact hx
theorem Iso.bfs (hI : Iso f rows rule entry rows' rule' entry') (h : Rt rows rule entry) : ∀ (k i : Nat) (acc : List Int), (∀ x ∈ acc, 0 ≤ x ∧ x < (rows.length : Int)) → bfs rows' k i (acc.map f) = (bfs rows k i acc).map f
  | 0, _, _, _ => rfl
  | k + 1, i, acc, ha => by
    by_cases hlt : i < acc.length
    · have hlt' : i < (acc.map f).length := by simpa using hlt
      have hs := ha _ (List.getElem_mem hlt)
      obtain ⟨r, _, r2, r3, r4⟩ := row_of h hs
      simp only [Go.Proofs.YteiaphkejkgfkaaDoor.bfs, dif_pos hlt, dif_pos hlt', List.getElem_map]
      rw [hI.row _ hs, hI.insAll ha (by rw [r2]; exact r4)]
      refine hI.bfs h k (i + 1) _ fun y hy => ?_
      rcases mem_insAll.1 hy with hy | hy
      · exact ha y hy
      · rw [r2] at hy; exact r4 y hy
    · rw [bfs_done hlt, bfs_done (by simpa using hlt)]
theorem Iso.ord (hI : Iso f rows rule entry rows' rule' entry') (h : Rt rows rule entry) : ord rows' entry' = (ord rows entry).map f := by
  unfold Go.Proofs.YteiaphkejkgfkaaDoor.ord
  have e := hI.insAll (xs := entry) (acc := [0]) (fun x hx => by simp at hx; subst hx; have := h.n1; omega) h.ent
  rw [List.map_cons, List.map_nil, hI.z] at e
  rw [hI.n, hI.ent, e]
  exact hI.bfs h _ _ _ (acc0 h).rng
theorem Iso.pl (hI : Iso f rows rule entry rows' rule' entry') {o : List Int} (ho : ∀ x ∈ o, 0 ≤ x ∧ x < (rows.length : Int)) {x : Int} (hx : 0 ≤ x ∧ x < (rows.length : Int)) : pl (o.map f) (f x) = pl o x := by
  unfold Go.Proofs.YteiaphkejkgfkaaDoor.pl
  have hm : f x ∈ o.map f ↔ x ∈ o := by
    constructor
    · intro q
      obtain ⟨y, hy, he⟩ := List.mem_map.1 q
      exact hI.inj y x (ho y hy) hx he ▸ hy
    · exact fun q => List.mem_map_of_mem q
  have hi : ∀ l : List Int, (∀ y ∈ l, 0 ≤ y ∧ y < (rows.length : Int)) → (l.map f).idxOf (f x) = l.idxOf x := by
    intro l
    induction l with
    | nil => intro _; rfl
    | cons y l ih =>
      intro hl
      rw [List.map_cons, List.idxOf_cons, List.idxOf_cons, ih fun z hz => hl z (by simp [hz])]
      have : (f y == f x) = (y == x) := by
        rw [Bool.eq_iff_iff, beq_iff_eq, beq_iff_eq]
        exact ⟨fun q => hI.inj y x (hl y (by simp)) hx q, fun q => by rw [q]⟩
      rw [this]
  by_cases q : x ∈ o
  · rw [if_pos (hm.2 q), if_pos q, hi o ho]
  · rw [if_neg (fun r => q (hm.1 r)), if_neg q]
/-- the canonical numbering is the same -/
theorem Iso.canon (hI : Iso f rows rule entry rows' rule' entry') (h : Rt rows rule entry) :
    reRows (Go.Proofs.YteiaphkejkgfkaaDoor.ord rows' entry') rows' = reRows (Go.Proofs.YteiaphkejkgfkaaDoor.ord rows entry) rows ∧ reRule (Go.Proofs.YteiaphkejkgfkaaDoor.ord rows' entry') rule' = reRule (Go.Proofs.YteiaphkejkgfkaaDoor.ord rows entry) rule ∧ reEntry (Go.Proofs.YteiaphkejkgfkaaDoor.ord rows' entry') entry' = reEntry (Go.Proofs.YteiaphkejkgfkaaDoor.ord rows entry) entry := by
  have ho := (ord_props h).1.rng
  rw [hI.ord h]
  generalize Go.Proofs.YteiaphkejkgfkaaDoor.ord rows entry = o at ho
  refine ⟨?_, ?_, ?_⟩
  · unfold reRows
    rw [List.map_map]
    refine List.map_congr_left fun s hs => ?_
    obtain ⟨r, _, r2, r3, r4⟩ := row_of h (ho s hs)
    show List.map (Go.Proofs.YteiaphkejkgfkaaDoor.pl (o.map f)) (rows'.getD (f s).toNat []) = _
    rw [hI.row s (ho s hs), List.map_map, r2]
    exact List.map_congr_left fun y hy => hI.pl ho (r4 y hy)
  · unfold reRule
    rw [List.map_map]
    exact List.map_congr_left fun s hs => hI.rul s (ho s hs)
  · unfold reEntry
    rw [hI.ent, List.map_map]
    exact List.map_congr_left fun y hy => hI.pl ho (h.ent y hy)
/-- each state is f of one -/
theorem Iso.sur (hI : Iso f rows rule entry rows' rule' entry') {v : Int} (hv : 0 ≤ v ∧ v < (rows.length : Int)) : ∃ s : Int, (0 ≤ s ∧ s < (rows.length : Int)) ∧ f s = v := by
  refine Classical.byContradiction fun hn => ?_
  have hm := fun x => (rg_upto rows.length).mem (x := x)
  have hnd : (v :: (upto rows.length).map f).Nodup := by
    refine List.nodup_cons.2 ⟨fun q => ?_, ?_⟩
    · obtain ⟨s, hs, he⟩ := List.mem_map.1 q
      exact hn ⟨s, (hm s).1 hs, he⟩
    · unfold List.Nodup
      rw [List.pairwise_map]
      exact List.Pairwise.imp_of_mem (fun {a b} ha hb hne he => hne (hI.inj a b ((hm a).1 ha) ((hm b).1 hb) he)) ((List.pairwise_map.2 ((List.nodup_range (n := rows.length)).imp fun hne q => hne (by omega)) : (upto rows.length).Pairwise (· ≠ ·)))
  have := nodup_len (m := upto rows.length) hnd fun x hx => by
    rcases List.mem_cons.1 hx with rfl | hx
    · exact (hm _).2 hv
    · obtain ⟨s, hs, rfl⟩ := List.mem_map.1 hx
      exact (hm _).2 (hI.rng s ((hm s).1 hs))
  rw [List.length_cons, List.length_map, upto_len] at this
  omega
theorem Iso.nxt (hI : Iso f rows rule entry rows' rule' entry') (hs : Sz rows rule entry) {s c : Int} (hr : 0 ≤ s ∧ s < (rows.length : Int)) (hc : 0 ≤ c ∧ c < 256) : nxt rows' (f s) c = f (nxt rows s c) := by
  have h2 := (row_nxt hs hr).2 c.toNat (by omega)
  rw [show ((c.toNat : Nat) : Int) = c by omega] at h2
  show (rows'.getD (f s).toNat []).getD c.toNat 0 = _
  rw [hI.row s hr]
  refine getD_of ?_
  rw [List.getElem?_map, h2]
  rfl
theorem Iso.foldl (hI : Iso f rows rule entry rows' rule' entry') (hs : Sz rows rule entry) (h : Rt rows rule entry) : ∀ {t : List Int} {s : Int}, Byt t → 0 ≤ s ∧ s < (rows.length : Int) → t.foldl (Go.Proofs.YteiaphkejkgfkaaDoor.nxt rows') (f s) = f (t.foldl (Go.Proofs.YteiaphkejkgfkaaDoor.nxt rows) s)
  | [], _, _, _ => rfl
  | c :: t, s, hb, hr => by
    have hc := hb c (by simp)
    rw [List.foldl_cons, List.foldl_cons, hI.nxt hs hr hc]
    exact hI.foldl hs h (fun x hx => hb x (by simp [hx])) (nxt_rng hs h hr hc)
theorem Iso.right (hI : Iso f rows rule entry rows' rule' entry') (h : Rt rows rule entry) (hu : rule'.length = rows.length) : Rt rows' rule' entry' := by
  have hn := hI.n
  have h0 : 0 ≤ (0 : Int) ∧ (0 : Int) < (rows.length : Int) := by have := h.n1; omega
  have hr0 := hI.row 0 h0
  have hu0 := hI.rul 0 h0
  rw [hI.z] at hr0 hu0
  rw [show (0 : Int).toNat = 0 by rfl] at hr0 hu0
  rw [getD_of h.r0, List.map_replicate, hI.z] at hr0
  rw [getD_of h.u0] at hu0
  have hn1 := h.n1
  have hl0 : 0 < rows'.length := by omega
  have hl1 : 0 < rule'.length := by omega
  rw [getD_of (List.getElem?_eq_getElem hl0)] at hr0
  rw [getD_of (List.getElem?_eq_getElem hl1)] at hu0
  refine ⟨by omega, by have := h.n2; omega, by omega, by rw [hI.ent, List.length_map]; exact h.e1, by rw [hI.ent, List.length_map]; exact h.e2, fun r hr x hx => ?_, fun x hx => ?_, fun x hx => ?_, by rw [List.getElem?_eq_getElem hl0, hr0], by rw [List.getElem?_eq_getElem hl1, hu0]⟩
  · obtain ⟨v, hv, hvr⟩ := List.getElem_of_mem hr
    obtain ⟨s, hs, he⟩ := hI.sur (v := (v : Int)) (by omega)
    have hh := hI.row s hs
    rw [he, Int.toNat_natCast, getD_of (List.getElem?_eq_getElem hv), hvr] at hh
    rw [hh] at hx
    obtain ⟨y, hy, rfl⟩ := List.mem_map.1 hx
    obtain ⟨r, _, r2, r3, r4⟩ := row_of h hs
    rw [r2] at hy
    rw [hn]
    exact hI.rng y (r4 y hy)
  · obtain ⟨v, hv, hvr⟩ := List.getElem_of_mem hx
    obtain ⟨s, hs, he⟩ := hI.sur (v := (v : Int)) (by omega)
    have hh := hI.rul s hs
    rw [he, Int.toNat_natCast, getD_of (List.getElem?_eq_getElem hv), hvr] at hh
    have hru := h.ru
    have hsl : s.toNat < rule.length := by omega
    rw [getD_of (List.getElem?_eq_getElem hsl)] at hh
    rw [hh]
    exact h.rul _ (List.getElem_mem hsl)
  · rw [hI.ent] at hx
    obtain ⟨y, hy, rfl⟩ := List.mem_map.1 hx
    rw [hn]
    exact hI.rng y (h.ent y hy)
/-- both find the same behind each text -/
def Lang (rows : List (List Int)) (rule entry : List Int) (rows' : List (List Int)) (rule' entry' : List Int) : Prop :=
  entry'.length = entry.length ∧ ∀ cond t, Byt t → rule'.getD (stt rows' entry' cond t).toNat 0 = rule.getD (stt rows entry cond t).toNat 0
theorem Lang.symm (h : Lang rows rule entry rows' rule' entry') : Lang rows' rule' entry' rows rule entry := ⟨h.1.symm, fun c t ht => (h.2 c t ht).symm⟩
theorem Lang.trans {rows'' : List (List Int)} {rule'' entry'' : List Int} (h : Lang rows rule entry rows' rule' entry') (h' : Lang rows' rule' entry' rows'' rule'' entry'') : Lang rows rule entry rows'' rule'' entry'' :=
  ⟨h'.1.trans h.1, fun c t ht => (h'.2 c t ht).trans (h.2 c t ht)⟩
theorem Iso.lang (hI : Iso f rows rule entry rows' rule' entry') (hs : Sz rows rule entry) (h : Rt rows rule entry) : Lang rows rule entry rows' rule' entry' := by
  refine ⟨by rw [hI.ent, List.length_map], fun cond t ht => ?_⟩
  have hb : beg entry' cond = f (beg entry cond) := by
    unfold beg
    rw [hI.ent, List.length_map]
    split
    · rename_i hc
      have hcl : cond.toNat < entry.length := by omega
      rw [getD_of (List.getElem?_eq_getElem hcl)]
      refine getD_of ?_
      rw [List.getElem?_map, List.getElem?_eq_getElem hcl]
      rfl
    · exact hI.z.symm
  unfold stt
  rw [hb, hI.foldl hs h ht (beg_rng h cond)]
  exact hI.rul _ (foldl_rng hs h ht (beg_rng h cond))
/-- of a state of the one and one of the other: each text finds the same -/
def Rel2 (rows : List (List Int)) (rule : List Int) (rows' : List (List Int)) (rule' : List Int) (i j : Int) : Prop := ∀ t, Byt t → rule.getD (t.foldl (nxt rows) i).toNat 0 = rule'.getD (t.foldl (nxt rows') j).toNat 0
theorem Rel2.step {i j c : Int} (h : Rel2 rows rule rows' rule' i j) (hc : 0 ≤ c ∧ c < 256) : Rel2 rows rule rows' rule' (nxt rows i c) (nxt rows' j c) := fun t ht => h (c :: t) fun x hx => by
  rcases List.mem_cons.1 hx with rfl | hx
  · exact hc
  · exact ht x hx
theorem zero_fold (hs : Sz rows rule entry) (h : Rt rows rule entry) : ∀ {t : List Int}, Byt t → t.foldl (nxt rows) 0 = 0
  | [], _ => rfl
  | c :: t, hb => by
    have hc := hb c (by simp)
    have h0 : 0 ≤ (0 : Int) ∧ (0 : Int) < (rows.length : Int) := by have := h.n1; omega
    rw [List.foldl_cons, row0 h (nxt_mem hs h0 hc)]
    exact zero_fold hs h fun x hx => hb x (by simp [hx])
theorem rel_zero (hs : Sz rows rule entry) (h : Rt rows rule entry) (hs' : Sz rows' rule' entry') (h' : Rt rows' rule' entry') : Rel2 rows rule rows' rule' 0 0 := fun t ht => by
  rw [zero_fold hs h ht, zero_fold hs' h' ht]
  show rule.getD 0 0 = rule'.getD 0 0
  rw [getD_of h.u0, getD_of h'.u0]
theorem beg_get {c : Nat} (hc : c < entry.length) : beg entry (c : Int) = entry[c] := by
  unfold beg
  rw [if_pos (by omega), Int.toNat_natCast]
  exact getD_of (List.getElem?_eq_getElem hc)
theorem rel_ex (hs : Sz rows rule entry) (h : Rt rows rule entry) (hs' : Sz rows' rule' entry') (h' : Rt rows' rule' entry') (hL : Lang rows rule entry rows' rule' entry') {s : Int} (hr : Rch rows entry s) :
    ∃ j : Int, (0 ≤ j ∧ j < (rows'.length : Int)) ∧ Rel2 rows rule rows' rule' s j := by
  induction hr with
  | zero => exact ⟨0, by have := h'.n1; omega, rel_zero hs h hs' h'⟩
  | ent hx =>
    obtain ⟨c, hc, rfl⟩ := List.getElem_of_mem hx
    have hc' : c < entry'.length := by rw [hL.1]; exact hc
    refine ⟨entry'[c], h'.ent _ (List.getElem_mem hc'), fun t ht => ?_⟩
    have := hL.2 (c : Int) t ht
    unfold stt at this
    rw [beg_get hc, beg_get hc'] at this
    exact this.symm
  | @step s y hr hy ih =>
    obtain ⟨j, hj, hR⟩ := ih
    have hsr := hr.rng h
    obtain ⟨hl, hn⟩ := row_nxt hs hsr
    obtain ⟨c, hc, rfl⟩ := List.getElem_of_mem hy
    have e := hn c (by omega)
    rw [List.getElem?_eq_getElem hc] at e
    rw [Option.some.inj e]
    exact ⟨_, nxt_rng hs' h' hj (c := (c : Int)) (by omega), hR.step (by omega)⟩
theorem lst_alk (h : Lst rows rule entry) {a b : Int} (ha : 0 ≤ a ∧ a < (rows.length : Int)) (hb : 0 ≤ b ∧ b < (rows.length : Int)) (hk : Alk rows rule a b) : a = b := by
  have := (h.2.2.pt_iff ha hb).2 hk
  rwa [pt_upto ha, pt_upto hb] at this
theorem lang_len (hs : Sz rows rule entry) (h : Lst rows rule entry) (hs' : Sz rows' rule' entry') (h' : Lst rows' rule' entry') (hL : Lang rows rule entry rows' rule' entry') : rows.length ≤ rows'.length := by
  have ex := fun (s : Int) (hr : 0 ≤ s ∧ s < (rows.length : Int)) => rel_ex hs h.1 hs' h'.1 hL (lst_rch h hr)
  let f : Int → Int := fun s => if hr : 0 ≤ s ∧ s < (rows.length : Int) then Classical.choose (ex s hr) else 0
  have hf : ∀ s, (hr : 0 ≤ s ∧ s < (rows.length : Int)) → (0 ≤ f s ∧ f s < (rows'.length : Int)) ∧ Rel2 rows rule rows' rule' s (f s) := fun s hr => by
    have : f s = Classical.choose (ex s hr) := by simp only [f, hr, and_self, dif_pos]
    rw [this]
    exact Classical.choose_spec (ex s hr)
  have hm := fun x => (rg_upto rows.length).mem (x := x)
  have hnd : ((upto rows.length).map f).Nodup := by
    unfold List.Nodup
    rw [List.pairwise_map]
    refine List.Pairwise.imp_of_mem (fun {a b} ha hb hne he => hne ?_) ((List.pairwise_map.2 ((List.nodup_range (n := rows.length)).imp fun hne q => hne (by omega)) : (upto rows.length).Pairwise (· ≠ ·)))
    have ha' := (hm a).1 ha
    have hb' := (hm b).1 hb
    refine lst_alk h ha' hb' fun t ht => ?_
    rw [(hf a ha').2 t ht, (hf b hb').2 t ht, he]
  have := nodup_len (m := upto rows'.length) hnd fun x hx => by
    obtain ⟨s, hs, rfl⟩ := List.mem_map.1 hx
    exact (rg_upto _).mem.2 (hf s ((hm s).1 hs)).1
  rwa [List.length_map, upto_len, upto_len] at this
/-- LEAST DFAs THAT FIND THE SAME differ in their numbering alone -/
theorem lang_iso (hs : Sz rows rule entry) (h : Lst rows rule entry) (hs' : Sz rows' rule' entry') (h' : Lst rows' rule' entry') (hL : Lang rows rule entry rows' rule' entry') : ∃ f, Iso f rows rule entry rows' rule' entry' := by
  have hn : rows'.length = rows.length := Nat.le_antisymm (lang_len hs' h' hs h hL.symm) (lang_len hs h hs' h' hL)
  have ex := fun (s : Int) (hr : 0 ≤ s ∧ s < (rows.length : Int)) => rel_ex hs h.1 hs' h'.1 hL (lst_rch h hr)
  let f : Int → Int := fun s => if hr : 0 ≤ s ∧ s < (rows.length : Int) then Classical.choose (ex s hr) else 0
  have hf : ∀ s, (hr : 0 ≤ s ∧ s < (rows.length : Int)) → (0 ≤ f s ∧ f s < (rows'.length : Int)) ∧ Rel2 rows rule rows' rule' s (f s) := fun s hr => by
    have : f s = Classical.choose (ex s hr) := by simp only [f, hr, and_self, dif_pos]
    rw [this]
    exact Classical.choose_spec (ex s hr)
  have uniq : ∀ s j, (0 ≤ s ∧ s < (rows.length : Int)) → (0 ≤ j ∧ j < (rows'.length : Int)) → Rel2 rows rule rows' rule' s j → f s = j := fun s j hr hj hR =>
    lst_alk h' (hf s hr).1 hj fun t ht => by rw [← (hf s hr).2 t ht, hR t ht]
  have h0 : 0 ≤ (0 : Int) ∧ (0 : Int) < (rows.length : Int) := by have := h.1.n1; omega
  refine ⟨f, hn, fun s hr => by rw [← hn]; exact (hf s hr).1, fun a b ha hb he => lst_alk h ha hb fun t ht => by rw [(hf a ha).2 t ht, (hf b hb).2 t ht, he], uniq 0 0 h0 (by omega) (rel_zero hs h.1 hs' h'.1), fun s hr => ?_, fun s hr => ?_, ?_⟩
  · obtain ⟨a1, a2⟩ := row_nxt hs hr
    obtain ⟨b1, b2⟩ := row_nxt hs' (hf s hr).1
    refine List.ext_getElem? fun c => ?_
    by_cases hc : c < 256
    · rw [b2 c hc, List.getElem?_map, a2 c hc]
      have hx := nxt_rng hs h.1 hr (c := (c : Int)) (by omega)
      have hy := nxt_rng hs' h'.1 (hf s hr).1 (c := (c : Int)) (by omega)
      rw [Option.map_some, uniq _ _ hx hy ((hf s hr).2.step (by omega))]
    · rw [List.getElem?_eq_none (by omega), List.getElem?_eq_none (by rw [List.length_map]; omega)]
  · have := (hf s hr).2 [] fun x hx => by simp at hx
    exact this.symm
  · refine List.ext_getElem? fun c => ?_
    by_cases hc : c < entry.length
    · have hc' : c < entry'.length := by rw [hL.1]; exact hc
      rw [List.getElem?_eq_getElem hc', List.getElem?_map, List.getElem?_eq_getElem hc, Option.map_some]
      refine congrArg some (uniq _ _ (h.1.ent _ (List.getElem_mem hc)) (h'.1.ent _ (List.getElem_mem hc')) fun t ht => ?_).symm
      have := hL.2 (c : Int) t ht
      unfold stt at this
      rw [beg_get hc, beg_get hc'] at this
      exact this.symm
    · rw [List.getElem?_eq_none (by have := hL.1; omega), List.getElem?_eq_none (by rw [List.length_map]; omega)]
/-- THE CANONICAL LEAST DFA is one for all that find the same -/
theorem lang_canon (hs : Sz rows rule entry) (h : Lst rows rule entry) (hs' : Sz rows' rule' entry') (h' : Lst rows' rule' entry') (hL : Lang rows rule entry rows' rule' entry') :
    reRows (ord rows' entry') rows' = reRows (ord rows entry) rows ∧ reRule (ord rows' entry') rule' = reRule (ord rows entry) rule ∧ reEntry (ord rows' entry') entry' = reEntry (ord rows entry) entry := by
  obtain ⟨f, hI⟩ := lang_iso hs h hs' h' hL
  exact hI.canon h.1
end
end Go.Proofs.YteiaphkejkgfkaaDoor
namespace Go.Proofs.YteiaphkejkgfkaaDoor
open Go Go.Eng
set_option maxRecDepth 100000
theorem wrapU_nonneg (x : Int) : 0 ≤ IntKind.wrap .u64 x := by
  simp only [IntKind.wrap, IntKind.signed, IntKind.bits]
  simp
  omega
/-- the numbers of the law -/
def turnN (k n i : Nat) : Nat := if i = 0 then 0 else 1 + (i - 1 + k) % (n - 1)
theorem turnN_lt {k n i : Nat} (hn : 1 ≤ n) (hi : i < n) : turnN k n i < n := by
  unfold turnN
  split
  · omega
  · have := Nat.mod_lt (i - 1 + k) (show 0 < n - 1 by omega)
    omega
theorem mod_shift {a b k m : Nat} (ha : a < m) (hb : b < m) (hab : a ≤ b) (h : (a + k) % m = (b + k) % m) : a = b := by
  have := Nat.sub_mod_eq_zero_of_mod_eq h.symm
  rw [show b + k - (a + k) = b - a by omega, Nat.mod_eq_of_lt (by omega)] at this
  omega
theorem turnN_inj {k n i j : Nat} (hi : i < n) (hj : j < n) (h : turnN k n i = turnN k n j) : i = j := by
  unfold turnN at h
  by_cases h1 : i = 0
  · by_cases h2 : j = 0
    · omega
    · rw [if_pos h1, if_neg h2] at h; omega
  · by_cases h2 : j = 0
    · rw [if_neg h1, if_pos h2] at h; omega
    · rw [if_neg h1, if_neg h2] at h
      have h' : (i - 1 + k) % (n - 1) = (j - 1 + k) % (n - 1) := by omega
      rcases Nat.le_total (i - 1) (j - 1) with hl | hl
      · have := mod_shift (by omega) (by omega) hl h'
        omega
      · have := mod_shift (by omega) (by omega) hl h'.symm
        omega
section
variable {N : Nat} {rows : List (List Int)} {rule entry : List Int}
theorem turn_val {k n i : Nat} (hi : 1 ≤ i) (hin : i < n) (hn : n ≤ 200) (hk : k < n) : w64 (1 + (w64 (w64 ((i : Int) - 1) + IntKind.wrap .i64 (k : Int))).tmod (w64 ((n : Int) - 1))) = ((turnN k n i : Nat) : Int) := by
  have e1 : w64 ((i : Int) - 1) = ((i - 1 : Nat) : Int) := by rw [w64, wrap64] <;> omega
  have e2 : w64 ((n : Int) - 1) = ((n - 1 : Nat) : Int) := by rw [w64, wrap64] <;> omega
  have e3 : IntKind.wrap .i64 (k : Int) = (k : Int) := by rw [wrap64] <;> omega
  have e4 : w64 (((i - 1 : Nat) : Int) + (k : Int)) = ((i - 1 + k : Nat) : Int) := by rw [w64, wrap64] <;> omega
  have hm := Nat.mod_lt (i - 1 + k) (show 0 < n - 1 by omega)
  rw [e1, e2, e3, e4, Int.tmod_eq_emod_of_nonneg (by omega), ← Int.natCast_emod, turnN, if_neg (by omega), w64, wrap64] <;> omega
theorem turn_loop {turn : Int} {n : Nat} (hN : 4294967296 ≤ N) (hl : rows.length = n) (hn1 : 1 ≤ n) (hn : n ≤ 200) :
    ∃ num k, iterO N (fun s => F_dofferlaw20_CanonOne_l0 N rows turn s.1 s.2) (List.replicate n 0, 1) = some num ∧ num.length = n ∧ ∀ j : Nat, j < n → pt num (j : Int) = ((turnN k n j : Nat) : Int) := by
  have hwn : IntKind.wrap .u64 (n : Int) = (n : Int) := by rw [wrapU64] <;> omega
  have hw0 := wrapU_nonneg turn
  have hk0 : 0 ≤ (IntKind.wrap .u64 turn).tmod (IntKind.wrap .u64 (n : Int)) ∧ (IntKind.wrap .u64 turn).tmod (IntKind.wrap .u64 (n : Int)) < n := by
    rw [hwn, Int.tmod_eq_emod_of_nonneg hw0]
    exact ⟨Int.emod_nonneg _ (by omega), Int.emod_lt_of_pos _ (by omega)⟩
  obtain ⟨k, hk⟩ : ∃ k : Nat, (IntKind.wrap .u64 turn).tmod (IntKind.wrap .u64 (n : Int)) = (k : Int) := ⟨_, (Int.toNat_of_nonneg hk0.1).symm⟩
  rw [hk] at hk0
  obtain ⟨s, h1, h2, h3⟩ := loop_inv (f := fun s => F_dofferlaw20_CanonOne_l0 N rows turn s.1 s.2) (fun i (s : List Int) => (s, ((i + 1 : Nat) : Int))) id (List.range (n - 1))
    (fun i s => s.length = n ∧ ∀ j : Nat, j < n → pt s (j : Int) = if j ≤ i then ((turnN k n j : Nat) : Int) else 0) (N := N) (s := List.replicate n 0) (by rw [List.length_range]; omega)
    ⟨List.length_replicate, fun j hj => by
      have : pt (List.replicate n 0) (j : Int) = 0 := by
        unfold pt
        refine getD_of ?_
        rw [List.getElem?_replicate, if_pos (by omega)]
      rw [this]
      split
      · rename_i hj0
        have : j = 0 := by omega
        subst this
        rfl
      · rfl⟩
    (fun i y s hx hI => by
      obtain ⟨hi, rfl⟩ := range_get hx
      obtain ⟨k1, k2⟩ := hI
      have hir : 0 ≤ ((y + 1 : Nat) : Int) ∧ ((y + 1 : Nat) : Int) < (n : Int) := by omega
      obtain ⟨s', q1, q2, q3⟩ := pt_set (v := ((turnN k n (y + 1) : Nat) : Int)) k1 hir
      have hnz : nz (w64 ((rows.length : Int) - 1)) = some () := by
        rw [hl, w64, wrap64 (by omega) (by omega)]
        unfold nz
        rw [if_neg (by omega)]
      have hval := turn_val (k := k) (n := n) (i := y + 1) (by omega) (by omega) hn (by omega)
      refine ⟨s', ?_, q2, fun j hj => ?_⟩
      · unfold F_dofferlaw20_CanonOne_l0
        simp only [hnz, show (((y + 1 : Nat) : Int) < (rows.length : Int)) by omega, decide_true, if_true, pt_idx k1 hir, bind, Option.bind_some]
        rw [hl, hk, hval, q1]
        simp only [Option.bind_some]
        rw [w64_succ (by omega)]
      · rw [q3 (j : Int) (by omega)]
        by_cases he : j = y + 1
        · subst he
          rw [if_pos rfl, if_pos (by omega)]
        · rw [if_neg (by omega), k2 j hj]
          by_cases hjy : j ≤ y
          · rw [if_pos hjy, if_pos (by omega)]
          · rw [if_neg hjy, if_neg (by omega)])
    (fun s _ => by
      unfold F_dofferlaw20_CanonOne_l0
      simp only [List.length_range, show ¬ (((n - 1 + 1 : Nat) : Int) < (rows.length : Int)) by omega, decide_false, Bool.false_eq_true, if_false, id])
  rw [List.length_range] at h3
  exact ⟨s, k, h1, h2, fun j hj => by rw [h3 j hj, if_pos (by omega)]⟩
theorem turn_row {num row : List Int} {R : List (List Int)} {i p : Nat} (hN : 4294967296 ≤ N) (hi : num[i]? = some (p : Int)) (hp : p < R.length) (hR : ∀ r ∈ R, r.length = 256) (hw : row.length = 256) (hr : ∀ y ∈ row, 0 ≤ y ∧ y < (num.length : Int)) :
    iterO N (fun s => F_dofferlaw20_CanonOne_l2 N num (i : Int) row s.1 s.2) (0, R) = some (R.set p (row.map (pt num))) := by
  obtain ⟨S, h1, h2, h3, h4⟩ := loop_inv (f := fun s => F_dofferlaw20_CanonOne_l2 N num (i : Int) row s.1 s.2) (fun c (s : List (List Int)) => ((c : Int), s)) id row
    (fun c s => s.length = R.length ∧ (∀ q, q ≠ p → s[q]? = R[q]?) ∧ ∃ r, s[p]? = some r ∧ r.length = 256 ∧ ∀ c', c' < c → r[c']? = (row.map (pt num))[c']?) (N := N) (s := R) (by omega)
    ⟨rfl, fun q _ => rfl, R[p], List.getElem?_eq_getElem hp, hR _ (List.getElem_mem hp), fun c' hc => by omega⟩
    (fun c y s hx hI => by
      obtain ⟨k1, k2, r, k3, k4, k5⟩ := hI
      have hc := lt_len hx
      have hyr := hr y (List.mem_of_getElem? hx)
      have hps : p < s.length := by omega
      have hcr : c < r.length := by omega
      have gy := pt_idx (part := num) (n := num.length) rfl hyr
      refine ⟨s.set p (r.set c (pt num y)), ?_, by simpa using k1, fun q hq => ?_, r.set c (pt num y), List.getElem?_set_self hps, by simpa using k4, fun c' hc' => ?_⟩
      · unfold F_dofferlaw20_CanonOne_l2
        simp only [show ((c : Int) < 256) by omega, decide_true, if_true, idx_of hx, idx_of hi, gy, idx_of k3, idx_nat hcr, setI_nat hcr, setI_nat hps, bind, Option.bind_some]
        rw [w64_succ (by omega)]
      · rw [List.getElem?_set_ne (by omega)]; exact k2 q hq
      · by_cases he : c' = c
        · subst he
          rw [List.getElem?_set_self hcr, List.getElem?_map, hx]
          rfl
        · rw [List.getElem?_set_ne (by omega)]; exact k5 c' (by omega))
    (fun s _ => by unfold F_dofferlaw20_CanonOne_l2; simp [hw])
  rw [show iterO N (fun s => F_dofferlaw20_CanonOne_l2 N num (i : Int) row s.1 s.2) (0, R) = _ from h1, id]
  obtain ⟨r, h5, h6, h7⟩ := h4
  have hr' : r = row.map (pt num) := List.ext_getElem? fun c => by
    by_cases hc : c < 256
    · exact h7 c (by omega)
    · rw [List.getElem?_eq_none (by omega), List.getElem?_eq_none (by rw [List.length_map]; omega)]
  congr 1
  refine List.ext_getElem? fun q => ?_
  by_cases hq : q = p
  · subst hq
    rw [h5, List.getElem?_set_self hp, hr']
  · rw [h3 q hq, List.getElem?_set_ne (by omega)]
/-- the DFA numbered anew -/
theorem turn_make {num : List Int} {k : Nat} (hN : 4294967296 ≤ N) (hs : Sz rows rule entry) (h : Rt rows rule entry) (hl : num.length = rows.length) (hnum : ∀ j : Nat, j < rows.length → pt num (j : Int) = ((turnN k rows.length j : Nat) : Int)) :
    ∃ R U, iterO N (fun s => F_dofferlaw20_CanonOne_l1 N rows rule num s.1 s.2.1 s.2.2) (0, List.replicate rows.length (List.replicate 256 0), List.replicate rows.length 0) = some (R, U) ∧
      iterO N (fun s => F_dofferlaw20_CanonOne_l3 N entry num s.1 s.2) (0, []) = some (entry.map (pt num)) ∧ Iso (pt num) rows rule entry R U (entry.map (pt num)) ∧ U.length = rows.length ∧ ∀ r ∈ R, r.length = 256 := by
  have hn2 := h.n2
  have hn1 := h.n1
  have hru := h.ru
  have he2 := h.e2
  have rng : ∀ s : Int, 0 ≤ s ∧ s < (rows.length : Int) → 0 ≤ pt num s ∧ pt num s < (rows.length : Int) := fun s hr => by
    have := hnum s.toNat (by omega)
    rw [show ((s.toNat : Nat) : Int) = s by omega] at this
    have h2 := turnN_lt (k := k) (n := rows.length) (i := s.toNat) hn1 (by omega)
    omega
  have inj : ∀ a b : Int, 0 ≤ a ∧ a < (rows.length : Int) → 0 ≤ b ∧ b < (rows.length : Int) → pt num a = pt num b → a = b := fun a b ha hb he => by
    have h1 := hnum a.toNat (by omega)
    have h2 := hnum b.toNat (by omega)
    rw [show ((a.toNat : Nat) : Int) = a by omega] at h1
    rw [show ((b.toNat : Nat) : Int) = b by omega] at h2
    have := turnN_inj (k := k) (n := rows.length) (i := a.toNat) (j := b.toNat) (by omega) (by omega) (by omega)
    omega
  obtain ⟨s, h1, h2, h3, h4, h5⟩ := loop_inv (f := fun s => F_dofferlaw20_CanonOne_l1 N rows rule num s.1 s.2.1 s.2.2) (fun i (s : List (List Int) × List Int) => ((i : Int), s.1, s.2)) (fun s => (s.1, s.2)) (List.range rows.length)
    (fun i s => s.1.length = rows.length ∧ s.2.length = rows.length ∧ (∀ r ∈ s.1, r.length = 256) ∧ ∀ j : Nat, j < i → s.1[(pt num (j : Int)).toNat]? = some ((rows.getD j []).map (pt num)) ∧ s.2[(pt num (j : Int)).toNat]? = some (rule.getD j 0))
    (N := N) (s := (List.replicate rows.length (List.replicate 256 0), List.replicate rows.length 0)) (by rw [List.length_range]; omega) ⟨List.length_replicate, List.length_replicate, fun r hr => by rw [List.eq_of_mem_replicate hr]; exact List.length_replicate, fun j hj => by omega⟩
    (fun i y s hx hI => by
      obtain ⟨hi, rfl⟩ := range_get hx
      obtain ⟨R, U⟩ := s
      obtain ⟨k1, k2, k3, k4⟩ := hI
      simp only at k1 k2 k3 k4
      have hir : 0 ≤ (y : Int) ∧ (y : Int) < (rows.length : Int) := by omega
      have hpr := rng (y : Int) hir
      have hyl : y < num.length := by omega
      have gnum : num[y]? = some (pt num (y : Int)) := by
        unfold pt
        rw [Int.toNat_natCast, getD_of (List.getElem?_eq_getElem hyl)]
        exact List.getElem?_eq_getElem hyl
      generalize hpe : pt num (y : Int) = p at *
      obtain ⟨pn, rfl⟩ : ∃ pn : Nat, p = (pn : Int) := ⟨p.toNat, by omega⟩
      obtain ⟨row, r1, r2, r3, r4⟩ := row_nat h hi
      have hmr := turn_row (N := N) (num := num) (R := R) (row := row) hN gnum (by omega) k3 (hs.w row r3) (fun z hz => by have := r4 z hz; omega)
      have gr : idx rule (y : Int) = some (rule.getD y 0) := by rw [getD_of (List.getElem?_eq_getElem (show y < rule.length by omega))]; exact idx_nat _
      have hpU : pn < U.length := by omega
      refine ⟨(R.set pn (row.map (pt num)), U.set pn (rule.getD y 0)), ?_, by simpa using k1, by simpa using k2, fun r hr => ?_, fun j hj => ?_⟩
      · unfold F_dofferlaw20_CanonOne_l1
        simp only [show ((y : Int) < (rows.length : Int)) by omega, decide_true, if_true, r1, bind, Option.bind_some]
        rw [hmr]
        simp only [idx_of gnum, gr, idx_nat hpU, setI_nat hpU, Option.bind_some]
        rw [w64_succ (by omega)]
      · rcases List.mem_or_eq_of_mem_set hr with hr | rfl
        · exact k3 r hr
        · rw [List.length_map]; exact hs.w row r3
      · by_cases hji : j = y
        · subst hji
          rw [hpe, Int.toNat_natCast, List.getElem?_set_self (by omega), List.getElem?_set_self hpU, r2]
          exact ⟨rfl, rfl⟩
        · have hjr : 0 ≤ (j : Int) ∧ (j : Int) < (rows.length : Int) := by omega
          have hpj := rng (j : Int) hjr
          have hne : pt num (j : Int) ≠ (pn : Int) := fun q => hji (by have := inj _ _ hjr hir (q.trans hpe.symm); omega)
          rw [List.getElem?_set_ne (by omega), List.getElem?_set_ne (by omega)]
          exact k4 j (by omega))
    (fun s _ => by unfold F_dofferlaw20_CanonOne_l1; simp)
  rw [List.length_range] at h5
  obtain ⟨E, q1, q2⟩ := loop_inv (f := fun s => F_dofferlaw20_CanonOne_l3 N entry num s.1 s.2) (fun i (s : List Int) => ((i : Int), s)) id entry (fun i s => s = (entry.take i).map (pt num)) (N := N) (s := []) (by omega) (by simp)
    (fun i y s hx hI => by
      have hi := lt_len hx
      have hyr := h.ent y (List.mem_of_getElem? hx)
      have gy := pt_idx (part := num) hl hyr
      have hsl : s.length = i := by rw [hI, List.length_map, List.length_take]; omega
      refine ⟨s ++ [pt num y], ?_, by rw [hI, List.take_add_one, hx, List.map_append]; rfl⟩
      unfold F_dofferlaw20_CanonOne_l3
      simp only [show ((i : Int) < (entry.length : Int)) by omega, decide_true, if_true, idx_of hx, gy, bind, Option.bind_some]
      rw [app_eq (by rw [List.length_singleton]; omega)]
      simp only [Option.bind_some]
      rw [w64_succ (by omega)])
    (fun s _ => by unfold F_dofferlaw20_CanonOne_l3; simp)
  rw [List.take_length] at q2
  refine ⟨s.1, s.2, h1, ?_, ⟨h2, rng, inj, ?_, fun x hx => ?_, fun x hx => ?_, rfl⟩, h3, h4⟩
  · rw [show iterO N (fun s => F_dofferlaw20_CanonOne_l3 N entry num s.1 s.2) (0, []) = _ from q1, q2]; rfl
  · have := hnum 0 (by omega)
    exact this
  · have := (h5 x.toNat (by omega)).1
    rw [show ((x.toNat : Nat) : Int) = x by omega] at this
    exact getD_of this
  · have := (h5 x.toNat (by omega)).2
    rw [show ((x.toNat : Nat) : Int) = x by omega] at this
    exact getD_of this
theorem canonOne_true {turn : Int} (hw : ∀ r ∈ rows, r.length = 256) : F_dofferlaw20_CanonOne 4294967296 rows rule entry turn = some true := by
  have hN : 4294967296 ≤ 4294967296 := Nat.le_refl _
  unfold F_dofferlaw20_CanonOne
  simp only [alive20, bind, Option.bind_some, Bool.not_true, Bool.false_eq_true, if_false]
  by_cases g1 : (rows.length : Int) > 14
  · simp [g1]
  obtain ⟨b, hb, hbt⟩ := right_any (rule := rule) (entry := entry) hN hw (by omega)
  simp only [decide_eq_false g1, Bool.false_eq_true, if_false, hb, Option.bind_some]
  by_cases h : Rt rows rule entry
  case neg =>
    have hbf : b = false := by
      cases b with
      | false => rfl
      | true => exact absurd (hbt.1 rfl) h
    subst hbf
    simp
  obtain rfl := hbt.2 h
  have hs := h.sz hw
  have hn1 := h.n1
  have hn2 := h.n2
  have hnz : nz (IntKind.wrap .u64 (rows.length : Int)) = some () := by
    rw [wrapU64 (by omega) (by omega)]
    unfold nz
    rw [if_neg (by omega)]
  obtain ⟨num, k, n1, n2, n3⟩ := turn_loop (N := 4294967296) (rows := rows) (turn := turn) hN rfl hn1 hn2
  obtain ⟨R, U, m1, m2, hI, hU, hR⟩ := turn_make (N := 4294967296) hN hs h n2 n3
  have he := hI.right h hU
  have hes := he.sz hR
  obtain ⟨P, m, hC⟩ := cls_ex (t_sz hs h) (t_right h)
  obtain ⟨P', m', hC'⟩ := cls_ex (t_sz hes he) (t_right he)
  have hA := least_lst hs h hC
  have hAs := mg_sz (t_sz hs h) (t_right h) hC
  have hB := least_lst hes he hC'
  have hBs := mg_sz (t_sz hes he) (t_right he) hC'
  have hLA : Lang rows rule entry _ _ _ := ⟨by simp [mgEntry, reEntry], fun c t ht => least_lang hs h hC c ht⟩
  have hLB : Lang R U (entry.map (pt num)) _ _ _ := ⟨by simp [mgEntry, reEntry], fun c t ht => least_lang hes he hC' c ht⟩
  obtain ⟨c1, c2, c3⟩ := lang_canon hAs hA hBs hB ((hLA.symm.trans (hI.lang hs h)).trans hLB)
  have hcR := re_right hA.1
  have hcs := re_sz hAs hA.1
  obtain ⟨d1, d2, d3⟩ := re_canon hA.1
  have k1 := canon_spec hN hAs hA.1
  have k2 := canon_spec hN hBs hB.1
  have k3 := canon_spec hN hcs hcR
  rw [d1, d2, d3] at k3
  rw [c1, c2, c3] at k2
  rw [mk_eq (by omega)]
  simp only [Option.bind_some, hnz]
  rw [n1]
  simp only [Option.bind_some]
  rw [mk_eq (by omega)]
  simp only [Option.bind_some]
  rw [m1]
  simp only [Option.bind_some]
  rw [m2]
  simp only [Option.bind_some, least_spec hN hs h hC, least_spec hN hes he hC', k1, k2, right_yes hN hes he, same_self hN hcs, k3, if_true]
  rfl
end
end Go.Proofs.YteiaphkejkgfkaaDoor
