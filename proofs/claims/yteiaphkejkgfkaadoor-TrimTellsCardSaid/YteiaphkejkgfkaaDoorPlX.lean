/-
  PLAIN LEAN: the document's Trim; the law TrimTells answers true.
-/
import Derived.Test.YteiaphkejkgfkaaDoorPlW
import Derived.Test.YteiaphkejkgfkaaDoorPlV18
namespace Go.Proofs.YteiaphkejkgfkaaDoor
open Go Go.Eng
set_option maxRecDepth 100000
section
variable {N : Nat} {rows : List (List Int)} {rule entry : List Int}
theorem refRowT {o P row : List Int} {n : Nat} (hN : 4294967296 ≤ N) (hg : ∀ x : Nat, x < n → P[x]? = some (pl o x)) (hw : row.length = 256) (hr : ∀ y ∈ row, 0 ≤ y ∧ y < (n : Int)) :
    iterO N (fun s => F_dofferref18_Trim_l2 N P row s.1 s.2) (List.replicate 256 0, 0) = some (row.map (pl o)) := by
  obtain ⟨r, h1, h2, h3⟩ := loop_inv (f := fun s => F_dofferref18_Trim_l2 N P row s.1 s.2) (fun i (s : List Int) => (s, (i : Int))) id row (fun i r => r.length = 256 ∧ ∀ j : Nat, j < i → r[j]? = (row[j]?).map (pl o)) (N := N) (s := List.replicate 256 0) (by omega)
    ⟨by simp, fun j hj => by omega⟩
    (fun i x r hx hI => by
      obtain ⟨k1, k2⟩ := hI
      have hi := lt_len hx
      have hxr := hr x (List.mem_of_getElem? hx)
      obtain ⟨v, rfl⟩ : ∃ v : Nat, x = (v : Int) := ⟨x.toNat, by omega⟩
      have hv : v < n := by omega
      have hir : i < r.length := by omega
      refine ⟨r.set i (pl o v), ?_, by simp [k1], fun j hj => ?_⟩
      · unfold F_dofferref18_Trim_l2
        simp only [show ((i : Int) < 256) by omega, decide_true, if_true, idx_of hx, idx_of (hg v hv), idx_nat hir, setI_nat hir, bind, Option.bind_some]
        rw [w64_succ (by omega)]
      · by_cases hj : j = i
        · subst hj
          rw [List.getElem?_set_self hir, hx]; rfl
        · rw [List.getElem?_set_ne (by omega), k2 j (by omega)])
    (fun s _ => by unfold F_dofferref18_Trim_l2; simp [hw])
  rw [show iterO N (fun s => F_dofferref18_Trim_l2 N P row s.1 s.2) (List.replicate 256 0, 0) = _ from h1]
  congr 1
  apply List.ext_getElem?
  intro j
  by_cases h : j < row.length
  · rw [id, h3 j h, List.getElem?_map]
  · rw [id, List.getElem?_eq_none (by omega), List.getElem?_eq_none (by simp; omega)]
theorem refTrim_spec (hN : 4294967296 ≤ N) (hs : Sz rows rule entry) (h : Rt rows rule entry) :
    F_dofferref18_Trim N rows rule entry = some (reRows (kp rows rule entry) rows, reRule (kp rows rule entry) rule, reEntry (kp rows rule entry) entry) := by
  have hA : Acc rows.length (kp rows rule entry) := kp_acc
  have hn1 := h.n1
  have hn2 := h.n2
  have he2 := h.e2
  have hru := h.ru
  obtain ⟨L1, a1, a2, a3⟩ := refReached_spec (N := N) hN hs h
  obtain ⟨L2, b1, b2, b3⟩ := refLive_spec (N := N) hN hs h
  unfold F_dofferref18_Trim
  simp only [a1, b1, bind, Option.bind_some]
  rw [mk_eq (by omega)]
  simp only [Option.bind_some]
  obtain ⟨P, p1, p2, p3⟩ := refNumber (N := N) (k := kpf rows rule entry) hN rfl hn1 (by omega) a2 b2 (by simp [kpf]) (fun j h0 hj => by
    have e1 : bt L1 j = rch rows entry j := by rw [Bool.eq_iff_iff, a3 j hj, rch_iff]
    have e2 : bt L2 j = lv rows rule j := by rw [Bool.eq_iff_iff, b3 j hj, lv_iff]
    have e0 : (j == 0) = false := by simp; omega
    rw [e1, e2, kpf, e0, Bool.false_or])
  rw [p1]
  simp only [Option.bind_some]
  have hz : pl (kp rows rule entry) 0 = 0 := pl_zero hA (kp_zero h)
  change ∀ x : Nat, x < rows.length → P[x]? = some (pl (kp rows rule entry) x) at p3
  obtain ⟨s1, q1, q2, q3⟩ := loop_inv (f := fun s => F_dofferref18_Trim_l1 N rows rule P s.1 s.2.1 s.2.2) (fun i (s : List (List Int) × List Int) => ((i : Int), s.1, s.2)) id rows
    (fun i s => s.1 = (lst (kpf rows rule entry) i).map (fun s => (rows.getD s.toNat []).map (pl (kp rows rule entry))) ∧ s.2 = (lst (kpf rows rule entry) i).map (fun s => rule.getD s.toNat 0)) (N := N) (s := ([], [])) (by omega) ⟨by simp [lst], by simp [lst]⟩
    (fun i x s hx hI => by
      obtain ⟨k1, k2⟩ := hI
      obtain ⟨R, U⟩ := s
      simp only at k1 k2
      have hi := lt_len hx
      have hvu : i < rule.length := by omega
      have hli := lst_len (kpf rows rule entry) i
      have l1 : R.length ≤ i := by rw [k1]; simp; omega
      have l2 : U.length ≤ i := by rw [k2]; simp; omega
      have hsu := lst_succ (kpf rows rule entry) i
      have hPi : idx P (i : Int) = some (pl (kp rows rule entry) i) := idx_of (p3 i hi)
      have hrow := List.mem_of_getElem? hx
      have gate : (((if (decide ((i : Int) > 0)) = true then (some (pl (kp rows rule entry) i == 0)) else (some false)) : Option Bool)) = some (!kpf rows rule entry i) := by
        by_cases h0 : i = 0
        · subst h0
          simp [kpf]
        · have : (i : Int) > 0 := by omega
          simp only [this, decide_true, if_true]
          congr 1
          cases hk : kpf rows rule entry i with
          | false =>
            unfold kp
            rw [pl_lst hi, hk]
            rfl
          | true =>
            have hm : (i : Int) ∈ kp rows rule entry := mem_lst.2 ⟨by omega, by simpa using hk⟩
            have hne : ¬ pl (kp rows rule entry) (i : Int) = 0 := fun e => by
              have := pl_inj hm ((mem_kp h).2 (.inl rfl)) (e.trans hz.symm)
              omega
            simpa using hne
      by_cases hk : kpf rows rule entry i = true
      · refine ⟨(R ++ [x.map (pl (kp rows rule entry))], U ++ [rule[i]]), ?_, ?_, ?_⟩
        · unfold F_dofferref18_Trim_l1
          simp only [show ((i : Int) < (rows.length : Int)) by omega, decide_true, if_true, idx_of hx, hPi, bind, Option.bind_some, gate, hk, Bool.not_true, Bool.false_eq_true, if_false]
          rw [refRowT hN p3 (hs.w x hrow) (h.row x hrow)]
          simp only [Option.bind_some]
          rw [app_eq (by simp; omega)]
          simp only [Option.bind_some, idx_nat hvu]
          rw [app_eq (by simp; omega)]
          simp only [Option.bind_some]
          rw [w64_succ (by omega)]
        · show R ++ _ = _
          rw [hsu, if_pos hk, List.map_append, k1]
          simp only [List.map_cons, List.map_nil, Int.toNat_natCast]
          rw [getD_of hx]
        · show U ++ _ = _
          rw [hsu, if_pos hk, List.map_append, k2]
          simp only [List.map_cons, List.map_nil, Int.toNat_natCast]
          rw [getD_of (List.getElem?_eq_getElem hvu)]
      · have hk' : kpf rows rule entry i = false := by simpa using hk
        refine ⟨(R, U), ?_, ?_, ?_⟩
        · unfold F_dofferref18_Trim_l1
          simp only [show ((i : Int) < (rows.length : Int)) by omega, decide_true, if_true, idx_of hx, hPi, bind, Option.bind_some, gate, hk', Bool.not_false]
          rw [w64_succ (by omega)]
        · show R = _
          rw [hsu, if_neg hk, k1]
        · show U = _
          rw [hsu, if_neg hk, k2])
    (fun s _ => by unfold F_dofferref18_Trim_l1; simp)
  rw [show iterO N (fun s => F_dofferref18_Trim_l1 N rows rule P s.1 s.2.1 s.2.2) (0, [], []) = _ from q1]
  obtain ⟨s1a, s1b⟩ := s1
  simp only at q2 q3
  subst q2 q3
  simp only [Option.bind_some, id]
  obtain ⟨s3, w1, w2⟩ := loop_inv (f := fun s => F_dofferref18_Trim_l3 N entry P s.1 s.2) (fun i (s : List Int) => (s, (i : Int))) id entry (fun i s => s = (reEntry (kp rows rule entry) entry).take i) (N := N) (s := []) (by omega) (by simp)
    (fun i x s hx k1 => by
      have hi := lt_len hx
      have hxr := h.ent x (List.mem_of_getElem? hx)
      obtain ⟨v, rfl⟩ : ∃ v : Nat, x = (v : Int) := ⟨x.toNat, by omega⟩
      have l1 : s.length ≤ i := by rw [k1]; simp; omega
      refine ⟨s ++ [pl (kp rows rule entry) v], ?_, ?_⟩
      · unfold F_dofferref18_Trim_l3
        simp only [show ((i : Int) < (entry.length : Int)) by omega, decide_true, if_true, idx_of hx, idx_of (p3 v (by omega)), bind, Option.bind_some]
        rw [app_eq (by simp; omega)]
        simp only [Option.bind_some]
        rw [w64_succ (by omega)]
      · have : (reEntry (kp rows rule entry) entry)[i]? = some (pl (kp rows rule entry) v) := by unfold reEntry; rw [List.getElem?_map, hx]; rfl
        rw [List.take_add_one, this, k1]; rfl)
    (fun s _ => by unfold F_dofferref18_Trim_l3; simp)
  rw [show iterO N (fun s => F_dofferref18_Trim_l3 N entry P s.1 s.2) ([], 0) = _ from w1]
  rw [List.take_of_length_le (by simp [reEntry])] at w2
  subst w2
  rfl
theorem trimTells_true (hw : ∀ r ∈ rows, r.length = 256) : F_dofferlaw18_TrimTells 4294967296 rows rule entry = some true := by
  unfold F_dofferlaw18_TrimTells
  simp only [alive18, bind, Option.bind_some, Bool.not_true, Bool.false_eq_true, if_false]
  by_cases g1 : (rows.length : Int) > 20
  · simp [F_dofferlaw17_Of, g1]
  by_cases g2 : (rule.length : Int) > 20
  · simp [F_dofferlaw17_Of, g1, g2]
  by_cases g3 : (entry.length : Int) > 20
  · simp [F_dofferlaw17_Of, g1, g2, g3]
  have hN : 4294967296 ≤ 4294967296 := Nat.le_refl _
  have hs : Sz rows rule entry := ⟨hw, by omega, by omega, by omega⟩
  rw [of_spec hN hs, if_neg (by omega)]
  obtain ⟨b, hb, hbt⟩ := refRight_spec hN hs
  obtain ⟨b1, hb1, hbt1⟩ := isTrim_spec hN hs
  simp only [Option.bind_some, Bool.not_true, Bool.false_eq_true, if_false, hb]
  by_cases h : Rt rows rule entry
  case neg =>
    have hbf : b = false := by
      cases b with
      | false => rfl
      | true => exact absurd (hbt.1 rfl) h
    subst hbf
    have hbf' : b1 = false := by
      cases b1 with
      | false => rfl
      | true => exact absurd (hbt1.1 rfl).1 h
    subst hbf'
    simp only [trim_not hN hs h, Reached_not hN hs h, Live_not hN hs h, hb1, Option.bind_some, Bool.not_false, if_true]
    rfl
  obtain rfl := hbt.2 h
  have hA : Acc rows.length (kp rows rule entry) := kp_acc
  have hle := hA.len
  have hr := reO_right h hA (kp_zero h)
  have hrs := reO_sz hs h hA
  have he2 := h.e2
  have g4 : ¬ (((reRows (kp rows rule entry) rows).length : Int) > 20 ∨ ((reRule (kp rows rule entry) rule).length : Int) > 20 ∨ ((reEntry (kp rows rule entry) entry).length : Int) > 20) := by
    simp only [reRows, reRule, reEntry, List.length_map]
    omega
  obtain ⟨b2, hb2, hbt2⟩ := isTrim_spec hN hrs
  obtain rfl := hbt2.2 ⟨hr, by rw [kp_re h, upto_len]⟩
  obtain ⟨L1, a1, a2, a3⟩ := refReached_spec (N := 4294967296) hN hs h
  obtain ⟨L2, c1, c2, c3⟩ := refLive_spec (N := 4294967296) hN hs h
  have d1 : lst (bt L1) L1.length = lst (rch rows entry) rows.length := by
    rw [a2]
    exact lst_congr fun j hj => by rw [Bool.eq_iff_iff, a3 j hj, rch_iff]
  have d2 : lst (bt L2) L2.length = lst (lv rows rule) rows.length := by
    rw [c2]
    exact lst_congr fun j hj => by rw [Bool.eq_iff_iff, c3 j hj, lv_iff]
  have m1 := lst_len (rch rows entry) rows.length
  have m2 := lst_len (lv rows rule) rows.length
  have e1 : (b1 == (((reRows (kp rows rule entry) rows).length : Int) == (rows.length : Int))) = true := by
    have : b1 = true ↔ ((reRows (kp rows rule entry) rows).length : Int) = (rows.length : Int) := hbt1.trans ⟨fun q => by simp only [reRows, List.length_map]; omega, fun q => ⟨h, by simp only [reRows, List.length_map] at q; omega⟩⟩
    rw [beq_iff_eq, Bool.eq_iff_iff, this, beq_iff_eq]
  simp only [trim_spec hN hs h, refTrim_spec hN hs h, Reached_yes hN hs h, Live_yes hN hs h, a1, c1, refList_spec hN (show L1.length < 4294967296 by omega), refList_spec hN (show L2.length < 4294967296 by omega), d1, d2, of_spec hN hrs, if_neg g4, sameInts_spec hN (show (lst (rch rows entry) rows.length).length < 4294967296 by omega), sameInts_spec hN (show (lst (lv rows rule) rows.length).length < 4294967296 by omega), same_spec hN hrs, same_spec hN hs, hb1, hb2, e1, Option.bind_some, Bool.not_true, Bool.false_eq_true, if_false, decide_true, and_self, if_true]
end
end Go.Proofs.YteiaphkejkgfkaaDoor
