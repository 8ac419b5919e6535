/-
  PLAIN LEAN: the marks, one after the other: bits.TrailingZeros64, After, List.
-/
import Derived.Test.YteiaphkejkgfkaaDoorPlN
namespace Go.Proofs.YteiaphkejkgfkaaDoor
open Go Go.Eng
theorem has_spec {N n i : Nat} {m : List Int} (hm : MkR n m) (hi : i < n) (hn : n ≤ 65536) : F_marks_Marks_Has_1 N m (n : Int) (i : Int) = some (has m i) := by
  have hl : i / 64 < m.length := by rw [hm.len]; omega
  have hw := hm.rng _ (List.getElem_mem hl)
  have hp : (2 : Nat) ^ (i % 64) < 18446744073709551616 := by
    have h1 : (2 : Nat) ^ (i % 64) ≤ 2 ^ 63 := Nat.pow_le_pow_right (by omega) (by omega)
    have h2 : (2 : Nat) ^ 63 = 9223372036854775808 := by decide
    omega
  obtain ⟨a, ha⟩ : ∃ a : Nat, m[i / 64] = (a : Int) := ⟨m[i / 64].toNat, by omega⟩
  have hx : m[i / 64]? = some (a : Int) := by rw [List.getElem?_eq_getElem hl, ha]
  have ha' : a < 18446744073709551616 := by omega
  have hh : has m i = a.testBit (i % 64) := by simp [has, List.getD, hx]
  have hand : (a &&& 2 ^ (i % 64) = 0) ↔ a.testBit (i % 64) = false := by
    constructor
    · intro h
      have := congrArg (·.testBit (i % 64)) h
      simpa [Nat.testBit_and, Nat.testBit_two_pow_self] using this
    · intro h
      apply Nat.eq_of_testBit_eq
      intro j
      rw [Nat.testBit_and, Nat.testBit_two_pow]
      by_cases hj : i % 64 = j
      · subst hj; simp [h]
      · simp [hj]
  unfold F_marks_Marks_Has_1
  rw [at_spec (by omega)]
  simp only [bind, Option.bind_some, decide_eq_true hi, if_true, idx_of hx, iand_u64 ha' hp, hh]
  by_cases hb : a.testBit (i % 64) = true
  · have h1 : ¬ (a &&& 2 ^ (i % 64) = 0) := fun h => by rw [hand.1 h] at hb; cases hb
    have h2 : (((a &&& 2 ^ (i % 64) : Nat) : Int) != 0) = true := by simp; omega
    rw [h2, hb]
  · have hb : a.testBit (i % 64) = false := by simpa using hb
    have h2 : (((a &&& 2 ^ (i % 64) : Nat) : Int) != 0) = false := by rw [hand.2 hb]; rfl
    rw [h2, hb]
/-! ### The lowest bit -/
theorem low_bit : ∀ {x : Nat}, x ≠ 0 → ∃ k, x.testBit k = true ∧ ∀ j, j < k → x.testBit j = false := by
  intro x hx
  obtain ⟨i, hi⟩ := Nat.exists_testBit_of_ne_zero hx
  induction i using Nat.strongRecOn with
  | ind i ih =>
    by_cases h : ∃ j, j < i ∧ x.testBit j = true
    · obtain ⟨j, hj, hb⟩ := h
      exact ih j hj hb
    · refine ⟨i, hi, fun j hj => ?_⟩
      cases hb : x.testBit j with
      | false => rfl
      | true => exact absurd ⟨j, hj, hb⟩ h
theorem low_shape {x k : Nat} (h1 : x.testBit k = true) (h2 : ∀ j, j < k → x.testBit j = false) : ∃ q, x = 2 ^ k * (2 * q + 1) := by
  have hm : x % 2 ^ k = 0 := by
    apply Nat.eq_of_testBit_eq
    intro j
    rw [Nat.testBit_mod_two_pow, Nat.zero_testBit]
    by_cases hj : j < k
    · simp [h2 j hj]
    · simp [hj]
  have ho : x / 2 ^ k % 2 = 1 := by
    rw [Nat.testBit_eq_decide_div_mod_eq] at h1
    simpa using h1
  refine ⟨x / 2 ^ k / 2, ?_⟩
  have e1 : 2 * (x / 2 ^ k / 2) + 1 = x / 2 ^ k := by omega
  rw [e1]
  have := Nat.div_add_mod x (2 ^ k)
  omega
theorem and_neg {x k : Nat} (hx : x < 18446744073709551616) (h1 : x.testBit k = true) (h2 : ∀ j, j < k → x.testBit j = false) : x &&& (18446744073709551616 - x) = 2 ^ k := by
  obtain ⟨q, hq⟩ := low_shape h1 h2
  have hp : 0 < 2 ^ k := Nat.pow_pos (by omega)
  have hpos : 0 < x := by rw [hq]; exact Nat.mul_pos hp (by omega)
  have hk : k < 64 := by
    apply Nat.lt_of_not_le
    intro h
    have := Nat.testBit_lt_two_pow (x := x) (i := k) (Nat.lt_of_lt_of_le hx (by
      have := Nat.pow_le_pow_right (n := 2) (by omega) h
      have e : (2 : Nat) ^ 64 = 18446744073709551616 := by decide
      omega))
    rw [this] at h1; cases h1
  have hy : x - 1 = 2 ^ k * (2 * q) + (2 ^ k - 1) := by
    rw [hq, Nat.mul_add, Nat.mul_one]; omega
  have hx' : x = 2 ^ k * (2 * q + 1) + 0 := by rw [hq]; rfl
  have e64 : (18446744073709551616 : Nat) - x = 2 ^ 64 - ((x - 1) + 1) := by
    have e : (2 : Nat) ^ 64 = 18446744073709551616 := by decide
    omega
  rw [e64]
  apply Nat.eq_of_testBit_eq
  intro i
  rw [Nat.testBit_and, Nat.testBit_two_pow_sub_succ (by have e : (2 : Nat) ^ 64 = 18446744073709551616 := by decide
                                                        omega), Nat.testBit_two_pow]
  by_cases hi : i < k
  · rw [h2 i hi]
    have : ¬ k = i := by omega
    simp [this]
  · have ey : (x - 1).testBit i = (2 * q).testBit (i - k) := by
      rw [hy, Nat.testBit_two_pow_mul_add _ (by omega), if_neg hi]
    have ex : x.testBit i = (2 * q + 1).testBit (i - k) := by
      rw [hx', Nat.testBit_two_pow_mul_add _ hp, if_neg hi]
    rw [ex, ey]
    by_cases hik : i = k
    · subst hik
      have : i < 64 := hk
      simp [this, Nat.testBit_zero]
    · obtain ⟨j, hj⟩ : ∃ j, i - k = j + 1 := ⟨i - k - 1, by omega⟩
      have hne : ¬ k = i := by omega
      rw [hj, Nat.testBit_succ, Nat.testBit_succ]
      have e1 : (2 * q + 1) / 2 = q := by omega
      have e2 : 2 * q / 2 = q := by omega
      rw [e1, e2]
      have h64 : q.testBit j = true → i < 64 := fun h => by
        apply Nat.lt_of_not_le
        intro hge
        have e : (2 : Nat) ^ 64 = 18446744073709551616 := by decide
        have hxi := Nat.testBit_lt_two_pow (x := x) (i := i) (Nat.lt_of_lt_of_le hx (by
          have := Nat.pow_le_pow_right (n := 2) (by omega) hge
          omega))
        rw [ex, hj, Nat.testBit_succ, e1, h] at hxi
        cases hxi
      cases hq : q.testBit j with
      | false => simp [hne]
      | true => simp [hne, h64 hq]
theorem tab_all : ∀ k : Fin 64, tab_math_bits_deBruijn64tab[(2 ^ k.val * 285870213051353865 % 18446744073709551616) / 288230376151711744]? = some (k.val : Int) := by decide +kernel
theorem tz_spec {N x k : Nat} (hx : x < 18446744073709551616) (h1 : x.testBit k = true) (h2 : ∀ j, j < k → x.testBit j = false) (hk : k < 64) : F_math_bits_TrailingZeros64 N (x : Int) = some (k : Int) := by
  have h0 : x ≠ 0 := fun h => by rw [h] at h1; simp at h1
  have hn : (((x : Int)) == 0) = false := by simp; exact h0
  have e1 : IntKind.wrap .u64 (0 - (x : Int)) = ((18446744073709551616 - x : Nat) : Int) := by
    simp only [IntKind.wrap, IntKind.signed, IntKind.bits]
    simp
    omega
  have hp : (2 : Nat) ^ k ≤ 2 ^ 63 := Nat.pow_le_pow_right (by omega) (by omega)
  have e2 : IntKind.wrap .u64 (((2 ^ k : Nat) : Int) * 285870213051353865) = ((2 ^ k * 285870213051353865 % 18446744073709551616 : Nat) : Int) := by
    simp only [IntKind.wrap, IntKind.signed, IntKind.bits]
    simp
  unfold F_math_bits_TrailingZeros64
  rw [hn]
  simp only [Bool.false_eq_true, if_false, e1]
  rw [iand_u64 hx (by omega), and_neg hx h1 h2, e2]
  have e3 := shr_u64 (a := 2 ^ k * 285870213051353865 % 18446744073709551616) (k := 58) (by omega)
  rw [show ((58 : Nat) : Int) = 58 from rfl] at e3
  simp only [Nat.reducePow] at e3
  rw [e3]
  have e4 := tab_all ⟨k, hk⟩
  simp only at e4
  simp only [idx_of e4, bind, Option.bind_some]
  rw [wrap64 (by omega) (by omega)]
/-! ### After, List -/
theorem has_big {j : Nat} {m : List Int} (h : m.length ≤ j / 64) : has m j = false := by
  unfold has
  rw [List.getD, List.getElem?_eq_none h]; simp
theorem after_spec {N n : Nat} {i : Int} {m : List Int} (hN : 4294967296 ≤ N) (hm : MkR n m) (hn : n ≤ 65536) (h1 : -1 ≤ i) (h2 : i < n) :
    ∃ r, F_marks_Marks_After_1 N m (n : Int) i = some r ∧ ((r = -1 ∧ ∀ j : Nat, i < (j : Int) → has m j = false) ∨ ∃ j : Nat, r = (j : Int) ∧ i < (j : Int) ∧ has m j = true ∧ ∀ j' : Nat, i < (j' : Int) → j' < j → has m j' = false) := by
  obtain ⟨p, hp⟩ : ∃ p : Nat, i + 1 = (p : Int) := ⟨(i + 1).toNat, by omega⟩
  have e1 : w64 (imax i (-1) + 1) = (p : Int) := by
    have : imax i (-1) = i := by
      unfold imax
      by_cases h : -1 > i
      · omega
      · rw [if_neg h]
    rw [this, hp, w64, wrap64] <;> omega
  have e2 : w64 ((p : Int).tdiv 64) = ((p / 64 : Nat) : Int) := by
    have : (p : Int).tdiv 64 = ((p / 64 : Nat) : Int) := by rw [Int.tdiv_eq_ediv_of_nonneg (by omega)]; omega
    rw [this, w64, wrap64] <;> omega
  have e3 : w64 ((p : Int).tmod 64) = ((p % 64 : Nat) : Int) ∧ (p : Int).tmod 64 = ((p % 64 : Nat) : Int) := by
    have : (p : Int).tmod 64 = ((p % 64 : Nat) : Int) := by rw [Int.tmod_eq_emod_of_nonneg (by omega)]; omega
    refine ⟨?_, this⟩
    rw [this, w64, wrap64] <;> omega
  have hml : m.length ≤ 1024 := by rw [hm.len]; omega
  unfold F_marks_Marks_After_1
  have hlt : ¬ i ≥ (n : Int) := by omega
  simp only [F_marks_Marks_Size, bind, Option.bind_some, decide_eq_false hlt, Bool.false_eq_true, if_false, e1, e2]
  obtain ⟨r, hr, hq⟩ := iterO_while (f := fun s => F_marks_Marks_After_1_l0 N m (n : Int) i s) (fun s => ∃ k : Nat, s = (k : Int) ∧ p / 64 ≤ k ∧ k ≤ m.length + p / 64 ∧ ∀ j' : Nat, p ≤ j' → j' < 64 * k → has m j' = false)
    (fun s => m.length + p / 64 - s.toNat) (fun (r : Unit ⊕ Int) => match r with
      | .inl _ => ∀ j : Nat, i < (j : Int) → has m j = false
      | .inr z => ∃ j : Nat, z = (j : Int) ∧ i < (j : Int) ∧ has m j = true ∧ ∀ j' : Nat, i < (j' : Int) → j' < j → has m j' = false) (fun s hI => by
      obtain ⟨k, rfl, hk1, hk2, hk3⟩ := hI
      unfold F_marks_Marks_After_1_l0
      simp only [F_marks_Marks_own, bind, Option.bind_some, e1, e2]
      by_cases hkl : k < m.length
      · have hw := hm.rng _ (List.getElem_mem hkl)
        obtain ⟨a, ha⟩ : ∃ a : Nat, m[k] = (a : Int) := ⟨m[k].toNat, by omega⟩
        have hx : m[k]? = some (a : Int) := by rw [List.getElem?_eq_getElem hkl, ha]
        have ha' : a < 18446744073709551616 := by omega
        have hhas : ∀ c, c < 64 → has m (64 * k + c) = a.testBit c := fun c hc => by
          have q1 : (64 * k + c) / 64 = k := by omega
          have q2 : (64 * k + c) % 64 = c := by omega
          simp [has, q1, q2, List.getD, hx]
        -- the word, its lower bits struck in the first one
        obtain ⟨b, hb, hb2, hbt⟩ : ∃ b : Nat, (if ((k : Int) == ((p / 64 : Nat) : Int)) = true then (nn ((p : Int).tmod 64) >>= fun _ => nn ((p : Int).tmod 64) >>= fun _ => some (shlI .u64 (shrI .u64 (a : Int) ((p : Int).tmod 64)) ((p : Int).tmod 64))) else some (a : Int)) = some (b : Int) ∧ b < 18446744073709551616 ∧
            ∀ c, c < 64 → b.testBit c = (decide (p ≤ 64 * k + c) && a.testBit c) := by
          by_cases hk0 : k = p / 64
          · have q : ((k : Int) == ((p / 64 : Nat) : Int)) = true := by simp [hk0]
            have hnn : nn ((p % 64 : Nat) : Int) = some () := by unfold nn; rw [if_pos (by omega)]
            have hle : a / 2 ^ (p % 64) * 2 ^ (p % 64) ≤ a := Nat.div_mul_le_self _ _
            refine ⟨a / 2 ^ (p % 64) * 2 ^ (p % 64), ?_, by omega, fun c hc => ?_⟩
            · rw [if_pos q, e3.2, hnn, shr_u64 (by omega)]
              simp only [bind, Option.bind_some, shlI, IntKind.bits, Int.toNat_natCast, Nat.min_eq_left (show p % 64 ≤ 64 by omega)]
              have e4 : (((a / 2 ^ (p % 64) : Nat) : Int) * 2 ^ (p % 64)) = ((a / 2 ^ (p % 64) * 2 ^ (p % 64) : Nat) : Int) := by push_cast; rfl
              rw [e4, wrapN (by omega)]
            · rw [Nat.testBit_mul_two_pow, Nat.testBit_div_two_pow]
              by_cases hc2 : p % 64 ≤ c
              · have q3 : p % 64 + (c - p % 64) = c := by omega
                have q4 : p ≤ 64 * k + c := by omega
                rw [show c - p % 64 + p % 64 = c by omega]
                simp [hc2, q4]
              · have q4 : ¬ p ≤ 64 * k + c := by omega
                simp [hc2, q4]
          · have q : ((k : Int) == ((p / 64 : Nat) : Int)) = false := by simp; omega
            refine ⟨a, by rw [q]; rfl, ha', fun c hc => ?_⟩
            have q4 : p ≤ 64 * k + c := by omega
            simp [q4]
        simp only [show ((k : Int) < (m.length : Int)) by omega, decide_true, if_true, idx_of hx, bind, Option.bind_some]
        simp only [bind] at hb
        rw [hb]
        simp only [Option.bind_some]
        by_cases hb0 : b = 0
        · left
          subst hb0
          refine ⟨((k + 1 : Nat) : Int), ?_, ⟨k + 1, rfl, by omega, by omega, fun j' h3 h4 => ?_⟩, by simp; omega⟩
          · simp only [show ((((0 : Nat) : Int)) != 0) = false from rfl, Bool.false_eq_true, if_false, Option.bind_some]
            rw [w64_succ (by omega)]
          · by_cases hj : j' < 64 * k
            · exact hk3 j' h3 hj
            · obtain ⟨c, rfl⟩ : ∃ c, j' = 64 * k + c := ⟨j' - 64 * k, by omega⟩
              have := hbt c (by omega)
              rw [Nat.zero_testBit] at this
              rw [hhas c (by omega)]
              have q4 : decide (p ≤ 64 * k + c) = true := by simp; omega
              rw [q4] at this
              simpa using this.symm
        · right
          obtain ⟨c, hc1, hc2⟩ := low_bit hb0
          have hc : c < 64 := by
            apply Nat.lt_of_not_le
            intro h
            have := Nat.testBit_lt_two_pow (x := b) (i := c) (Nat.lt_of_lt_of_le hb2 (by
              have := Nat.pow_le_pow_right (n := 2) (by omega) h
              have e : (2 : Nat) ^ 64 = 18446744073709551616 := by decide
              omega))
            rw [this] at hc1; cases hc1
          have hbc := hbt c hc
          rw [hc1] at hbc
          have hbc' := (Bool.and_eq_true _ _).mp hbc.symm
          have hpc : p ≤ 64 * k + c := by simpa using hbc'.1
          refine ⟨.inr (((64 * k + c : Nat)) : Int), ?_, 64 * k + c, rfl, by omega, by rw [hhas c hc]; exact hbc'.2, fun j' h3 h4 => ?_⟩
          · have q5 : (((b : Nat) : Int) != 0) = true := by simp; omega
            have e5 : w64 (64 * (k : Int)) = ((64 * k : Nat) : Int) := by rw [w64, wrap64] <;> omega
            have e6 : w64 (((64 * k : Nat) : Int) + (c : Int)) = ((64 * k + c : Nat) : Int) := by rw [w64, wrap64] <;> omega
            simp only [q5, if_true, tz_spec (N := N) hb2 hc1 hc2 hc, Option.bind_some, e5, e6]
          · by_cases hj : j' < 64 * k
            · exact hk3 j' (by omega) hj
            · obtain ⟨c', rfl⟩ : ∃ c', j' = 64 * k + c' := ⟨j' - 64 * k, by omega⟩
              have := hbt c' (by omega)
              rw [hc2 c' (by omega)] at this
              rw [hhas c' (by omega)]
              have q4 : decide (p ≤ 64 * k + c') = true := by simp; omega
              rw [q4] at this
              simpa using this.symm
      · right
        refine ⟨.inl (), by simp [show ¬ ((k : Int) < (m.length : Int)) by omega], fun j hj => ?_⟩
        by_cases hj2 : j < 64 * k
        · exact hk3 j (by omega) hj2
        · exact has_big (by omega))
    (N := N) (s := ((p / 64 : Nat) : Int)) ⟨p / 64, rfl, by omega, by omega, fun j' h3 h4 => by omega⟩ (by simp; omega)
  rw [hr]
  cases r with
  | inl u => exact ⟨-1, rfl, .inl ⟨rfl, hq⟩⟩
  | inr z => exact ⟨z, rfl, .inr hq⟩
/-- the marked numbers below n -/
def lst (f : Nat → Bool) (n : Nat) : List Int := ((List.range n).filter f).map fun (j : Nat) => (j : Int)
theorem lst_succ (f : Nat → Bool) (n : Nat) : lst f (n + 1) = if f n then lst f n ++ [(n : Int)] else lst f n := by
  unfold lst
  rw [List.range_succ, List.filter_append, List.map_append]
  cases hf : f n <;> simp [hf]
theorem lst_len (f : Nat → Bool) (n : Nat) : (lst f n).length ≤ n := by
  unfold lst
  rw [List.length_map]
  have := List.length_filter_le f (List.range n)
  simpa using this
theorem lst_gap {f : Nat → Bool} {a : Nat} (ha : f a = true) : ∀ {b : Nat}, a < b → (∀ c, a < c → c < b → f c = false) → lst f b = lst f a ++ [(a : Int)]
  | 0, h, _ => by omega
  | b + 1, h, hg => by
    rw [lst_succ]
    by_cases hb : b = a
    · subst hb; simp [ha]
    · rw [hg b (by omega) (by omega)]
      simp only [Bool.false_eq_true, if_false]
      exact lst_gap ha (by omega) fun c h1 h2 => hg c h1 (by omega)
theorem lst_none {f : Nat → Bool} : ∀ {n : Nat}, (∀ c, c < n → f c = false) → lst f n = []
  | 0, _ => rfl
  | n + 1, h => by rw [lst_succ, h n (by omega)]; simpa using lst_none fun c hc => h c (by omega)
theorem lst_first {f : Nat → Bool} {a : Nat} (h : ∀ c, c < a → f c = false) : lst f a = [] := lst_none h
theorem lst_congr {f g : Nat → Bool} : ∀ {n : Nat}, (∀ c, c < n → f c = g c) → lst f n = lst g n
  | 0, _ => rfl
  | n + 1, h => by rw [lst_succ, lst_succ, h n (by omega), lst_congr fun c hc => h c (by omega)]
theorem list_spec {N n : Nat} {m : List Int} (hN : 4294967296 ≤ N) (hm : MkR n m) (hn : n ≤ 65536) (h0 : 0 < n) (hb : ∀ j, n ≤ j → has m j = false) : F_marks_Marks_List_1 N m (n : Int) = some (lst (has m) n) := by
  unfold F_marks_Marks_List_1
  obtain ⟨r0, e0, q0⟩ := after_spec (i := -1) hN hm hn (by omega) (by omega)
  simp only [e0, bind, Option.bind_some]
  obtain ⟨r, hr, hq⟩ := iterO_while (f := fun s => F_marks_Marks_List_1_l0 N m (n : Int) s.1 s.2) (fun s => (s.2 = -1 ∧ s.1 = lst (has m) n) ∨ ∃ j : Nat, s.2 = (j : Int) ∧ j < n ∧ has m j = true ∧ s.1 = lst (has m) j)
    (fun s => if s.2 < 0 then 0 else n - s.2.toNat) (fun r => r = lst (has m) n) (fun s hI => by
      obtain ⟨out, cur⟩ := s
      simp only at hI ⊢
      unfold F_marks_Marks_List_1_l0
      rcases hI with ⟨rfl, rfl⟩ | ⟨j, rfl, hj, hhj, rfl⟩
      · right
        exact ⟨_, by simp, rfl⟩
      · left
        have hlen := lst_len (has m) j
        obtain ⟨r, e1, q1⟩ := after_spec (i := (j : Int)) hN hm hn (by omega) (by omega)
        refine ⟨(lst (has m) j ++ [(j : Int)], r), ?_, ?_, ?_⟩
        · simp only [show ((j : Int) ≥ 0) by omega, decide_true, if_true, bind]
          rw [app_eq (by simp; omega)]
          simp only [Option.bind_some, e1]
        · rcases q1 with ⟨rfl, h2⟩ | ⟨j', rfl, h2, h3, h4⟩
          · exact .inl ⟨rfl, (lst_gap hhj hj fun c h5 h6 => h2 c (by omega)).symm⟩
          · have hjn : j' < n := by
              apply Nat.lt_of_not_le
              intro h
              rw [hb j' h] at h3; cases h3
            exact .inr ⟨j', rfl, hjn, h3, (lst_gap hhj (by omega) fun c h5 h6 => h4 c (by omega) h6).symm⟩
        · rcases q1 with ⟨rfl, h2⟩ | ⟨j', rfl, h2, h3, h4⟩
          · simp only [show ((-1 : Int) < 0) by decide, if_true, show ¬ ((j : Int) < 0) by omega, if_false]; omega
          · simp only [show ¬ ((j : Int) < 0) by omega, show ¬ ((j' : Int) < 0) by omega, if_false]; omega)
    (N := N) (s := ([], r0)) (by
      rcases q0 with ⟨rfl, h2⟩ | ⟨j', rfl, h2, h3, h4⟩
      · exact .inl ⟨rfl, (lst_none fun c hc => h2 c (by omega)).symm⟩
      · have hjn : j' < n := by
          apply Nat.lt_of_not_le
          intro h
          rw [hb j' h] at h3; cases h3
        exact .inr ⟨j', rfl, hjn, h3, (lst_first fun c hc => h4 c (by omega) hc).symm⟩) (by simp only; split <;> omega)
  rw [show iterO N (fun s => F_marks_Marks_List_1_l0 N m (n : Int) s.1 s.2) ([], r0) = _ from hr, hq]
  rfl
end Go.Proofs.YteiaphkejkgfkaaDoor
