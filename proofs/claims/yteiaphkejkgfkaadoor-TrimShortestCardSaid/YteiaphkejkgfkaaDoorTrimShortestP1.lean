/-
  PLAIN LEAN, no program in sight: what the pure functions answer.
-/
import Derived.Test.YteiaphkejkgfkaaDoorTrimShortestD1
namespace Go.Eng
open Go
theorem iterO_for {σ τ : Type} {f : σ → Option (σ ⊕ τ)} {r : τ} (st : Nat → σ) : ∀ (n : Nat) {N k : Nat}, n < N → (∀ i, k ≤ i → i < k + n → f (st i) = some (.inl (st (i + 1)))) → f (st (k + n)) = some (.inr r) → iterO N f (st k) = some r
  | 0, 0, _, h, _, _ => absurd h (Nat.not_lt_zero _)
  | 0, N + 1, k, _, _, he => by simp only [iterO]; rw [show f (st k) = _ from he]
  | n + 1, 0, _, h, _, _ => absurd h (Nat.not_lt_zero _)
  | n + 1, N + 1, k, h, hs, he => by
    simp only [iterO]
    rw [hs k (Nat.le_refl _) (by omega)]
    exact iterO_for st n (by omega) (fun i h1 h2 => hs i (by omega) (by omega)) (by rw [show k + 1 + n = k + (n + 1) by omega]; exact he)
theorem iterO_for0 {σ τ : Type} {f : σ → Option (σ ⊕ τ)} {r : τ} {s : σ} (st : Nat → σ) (n : Nat) {N : Nat} (h0 : st 0 = s) (hN : n < N) (hs : ∀ i, i < n → f (st i) = some (.inl (st (i + 1)))) (he : f (st n) = some (.inr r)) : iterO N f s = some r := by
  subst h0
  exact iterO_for st n hN (fun i _ h => hs i (by omega)) (by rw [Nat.zero_add]; exact he)
theorem iterO_while {σ τ : Type} {f : σ → Option (σ ⊕ τ)} (I : σ → Prop) (μ : σ → Nat) (Q : τ → Prop) (step : ∀ s, I s → (∃ s', f s = some (.inl s') ∧ I s' ∧ μ s' < μ s) ∨ ∃ r, f s = some (.inr r) ∧ Q r) :
    ∀ {N : Nat} {s : σ}, I s → μ s < N → ∃ r, iterO N f s = some r ∧ Q r
  | 0, _, _, h => absurd h (Nat.not_lt_zero _)
  | N + 1, s, hI, h => by
    rcases step s hI with ⟨s', h1, h2, h3⟩ | ⟨r, h1, h2⟩
    · obtain ⟨r, h4, h5⟩ := iterO_while I μ Q step (N := N) h2 (by omega)
      exact ⟨r, by simp only [iterO, h1]; exact h4, h5⟩
    · exact ⟨r, by simp only [iterO, h1], h2⟩
theorem wrap64 {x : Int} (h1 : -9223372036854775808 ≤ x) (h2 : x ≤ 9223372036854775807) : IntKind.wrap .i64 x = x := by
  simp only [IntKind.wrap, IntKind.signed, IntKind.bits]
  simp
  omega
theorem wrapU64 {x : Int} (h1 : 0 ≤ x) (h2 : x ≤ 18446744073709551615) : IntKind.wrap .u64 x = x := by
  simp only [IntKind.wrap, IntKind.signed, IntKind.bits]
  simp
  omega
theorem w64_succ {n : Nat} (h : n < 9223372036854775807) : w64 ((n : Int) + 1) = ((n + 1 : Nat) : Int) := by
  rw [w64, wrap64] <;> omega
theorem idx_nat {α : Type} {xs : List α} {i : Nat} (h : i < xs.length) : idx xs (i : Int) = some xs[i] := by simp [idx, h]
theorem idx_int {α : Type} {xs : List α} {i : Int} (h0 : 0 ≤ i) (h : i.toNat < xs.length) : idx xs i = some xs[i.toNat] := by simp [idx, h, h0]
theorem idx_of {α : Type} {xs : List α} {i : Nat} {x : α} (h : xs[i]? = some x) : idx xs (i : Int) = some x := by simp [idx, h]
theorem setI_nat {α : Type} {xs : List α} {i : Nat} {x : α} (h : i < xs.length) : setI xs (i : Int) x = some (xs.set i x) := by simp [setI, h]
theorem app_eq {α : Type} {xs ys : List α} (h : xs.length + ys.length ≤ 4294967296) : app xs ys = some (xs ++ ys) := by simp [app, h]
theorem mk_eq {α : Type} {z : α} {n : Nat} (h : n ≤ 4294967296) : mk z (n : Int) = some (List.replicate n z) := by
  simp [mk]; omega
/-- a loop over xs that leaves with g at the first element that p fits -/
theorem loop_find {α τ : Type} {f : Int → Option (Int ⊕ (Unit ⊕ τ))} (xs : List α) (p : α → Bool) (g : Nat → τ) {N : Nat} (hN : xs.length < N)
    (hb : ∀ (i : Nat) (x : α), xs[i]? = some x → f (i : Int) = if p x then some (.inr (.inr (g i))) else some (.inl ((i + 1 : Nat) : Int))) (he : f (xs.length : Int) = some (.inr (.inl ()))) :
    iterO N f 0 = some (match xs.findIdx? p with | some i => .inr (g i) | none => .inl ()) := by
  cases h : xs.findIdx? p with
  | none =>
    have h' := List.findIdx?_eq_none_iff.1 h
    refine iterO_for0 (fun i => (i : Int)) xs.length rfl hN (fun i hi => ?_) he
    rw [hb i xs[i] (List.getElem?_eq_getElem hi), h' _ (List.getElem_mem hi)]
    simp
  | some k =>
    obtain ⟨hk, hp, hlt⟩ := List.findIdx?_eq_some_iff_getElem.1 h
    refine iterO_for0 (fun i => (i : Int)) k rfl (by omega) (fun i hi => ?_) ?_
    · rw [hb i _ (List.getElem?_eq_getElem (by omega))]
      have := hlt i hi
      simp [this]
    · rw [hb k _ (List.getElem?_eq_getElem hk)]
      simp [hp]
/-- .. that leaves with b -/
theorem loop_any {α τ : Type} {f : Int → Option (Int ⊕ (Unit ⊕ τ))} (xs : List α) (p : α → Bool) (b : τ) {N : Nat} (hN : xs.length < N)
    (hb : ∀ (i : Nat) (x : α), xs[i]? = some x → f (i : Int) = if p x then some (.inr (.inr b)) else some (.inl ((i + 1 : Nat) : Int))) (he : f (xs.length : Int) = some (.inr (.inl ()))) :
    iterO N f 0 = some (if xs.any p then .inr b else .inl ()) := by
  rw [loop_find xs p (fun _ => b) hN hb he]
  cases h : xs.findIdx? p with
  | none =>
    have h' := List.findIdx?_eq_none_iff.1 h
    have : xs.any p = false := by rw [List.any_eq_false]; intro x hx; rw [h' x hx]; simp
    simp [this]
  | some k =>
    obtain ⟨hk, hp, hlt⟩ := List.findIdx?_eq_some_iff_getElem.1 h
    have : xs.any p = true := List.any_eq_true.2 ⟨_, List.getElem_mem hk, hp⟩
    simp [this]
/-- a loop over xs that folds -/
theorem loop_fold {α σ τ : Type} {ι : Type} {f : ι → Option (ι ⊕ τ)} (st : Nat → σ → ι) (out : σ → τ) (xs : List α) (step : σ → α → σ) (I : Nat → σ → Prop) {N : Nat} {s : σ} (hN : xs.length < N)
    (hI : I 0 s) (hb : ∀ (i : Nat) (x : α) (s : σ), xs[i]? = some x → I i s → f (st i s) = some (.inl (st (i + 1) (step s x))) ∧ I (i + 1) (step s x)) (he : ∀ s, I xs.length s → f (st xs.length s) = some (.inr (out s))) :
    iterO N f (st 0 s) = some (out (xs.foldl step s)) := by
  have hI' : ∀ i, i ≤ xs.length → I i ((xs.take i).foldl step s) := by
    intro i
    induction i with
    | zero => intro _; simpa using hI
    | succ i ih =>
      intro hi
      have hx : xs[i]? = some xs[i] := List.getElem?_eq_getElem (by omega)
      rw [List.take_add_one, hx, List.foldl_append]
      exact (hb i _ _ hx (ih (by omega))).2
  refine iterO_for0 (fun i => st i ((xs.take i).foldl step s)) xs.length (by simp) hN (fun i hi => ?_) ?_
  · have hx : xs[i]? = some xs[i] := List.getElem?_eq_getElem hi
    rw [(hb i _ _ hx (hI' i (by omega))).1, List.take_add_one, hx, List.foldl_append]
    rfl
  · have := he _ (hI' _ (Nat.le_refl _))
    rw [List.take_length] at this
    simp only [List.take_length]
    exact this
/-- a loop over xs, by an invariant -/
theorem loop_inv {α σ τ ι : Type} {f : ι → Option (ι ⊕ τ)} (st : Nat → σ → ι) (out : σ → τ) (xs : List α) (I : Nat → σ → Prop) {N : Nat} {s : σ} (hN : xs.length < N)
    (hI : I 0 s) (hb : ∀ (i : Nat) (x : α) (s : σ), xs[i]? = some x → I i s → ∃ s', f (st i s) = some (.inl (st (i + 1) s')) ∧ I (i + 1) s') (he : ∀ s, I xs.length s → f (st xs.length s) = some (.inr (out s))) :
    ∃ s', iterO N f (st 0 s) = some (out s') ∧ I xs.length s' := by
  have key : ∀ (k i : Nat) (s : σ) (M : Nat), i + k = xs.length → k < M → I i s → ∃ s', iterO M f (st i s) = some (out s') ∧ I xs.length s' := by
    intro k
    induction k with
    | zero =>
      intro i s M hi hM h
      obtain ⟨M, rfl⟩ : ∃ m, M = m + 1 := ⟨M - 1, by omega⟩
      obtain rfl : i = xs.length := by omega
      exact ⟨s, by simp only [iterO]; rw [he s h], h⟩
    | succ k ih =>
      intro i s M hi hM h
      obtain ⟨M, rfl⟩ : ∃ m, M = m + 1 := ⟨M - 1, by omega⟩
      obtain ⟨s', h1, h2⟩ := hb i _ s (List.getElem?_eq_getElem (by omega)) h
      obtain ⟨s'', h3, h4⟩ := ih (i + 1) s' M (by omega) (by omega) h2
      exact ⟨s'', by simp only [iterO]; rw [h1]; exact h3, h4⟩
  exact key xs.length 0 s N (by omega) hN hI
end Go.Eng
namespace Go.Proofs.YteiaphkejkgfkaaDoor
open Go Go.Eng
theorem lt_len {α : Type} {xs : List α} {i : Nat} {x : α} (h : xs[i]? = some x) : i < xs.length := (List.getElem?_eq_some_iff.1 h).1
theorem right1 (N : Nat) (x n : Int) : F_subset_Right_1 N x n = some (decide (x < 0) || decide (x ≥ n)) := by
  unfold F_subset_Right_1
  by_cases h : x < 0 <;> simp [h]
theorem right2 (N : Nat) (x : Int) : F_subset_Right_2 N x = some (decide (x < -1) || decide (x ≥ 48)) := by
  unfold F_subset_Right_2
  by_cases h : x < -1 <;> simp [h]
theorem contains1 {N : Nat} {xs : List Int} {n : Int} (hN : 4294967296 ≤ N) (hl : xs.length < 4294967296) : F_slices_ContainsFunc_int_int N xs n = some (xs.any fun x => decide (x < 0) || decide (x ≥ n)) := by
  unfold F_slices_ContainsFunc_int_int F_slices_IndexFunc_int_int
  rw [loop_find xs (fun x => decide (x < 0) || decide (x ≥ n)) (fun i => (i : Int)) (by omega) (fun i x hx => by
    have hi := lt_len hx
    unfold F_slices_IndexFunc_int_int_l0
    simp only [show ((i : Int) < (xs.length : Int)) by omega, decide_true, if_true, idx_of hx, right1, bind, Option.bind_some]
    rw [w64_succ (by omega)]) (by unfold F_slices_IndexFunc_int_int_l0; simp)]
  cases h : xs.findIdx? _ with
  | none =>
    have : xs.any (fun x => decide (x < 0) || decide (x ≥ n)) = false := List.any_eq_false.2 fun x hx => by rw [List.findIdx?_eq_none_iff.1 h x hx]; simp
    simp [this]
  | some k =>
    obtain ⟨hk, hp, _⟩ := List.findIdx?_eq_some_iff_getElem.1 h
    have : xs.any (fun x => decide (x < 0) || decide (x ≥ n)) = true := List.any_eq_true.2 ⟨_, List.getElem_mem hk, hp⟩
    rw [this]
    simp
theorem contains2 {N : Nat} {xs : List Int} (hN : 4294967296 ≤ N) (hl : xs.length < 4294967296) : F_slices_ContainsFunc_int_int_1 N xs = some (xs.any fun x => decide (x < -1) || decide (x ≥ 48)) := by
  unfold F_slices_ContainsFunc_int_int_1 F_slices_IndexFunc_int_int_1
  rw [loop_find xs (fun x => decide (x < -1) || decide (x ≥ 48)) (fun i => (i : Int)) (by omega) (fun i x hx => by
    have hi := lt_len hx
    unfold F_slices_IndexFunc_int_int_1_l0
    simp only [show ((i : Int) < (xs.length : Int)) by omega, decide_true, if_true, idx_of hx, right2, bind, Option.bind_some]
    rw [w64_succ (by omega)]) (by unfold F_slices_IndexFunc_int_int_1_l0; simp)]
  cases h : xs.findIdx? _ with
  | none =>
    have : xs.any (fun x => decide (x < -1) || decide (x ≥ 48)) = false := List.any_eq_false.2 fun x hx => by rw [List.findIdx?_eq_none_iff.1 h x hx]; simp
    simp [this]
  | some k =>
    obtain ⟨hk, hp, _⟩ := List.findIdx?_eq_some_iff_getElem.1 h
    have : xs.any (fun x => decide (x < -1) || decide (x ≥ 48)) = true := List.any_eq_true.2 ⟨_, List.getElem_mem hk, hp⟩
    rw [this]
    simp
/-- what a DFA must be -/
structure Rt (rows : List (List Int)) (rule entry : List Int) : Prop where
  n1 : 1 ≤ rows.length
  n2 : rows.length ≤ 200
  ru : rule.length = rows.length
  e1 : 1 ≤ entry.length
  e2 : entry.length ≤ 8
  row : ∀ r ∈ rows, ∀ x ∈ r, 0 ≤ x ∧ x < rows.length
  rul : ∀ x ∈ rule, -1 ≤ x ∧ x < 48
  ent : ∀ x ∈ entry, 0 ≤ x ∧ x < rows.length
  r0 : rows[0]? = some (List.replicate 256 0)
  u0 : rule[0]? = some (-1)
/-- rows of 256, lists of a length that memory bears -/
structure Sz (rows : List (List Int)) (rule entry : List Int) : Prop where
  w : ∀ r ∈ rows, r.length = 256
  a : rows.length < 4294967296
  b : rule.length < 4294967296
  c : entry.length < 4294967296
theorem right_spec {N : Nat} {rows : List (List Int)} {rule entry : List Int} (hN : 4294967296 ≤ N) (hs : Sz rows rule entry) : ∃ b, F_subset_Right N rows rule entry = some b ∧ (b = true ↔ Rt rows rule entry) := by
  unfold F_subset_Right
  generalize hz : List.replicate 256 (0 : Int) = z
  by_cases a1 : (rows.length : Int) < 1
  · exact ⟨false, by simp [a1], by simp; intro h; have := h.n1; omega⟩
  by_cases a2 : (rows.length : Int) > 200
  · exact ⟨false, by simp [a1, a2], by simp; intro h; have := h.n2; omega⟩
  by_cases a3 : rule.length = rows.length
  case neg =>
    have e0 : ((rule.length : Int) != (rows.length : Int)) = true := by simp; omega
    exact ⟨false, by simp [a1, a2, e0], by simp; intro h; exact a3 h.ru⟩
  by_cases a4 : (entry.length : Int) < 1
  · exact ⟨false, by simp [a1, a2, a3, a4], by simp; intro h; have := h.e1; omega⟩
  by_cases a5 : (entry.length : Int) > 8
  · exact ⟨false, by simp [a1, a2, a3, a4, a5], by simp; intro h; have := h.e2; omega⟩
  have e0 : ((rule.length : Int) != (rows.length : Int)) = false := by simp [a3]
  simp only [decide_eq_false a1, decide_eq_false a2, e0, decide_eq_false a4, decide_eq_false a5, bind, Option.bind_some, Bool.false_eq_true, if_false]
  rw [loop_any rows (fun r => r.any fun x => decide (x < 0) || decide (x ≥ (rows.length : Int))) false (by have := hs.a; omega) (fun i r hr => by
    have hi := lt_len hr
    have hw := hs.w r (List.mem_of_getElem? hr)
    unfold F_subset_Right_l0
    simp only [show ((i : Int) < (rows.length : Int)) by omega, decide_true, if_true, idx_of hr, contains1 hN (show r.length < 4294967296 by omega), bind, Option.bind_some]
    rw [w64_succ (by have := hs.a; omega)]) (by unfold F_subset_Right_l0; simp)]
  by_cases c1 : (rows.any fun r => r.any fun x => decide (x < 0) || decide (x ≥ (rows.length : Int))) = true
  · refine ⟨false, by simp [c1], ?_⟩
    simp
    intro h
    obtain ⟨r, hr, hx⟩ := List.any_eq_true.1 c1
    obtain ⟨x, hx, hp⟩ := List.any_eq_true.1 hx
    have := h.row r hr x hx
    simp at hp; omega
  rw [if_neg c1]
  simp only [contains2 hN hs.b, contains1 hN hs.c, Option.bind_some]
  by_cases c2 : (rule.any fun x => decide (x < -1) || decide (x ≥ 48)) = true
  · refine ⟨false, by simp [c2], ?_⟩
    simp
    intro h
    obtain ⟨x, hx, hp⟩ := List.any_eq_true.1 c2
    have := h.rul x hx
    simp at hp; omega
  by_cases c3 : (entry.any fun x => decide (x < 0) || decide (x ≥ (rows.length : Int))) = true
  · refine ⟨false, by simp [c2, c3], ?_⟩
    simp
    intro h
    obtain ⟨x, hx, hp⟩ := List.any_eq_true.1 c3
    have := h.ent x hx
    simp at hp; omega
  have hr0 : 0 < rows.length := by omega
  have hu0 : 0 < rule.length := by omega
  simp only [if_neg c2, Option.bind_some, if_neg c3]
  have i0 : idx rows 0 = some rows[0] := idx_nat (i := 0) hr0
  have i1 : idx rule 0 = some rule[0] := idx_nat (i := 0) hu0
  rw [i0, i1]
  have c1' : ∀ r ∈ rows, ∀ x ∈ r, 0 ≤ x ∧ x < (rows.length : Int) := by
    intro r hr x hx
    have h1 : (rows.any fun r => r.any fun x => decide (x < 0) || decide (x ≥ (rows.length : Int))) = false := by simpa using c1
    have h2 := List.any_eq_false.1 h1 r hr
    have h3 := List.any_eq_false.1 (by simpa using h2 : (r.any fun x => decide (x < 0) || decide (x ≥ (rows.length : Int))) = false) x hx
    simp at h3; omega
  have c2' : ∀ x ∈ rule, -1 ≤ x ∧ x < 48 := by
    intro x hx
    have h3 := List.any_eq_false.1 (by simpa using c2 : (rule.any fun x => decide (x < -1) || decide (x ≥ 48)) = false) x hx
    simp at h3; omega
  have c3' : ∀ x ∈ entry, 0 ≤ x ∧ x < (rows.length : Int) := by
    intro x hx
    have h3 := List.any_eq_false.1 (by simpa using c3 : (entry.any fun x => decide (x < 0) || decide (x ≥ (rows.length : Int))) = false) x hx
    simp at h3; omega
  by_cases d1 : rows[0] = z
  · by_cases d2 : rule[0] = -1
    · refine ⟨true, by simp [d1, d2], ?_⟩
      simp
      exact ⟨by omega, by omega, a3, by omega, by omega, c1', c2', c3', by rw [List.getElem?_eq_getElem hr0, d1, hz], by rw [List.getElem?_eq_getElem hu0, d2]⟩
    · refine ⟨false, by simp [d1, d2], ?_⟩
      simp
      intro h
      have := h.u0
      rw [List.getElem?_eq_getElem hu0] at this
      exact d2 (Option.some.inj this)
  · refine ⟨false, by simp [d1], ?_⟩
    simp
    intro h
    have := h.r0
    rw [List.getElem?_eq_getElem hr0, hz] at this
    exact d1 (Option.some.inj this)
end Go.Proofs.YteiaphkejkgfkaaDoor
namespace Go.Proofs.YteiaphkejkgfkaaDoor
open Go Go.Eng
theorem range_get {n i x : Nat} (h : (List.range n)[i]? = some x) : i < n ∧ x = i := by
  have hl := lt_len h
  simp at hl
  rw [List.getElem?_range hl] at h
  exact ⟨hl, (Option.some.inj h).symm⟩
/-- what the document asks of row i -/
def badRow (rows : List (List Int)) (rule : List Int) (i : Nat) : Bool :=
  (decide (rule.getD i 0 < -1) || decide (rule.getD i 0 > 47)) || (rows.getD i []).any fun x => decide (x < 0) || decide (x ≥ (rows.length : Int)) || (i == 0 && x != 0)
theorem ref_row {N : Nat} {rows : List (List Int)} {rule : List Int} (hN : 4294967296 ≤ N) (h2 : rows.length ≤ 200) (hw : ∀ r ∈ rows, r.length = 256) (hu : rule.length = rows.length) :
    iterO N (fun s => F_dofferref17_Right_l0 N rows rule s) 0 = some (if (List.range rows.length).any (badRow rows rule) then .inr false else .inl ()) := by
  refine loop_any (List.range rows.length) (badRow rows rule) false (by simp; omega) (fun i x hx => ?_) (by simp [F_dofferref17_Right_l0])
  obtain ⟨hi, rfl⟩ := range_get hx
  have hr : rows[x]? = some rows[x] := List.getElem?_eq_getElem hi
  have hui : x < rule.length := by omega
  have hu : rule[x]? = some rule[x] := List.getElem?_eq_getElem hui
  have hlen := hw rows[x] (List.getElem_mem hi)
  have g1 : rule.getD x 0 = rule[x] := by simp [List.getD, hu]
  have g2 : rows.getD x [] = rows[x] := by simp [List.getD, hr]
  unfold F_dofferref17_Right_l0 badRow
  rw [g1, g2]
  simp only [show ((x : Int) < (rows.length : Int)) by omega, decide_true, if_true, idx_of hr, idx_of hu, bind, Option.bind_some]
  by_cases b1 : rule[x] < -1
  · simp [b1]
  by_cases b2 : rule[x] > 47
  · simp [b1, b2]
  simp only [decide_eq_false b1, decide_eq_false b2, Bool.false_eq_true, if_false, Option.bind_some, Bool.or_false, Bool.false_or]
  rw [loop_any (rows[x]) (fun y => decide (y < 0) || decide (y ≥ (rows.length : Int)) || (x == 0 && y != 0)) (τ := Int ⊕ (Unit ⊕ Bool)) (.inr (.inr false)) (by omega) (fun j y hy => by
    have hj := lt_len hy
    unfold F_dofferref17_Right_l1
    simp only [show ((j : Int) < 256) by omega, decide_true, if_true, idx_of hy, bind, Option.bind_some]
    by_cases c1 : y < 0
    · simp [c1]
    by_cases c2 : y ≥ (rows.length : Int)
    · simp [c1, c2]
    simp only [decide_eq_false c1, decide_eq_false c2, Bool.false_eq_true, if_false, Bool.or_false, Bool.false_or]
    rw [w64_succ (by omega)]
    by_cases c3 : x = 0
    · subst c3; by_cases c4 : y = 0 <;> simp [c4]
    · have : ¬ ((x : Int) = 0) := by omega
      simp [c3]) (by unfold F_dofferref17_Right_l1; simp [hlen])]
  rw [w64_succ (by omega)]
  by_cases d : (rows[x].any fun y => decide (y < 0) || decide (y ≥ (rows.length : Int)) || (x == 0 && y != 0)) = true
  · simp [d]
  · simp [d]
theorem refRight_spec {N : Nat} {rows : List (List Int)} {rule entry : List Int} (hN : 4294967296 ≤ N) (hs : Sz rows rule entry) : ∃ b, F_dofferref17_Right N rows rule entry = some b ∧ (b = true ↔ Rt rows rule entry) := by
  unfold F_dofferref17_Right
  by_cases a1 : (rows.length : Int) < 1
  · exact ⟨false, by simp [a1], by simp; intro h; have := h.n1; omega⟩
  by_cases a2 : (rows.length : Int) > 200
  · exact ⟨false, by simp [a1, a2], by simp; intro h; have := h.n2; omega⟩
  by_cases a3 : rule.length = rows.length
  case neg =>
    have e0 : ((rule.length : Int) != (rows.length : Int)) = true := by simp; omega
    exact ⟨false, by simp [a1, a2, e0], by simp; intro h; exact a3 h.ru⟩
  by_cases a4 : (entry.length : Int) < 1
  · exact ⟨false, by simp [a1, a2, a3, a4], by simp; intro h; have := h.e1; omega⟩
  by_cases a5 : (entry.length : Int) > 8
  · exact ⟨false, by simp [a1, a2, a3, a4, a5], by simp; intro h; have := h.e2; omega⟩
  have e0 : ((rule.length : Int) != (rows.length : Int)) = false := by simp [a3]
  simp only [decide_eq_false a1, decide_eq_false a2, e0, decide_eq_false a4, decide_eq_false a5, bind, Option.bind_some, Bool.false_eq_true, if_false]
  rw [ref_row hN (by omega) hs.w a3]
  have hr0 : 0 < rows.length := by omega
  have hu0 : 0 < rule.length := by omega
  by_cases c1 : ((List.range rows.length).any (badRow rows rule)) = true
  · refine ⟨false, by simp [c1], ?_⟩
    simp only [Bool.false_eq_true, false_iff]
    intro h
    obtain ⟨i, hi, hp⟩ := List.any_eq_true.1 c1
    have hi : i < rows.length := by simpa using hi
    have hui : i < rule.length := by omega
    unfold badRow at hp
    have g1 : rule.getD i 0 = rule[i] := by simp [List.getD, List.getElem?_eq_getElem hui]
    have g2 : rows.getD i [] = rows[i] := by simp [List.getD, List.getElem?_eq_getElem hi]
    rw [g1, g2] at hp
    have h1 := h.rul _ (List.getElem_mem hui)
    rcases Bool.or_eq_true_iff.1 hp with hp | hp
    · simp at hp; omega
    · obtain ⟨x, hx, hp⟩ := List.any_eq_true.1 hp
      have h2 := h.row _ (List.getElem_mem hi) x hx
      simp at hp
      rcases hp with hp | ⟨rfl, h4⟩
      · omega
      · have h3 := h.r0
        rw [List.getElem?_eq_getElem hr0] at h3
        rw [Option.some.inj h3] at hx
        exact h4 (List.eq_of_mem_replicate hx)
  rw [if_neg c1]
  simp only [Option.bind_some]
  rw [loop_any entry (fun x => decide (x < 0) || decide (x ≥ (rows.length : Int))) false (by have := hs.c; omega) (fun i x hx => by
    have hi := lt_len hx
    unfold F_dofferref17_Right_l2
    simp only [show ((i : Int) < (entry.length : Int)) by omega, decide_true, if_true, idx_of hx, bind, Option.bind_some]
    rw [w64_succ (by omega)]
    by_cases c1 : x < 0 <;> simp [c1]) (by unfold F_dofferref17_Right_l2; simp)]
  have c1' : ∀ i, (hi : i < rows.length) → (-1 ≤ rule[i]'(by omega) ∧ rule[i]'(by omega) < 48) ∧ ∀ x ∈ rows[i], 0 ≤ x ∧ x < (rows.length : Int) ∧ (i = 0 → x = 0) := by
    intro i hi
    have hui : i < rule.length := by omega
    have h1 : ((List.range rows.length).any (badRow rows rule)) = false := by simpa using c1
    have hp := List.any_eq_false.1 h1 i (by simpa using hi)
    unfold badRow at hp
    have g1 : rule.getD i 0 = rule[i] := by simp [List.getD, List.getElem?_eq_getElem hui]
    have g2 : rows.getD i [] = rows[i] := by simp [List.getD, List.getElem?_eq_getElem hi]
    rw [g1, g2, Bool.not_eq_true, Bool.or_eq_false_iff] at hp
    obtain ⟨hp1, hp2⟩ := hp
    refine ⟨by simp at hp1; omega, fun x hx => ?_⟩
    have := List.any_eq_false.1 hp2 x hx
    simp at this
    exact ⟨by omega, by omega, this.2⟩
  by_cases c3 : (entry.any fun x => decide (x < 0) || decide (x ≥ (rows.length : Int))) = true
  · refine ⟨false, by simp [c3], ?_⟩
    simp
    intro h
    obtain ⟨x, hx, hp⟩ := List.any_eq_true.1 c3
    have := h.ent x hx
    simp at hp; omega
  have c3' : ∀ x ∈ entry, 0 ≤ x ∧ x < (rows.length : Int) := by
    intro x hx
    have h3 := List.any_eq_false.1 (by simpa using c3 : (entry.any fun x => decide (x < 0) || decide (x ≥ (rows.length : Int))) = false) x hx
    simp at h3; omega
  rw [if_neg c3]
  have i1 : idx rule 0 = some rule[0] := idx_nat (i := 0) hu0
  simp only [i1, Option.bind_some]
  by_cases d2 : rule[0] = -1
  · refine ⟨true, by simp [d2], ?_⟩
    simp only [true_iff]
    refine ⟨by omega, by omega, a3, by omega, by omega, ?_, ?_, c3', ?_, by rw [List.getElem?_eq_getElem hu0, d2]⟩
    · intro r hr x hx
      obtain ⟨i, hi, rfl⟩ := List.mem_iff_getElem.1 hr
      have := (c1' i hi).2 x hx
      exact ⟨this.1, this.2.1⟩
    · intro x hx
      obtain ⟨i, hi, rfl⟩ := List.mem_iff_getElem.1 hx
      exact (c1' i (by omega)).1
    · rw [List.getElem?_eq_getElem hr0]
      congr 1
      exact List.eq_replicate_iff.2 ⟨hs.w _ (List.getElem_mem hr0), fun x hx => ((c1' 0 hr0).2 x hx).2.2 rfl⟩
  · refine ⟨false, by simp [d2], ?_⟩
    simp
    intro h
    have := h.u0
    rw [List.getElem?_eq_getElem hu0] at this
    exact d2 (Option.some.inj this)
/-- the copy -/
theorem of_spec {N : Nat} {rows : List (List Int)} {rule entry : List Int} {m : Int} (hN : 4294967296 ≤ N) (hs : Sz rows rule entry) :
    F_dofferlaw17_Of N rows rule entry m = some (if (rows.length : Int) > m ∨ (rule.length : Int) > m ∨ (entry.length : Int) > 20 then ([], false) else (rows, true)) := by
  unfold F_dofferlaw17_Of
  by_cases a1 : (rows.length : Int) > m
  · simp [a1]
  by_cases a2 : (rule.length : Int) > m
  · simp [a1, a2]
  by_cases a3 : (entry.length : Int) > 20
  · simp [a1, a2, a3]
  simp only [bind, if_false, a1, a2, a3, or_self]
  have := loop_fold (f := fun s => F_dofferlaw17_Of_l0 N rows s.1 s.2) (fun i (s : List (List Int)) => ((i : Int), s)) id rows (fun s x => s ++ [x]) (fun i s => s.length = i) (N := N) (s := []) (by have := hs.a; omega) rfl
    (fun i x s hx hI => ⟨by
      have hi := lt_len hx
      have := hs.a
      unfold F_dofferlaw17_Of_l0
      simp only [show ((i : Int) < (rows.length : Int)) by omega, decide_true, if_true, idx_of hx, bind, Option.bind_some]
      rw [w64_succ (by omega), app_eq (by simp; omega)]
      rfl, by simp [hI]⟩) (fun s _ => by unfold F_dofferlaw17_Of_l0; simp)
  rw [show iterO N (fun s => F_dofferlaw17_Of_l0 N rows s.1 s.2) (0, []) = _ from this]
  have hf : ∀ (l acc : List (List Int)), l.foldl (fun s x => s ++ [x]) acc = acc ++ l := by
    intro l
    induction l with
    | nil => simp
    | cons x l ih => intro acc; rw [List.foldl_cons, ih]; simp
  rw [hf]
  simp
end Go.Proofs.YteiaphkejkgfkaaDoor
namespace Go.Proofs.YteiaphkejkgfkaaDoor
open Go Go.Eng
theorem iand_u64 {a b : Nat} (ha : a < 18446744073709551616) (hb : b < 18446744073709551616) : iand .u64 (a : Int) (b : Int) = ((a &&& b : Nat) : Int) := by
  have h : a &&& b < 18446744073709551616 := Nat.and_lt_two_pow (n := 64) _ hb
  show IntKind.wrap .u64 ((BitVec.ofInt 64 (a : Int) &&& BitVec.ofInt 64 (b : Int)).toNat : Int) = _
  rw [BitVec.ofInt_natCast, BitVec.ofInt_natCast, BitVec.toNat_and, BitVec.toNat_ofNat, BitVec.toNat_ofNat, Nat.mod_eq_of_lt ha, Nat.mod_eq_of_lt hb, wrapU64] <;> omega
theorem ior_u64 {a b : Nat} (ha : a < 18446744073709551616) (hb : b < 18446744073709551616) : ior .u64 (a : Int) (b : Int) = ((a ||| b : Nat) : Int) := by
  have h : a ||| b < 18446744073709551616 := Nat.or_lt_two_pow (n := 64) ha hb
  show IntKind.wrap .u64 ((BitVec.ofInt 64 (a : Int) ||| BitVec.ofInt 64 (b : Int)).toNat : Int) = _
  rw [BitVec.ofInt_natCast, BitVec.ofInt_natCast, BitVec.toNat_or, BitVec.toNat_ofNat, BitVec.toNat_ofNat, Nat.mod_eq_of_lt ha, Nat.mod_eq_of_lt hb, wrapU64] <;> omega
theorem shl_one {k : Nat} (h : k < 64) : shlI .u64 1 (k : Int) = ((2 ^ k : Nat) : Int) := by
  have h1 : (2 : Nat) ^ k ≤ 2 ^ 63 := Nat.pow_le_pow_right (by omega) (by omega)
  have h2 : (2 : Nat) ^ 63 = 9223372036854775808 := by decide
  simp only [shlI, IntKind.bits, Int.toNat_natCast, Nat.min_eq_left (show k ≤ 64 by omega), Int.one_mul]
  have e : ((2 : Int) ^ k) = ((2 ^ k : Nat) : Int) := by simp
  rw [e]
  generalize 2 ^ k = p at *
  rw [wrapU64] <;> omega
/-- bit i -/
def has (m : List Int) (i : Nat) : Bool := (m.getD (i / 64) 0).toNat.testBit (i % 64)
structure MkR (n : Nat) (m : List Int) : Prop where
  len : m.length = (n + 63) / 64
  rng : ∀ w ∈ m, 0 ≤ w ∧ w < 18446744073709551616
theorem new_spec {N n : Nat} (h : n ≤ 65536) : ∃ m, F_marks_New N (n : Int) = some (.inr m) ∧ MkR n m ∧ ∀ j, has m j = false := by
  refine ⟨List.replicate ((n + 63) / 64) 0, ?_, ⟨by simp, fun w hw => by rw [List.eq_of_mem_replicate hw]; omega⟩, fun j => ?_⟩
  · unfold F_marks_New
    have a1 : ¬ ((n : Int) < 0) := by omega
    have a2 : ¬ ((n : Int) > 65536) := by omega
    have e1 : w64 ((n : Int) + 64) = ((n + 64 : Nat) : Int) := by rw [w64, wrap64] <;> omega
    have e2 : w64 (((n + 64 : Nat) : Int) - 1) = ((n + 63 : Nat) : Int) := by rw [w64, wrap64] <;> omega
    have e3 : w64 (((n + 63 : Nat) : Int).tdiv 64) = (((n + 63) / 64 : Nat) : Int) := by
      have : ((n + 63 : Nat) : Int).tdiv 64 = (((n + 63) / 64 : Nat) : Int) := by rw [Int.tdiv_eq_ediv_of_nonneg (by omega)]; omega
      rw [this, w64, wrap64] <;> omega
    simp only [decide_eq_false a1, decide_eq_false a2, bind, Option.bind_some, Bool.false_eq_true, if_false, e1, e2, e3]
    rw [mk_eq (by omega)]
    rfl
  · simp [has, List.getD, List.getElem?_replicate]
    split <;> simp
theorem at_spec {N n i : Nat} {m : List Int} (hi : i < 9223372036854775808) : F_marks_Marks_at N m (n : Int) (i : Int) = some (((i / 64 : Nat) : Int), ((2 ^ (i % 64) : Nat) : Int), decide (i < n)) := by
  unfold F_marks_Marks_at
  have e0 : IntKind.wrap .u64 (i : Int) = i := by rw [wrapU64] <;> omega
  have e1 : (i : Int).tmod 64 = ((i % 64 : Nat) : Int) := by rw [Int.tmod_eq_emod_of_nonneg (by omega)]; omega
  have e2 : w64 ((i : Int).tdiv 64) = ((i / 64 : Nat) : Int) := by
    have : (i : Int).tdiv 64 = ((i / 64 : Nat) : Int) := by rw [Int.tdiv_eq_ediv_of_nonneg (by omega)]; omega
    rw [this, w64, wrap64] <;> omega
  have e3 : nn ((i % 64 : Nat) : Int) = some () := by simp [nn]; omega
  have e4 : (i : Int) ≥ 0 := by omega
  rw [e0, e1, e2, shl_one (by omega), e3]
  simp [e4, F_marks_Marks_Size]
theorem put_spec {N n i : Nat} {m : List Int} (hm : MkR n m) (hi : i < n) (hn : n ≤ 65536) :
    ∃ m', F_marks_Marks_Put N m (n : Int) (i : Int) = some (m', !has m i) ∧ MkR n m' ∧ (∀ j, has m' j = (has m j || j == i)) ∧ m' = if has m i then m else m.set (i / 64) (((m.getD (i / 64) 0).toNat ||| 2 ^ (i % 64) : Nat) : Int) := by
  have hl : i / 64 < m.length := by rw [hm.len]; omega
  have hw := hm.rng _ (List.getElem_mem hl)
  have hp : (2 : Nat) ^ (i % 64) < 18446744073709551616 := by
    have h1 : (2 : Nat) ^ (i % 64) ≤ 2 ^ 63 := Nat.pow_le_pow_right (by omega) (by omega)
    have h2 : (2 : Nat) ^ 63 = 9223372036854775808 := by decide
    omega
  obtain ⟨a, ha⟩ : ∃ a : Nat, m[i / 64] = (a : Int) := ⟨m[i / 64].toNat, by omega⟩
  have hx : m[i / 64]? = some (a : Int) := by rw [List.getElem?_eq_getElem hl, ha]
  have ha' : a < 18446744073709551616 := by omega
  have hh : has m i = a.testBit (i % 64) := by simp [has, List.getD, hx]
  unfold F_marks_Marks_Put
  rw [at_spec (by omega)]
  simp only [bind, Option.bind_some, decide_eq_true hi, Bool.not_true, Bool.false_eq_true, if_false, idx_of hx, iand_u64 ha' hp, ior_u64 ha' hp]
  have hand : (a &&& 2 ^ (i % 64) = 0) ↔ a.testBit (i % 64) = false := by
    constructor
    · intro h
      have := congrArg (·.testBit (i % 64)) h
      simpa [Nat.testBit_and, Nat.testBit_two_pow_self] using this
    · intro h
      apply Nat.eq_of_testBit_eq
      intro j
      rw [Nat.testBit_and, Nat.testBit_two_pow]
      by_cases hj : i % 64 = j
      · subst hj; simp [h]
      · simp [hj]
  by_cases hb : a.testBit (i % 64) = true
  · have h1 : ¬ (a &&& 2 ^ (i % 64) = 0) := fun h => by rw [hand.1 h] at hb; cases hb
    have h2 : (((a &&& 2 ^ (i % 64) : Nat) : Int) != 0) = true := by simp; omega
    refine ⟨m, by rw [h2, hh, hb]; rfl, hm, fun j => ?_, by rw [hh, hb]; rfl⟩
    by_cases hj : j = i
    · subst hj; simp [hh, hb]
    · simp [hj]
  · have hb : a.testBit (i % 64) = false := by simpa using hb
    have h2 : (((a &&& 2 ^ (i % 64) : Nat) : Int) != 0) = false := by rw [hand.2 hb]; rfl
    refine ⟨m.set (i / 64) ((a ||| 2 ^ (i % 64) : Nat) : Int), by rw [h2, hh, hb]; simp only [Bool.false_eq_true, if_false]; rw [setI_nat hl]; rfl, ⟨by simp [hm.len], fun w hw' => ?_⟩, fun j => ?_, ?_⟩
    rotate_right
    · rw [hh, hb, List.getD, hx]; rfl
    · rcases List.mem_or_eq_of_mem_set hw' with h | rfl
      · exact hm.rng w h
      · have := Nat.or_lt_two_pow (n := 64) ha' hp
        omega
    · by_cases hq : j / 64 = i / 64
      · have e1 : has m j = a.testBit (j % 64) := by simp [has, hq, List.getD, hx]
        have e2 : has (m.set (i / 64) ((a ||| 2 ^ (i % 64) : Nat) : Int)) j = (a ||| 2 ^ (i % 64)).testBit (j % 64) := by
          simp [has, hq, List.getD, List.getElem?_set_self hl]
        rw [e1, e2, Nat.testBit_or, Nat.testBit_two_pow]
        congr 1
        by_cases hj : j = i
        · simp [hj]
        · have : ¬ (i % 64 = j % 64) := by omega
          simp [hj, this]
      · have hj : ¬ j = i := fun h => hq (by rw [h])
        have hq' : ¬ (i / 64 = j / 64) := fun h => hq h.symm
        simp [has, List.getD, hq', hj]
end Go.Proofs.YteiaphkejkgfkaaDoor
namespace Go.Proofs.YteiaphkejkgfkaaDoor
open Go Go.Eng
def ins (acc : List Int) (x : Int) : List Int := if x ∈ acc then acc else acc ++ [x]
def insAll (acc xs : List Int) : List Int := xs.foldl ins acc
/-- states of an automaton of n, none twice -/
structure Acc (n : Nat) (acc : List Int) : Prop where
  nd : acc.Nodup
  rng : ∀ x ∈ acc, 0 ≤ x ∧ x < n
theorem nodup_len : ∀ {l m : List Int}, l.Nodup → (∀ x ∈ l, x ∈ m) → l.length ≤ m.length
  | [], _, _, _ => by simp
  | x :: l, m, hn, hs => by
    obtain ⟨h1, h2⟩ := List.nodup_cons.1 hn
    have hx := hs x (by simp)
    have := nodup_len (l := l) (m := m.erase x) h2 (fun y hy => (List.mem_erase_of_ne (show y ≠ x from fun e => h1 (e ▸ hy))).2 (hs y (by simp [hy])))
    rw [List.length_erase_of_mem hx] at this
    have : 0 < m.length := List.length_pos_of_mem hx
    simp; omega
theorem Acc.len {n : Nat} {acc : List Int} (h : Acc n acc) : acc.length ≤ n := by
  have := nodup_len (m := (List.range n).map fun (i : Nat) => (i : Int)) h.nd (fun x hx => by
    have := h.rng x hx
    exact List.mem_map.2 ⟨x.toNat, by simp; omega, by omega⟩)
  simpa using this
theorem Acc.ins {n : Nat} {acc : List Int} {x : Int} (h : Acc n acc) (h0 : 0 ≤ x ∧ x < n) : Acc n (ins acc x) := by
  unfold Go.Proofs.YteiaphkejkgfkaaDoor.ins
  split
  · exact h
  · rename_i hx
    refine ⟨List.nodup_append.2 ⟨h.nd, by simp, fun a ha b hb => ?_⟩, fun y hy => ?_⟩
    · simp at hb; subst hb; exact fun e => hx (e ▸ ha)
    · rcases List.mem_append.1 hy with hy | hy
      · exact h.rng y hy
      · simp at hy; subst hy; exact h0
theorem Acc.insAll {n : Nat} : ∀ {xs acc : List Int}, Acc n acc → (∀ x ∈ xs, 0 ≤ x ∧ x < n) → Acc n (insAll acc xs)
  | [], _, h, _ => h
  | x :: xs, acc, h, hx => Acc.insAll (xs := xs) (h.ins (hx x (by simp))) (fun y hy => hx y (by simp [hy]))
theorem insAll_take {acc xs : List Int} {i : Nat} {x : Int} (h : xs[i]? = some x) : insAll acc (xs.take (i + 1)) = ins (insAll acc (xs.take i)) x := by
  unfold insAll
  rw [List.take_add_one, h, List.foldl_append]; rfl
/-- the marks are those of the list -/
structure Rel (n : Nat) (m acc : List Int) : Prop where
  mkr : MkR n m
  at_ : ∀ j, j < n → (has m j = true ↔ (j : Int) ∈ acc)
theorem put_rel {N n : Nat} {m acc : List Int} {x : Int} (h : Rel n m acc) (h0 : 0 ≤ x ∧ x < n) (hn : n ≤ 65536) : ∃ m', F_marks_Marks_Put N m (n : Int) x = some (m', decide (x ∉ acc)) ∧ Rel n m' (ins acc x) := by
  obtain ⟨i, rfl⟩ : ∃ i : Nat, x = (i : Int) := ⟨x.toNat, by omega⟩
  have hi : i < n := by omega
  obtain ⟨m', h1, h2, h3, _⟩ := put_spec (N := N) h.mkr hi hn
  refine ⟨m', ?_, h2, fun j hj => ?_⟩
  · rw [h1]
    have := h.at_ i hi
    by_cases hm : (i : Int) ∈ acc
    · simp [hm, this.2 hm]
    · have : has m i = false := by
        cases hh : has m i with
        | false => rfl
        | true => exact absurd (this.1 hh) hm
      simp [hm, this]
  · rw [h3 j]
    unfold ins
    have := h.at_ j hj
    by_cases hm : (i : Int) ∈ acc
    · rw [if_pos hm, ← this]
      constructor
      · intro h4
        rcases Bool.or_eq_true_iff.1 h4 with h4 | h4
        · exact h4
        · simp at h4; subst h4; exact (h.at_ _ hi).2 hm
      · intro h4; simp [h4]
    · have hji : (j : Int) = i ↔ j = i := by omega
      rw [if_neg hm, List.mem_append, ← this, List.mem_singleton, hji, Bool.or_eq_true, beq_iff_eq]
end Go.Proofs.YteiaphkejkgfkaaDoor
namespace Go.Proofs.YteiaphkejkgfkaaDoor
open Go Go.Eng
/-- a row of a state in range -/
theorem row_of {rows : List (List Int)} {rule entry : List Int} (h : Rt rows rule entry) {x : Int} (hx : 0 ≤ x ∧ x < rows.length) : ∃ r, idx rows x = some r ∧ rows.getD x.toNat [] = r ∧ r ∈ rows ∧ ∀ y ∈ r, 0 ≤ y ∧ y < rows.length := by
  have hl : x.toNat < rows.length := by omega
  refine ⟨rows[x.toNat], idx_int hx.1 hl, by simp [List.getD, List.getElem?_eq_getElem hl], List.getElem_mem hl, h.row _ (List.getElem_mem hl)⟩
end Go.Proofs.YteiaphkejkgfkaaDoor
namespace Go.Proofs.YteiaphkejkgfkaaDoor
open Go Go.Eng
/-- the place of a state -/
def pl (o : List Int) (x : Int) : Int := if x ∈ o then (o.idxOf x : Int) else 0
end Go.Proofs.YteiaphkejkgfkaaDoor
namespace Go.Proofs.YteiaphkejkgfkaaDoor
open Go Go.Eng
theorem getD_of {α : Type} {l : List α} {i : Nat} {x d : α} (h : l[i]? = some x) : l.getD i d = x := by rw [List.getD, h]; rfl
end Go.Proofs.YteiaphkejkgfkaaDoor
namespace Go.Proofs.YteiaphkejkgfkaaDoor
open Go Go.Eng
def b1 (d : Nat) : Nat := ((d / 2) &&& 85) + (d &&& 85)
def b2 (d : Nat) : Nat := ((d / 4) &&& 51) + (d &&& 51)
def b3 (d : Nat) : Nat := (d / 16 + d) % 16
theorem f1 : ∀ d : Fin 256, ∀ e : Fin 2, ((d.val / 2 + 128 * e.val) &&& 85) = (d.val / 2) &&& 85 := by decide +kernel
theorem f2 : ∀ d : Fin 256, ∀ e : Fin 4, ((d.val / 4 + 64 * e.val) &&& 51) = (d.val / 4) &&& 51 := by decide +kernel
theorem f3 : ∀ d : Fin 256, b1 d.val < 256 ∧ b2 (b1 d.val) < 256 ∧ b2 (b1 d.val) % 16 ≤ 4 ∧ b2 (b1 d.val) / 16 ≤ 4 := by decide +kernel
def pop (x : Nat) : Nat := (List.range 64).countP (x.testBit ·)
theorem ad (a b c d : Nat) : (a + 256 * b) + (c + 256 * d) = (a + c) + 256 * (b + d) := by omega
def t1 (x : Int) : Int := IntKind.wrap .u64 ((iand .u64 (shrI .u64 x 1) 6148914691236517205) + (iand .u64 x 6148914691236517205))
def t2 (x : Int) : Int := IntKind.wrap .u64 ((iand .u64 (shrI .u64 x 2) 3689348814741910323) + (iand .u64 x 3689348814741910323))
def t3 (x : Int) : Int := iand .u64 (IntKind.wrap .u64 ((shrI .u64 x 4) + x)) 1085102592571150095
def t4 (x : Int) : Int := IntKind.wrap .u64 (x + shrI .u64 x 8)
end Go.Proofs.YteiaphkejkgfkaaDoor
namespace Go.Proofs.YteiaphkejkgfkaaDoor
open Go Go.Eng
theorem countP_one {p : Nat → Bool} {k : Nat} (hk : p k = false) : ∀ {l : List Nat}, l.Nodup → k ∈ l → l.countP (fun j => p j || j == k) = l.countP p + 1
  | [], _, h => by simp at h
  | x :: l, hn, h => by
    obtain ⟨h1, h2⟩ := List.nodup_cons.1 hn
    by_cases hx : x = k
    · subst hx
      have : l.countP (fun j => p j || j == x) = l.countP p := List.countP_congr fun j hj => by
        have : j ≠ x := fun e => h1 (e ▸ hj)
        simp [this]
      rw [List.countP_cons, List.countP_cons, this]
      simp [hk]
    · have hm : k ∈ l := by
        rcases List.mem_cons.1 h with h | h
        · exact absurd h.symm hx
        · exact h
      have ih := countP_one hk h2 hm
      rw [List.countP_cons, List.countP_cons, ih]
      simp [hx]
      omega
theorem pop_or {a k : Nat} (hk : k < 64) (h : a.testBit k = false) : pop (a ||| 2 ^ k) = pop a + 1 := by
  unfold pop
  rw [← countP_one (p := (a.testBit ·)) h List.nodup_range (by simpa using hk)]
  refine List.countP_congr fun j _ => ?_
  rw [Nat.testBit_or, Nat.testBit_two_pow]
  by_cases hj : j = k
  · subst hj; simp
  · have : ¬ k = j := fun e => hj e.symm
    simp [hj, this]
def cnt (m : List Int) : Nat := (m.map fun w => pop w.toNat).sum
theorem sum_set {f : Int → Nat} : ∀ {l : List Int} {i : Nat} {x y : Int}, l[i]? = some x → ((l.set i y).map f).sum + f x = (l.map f).sum + f y
  | [], i, x, y, h => by simp at h
  | z :: l, 0, x, y, h => by simp at h; subst h; simp; omega
  | z :: l, i + 1, x, y, h => by
    have := sum_set (f := f) (l := l) (i := i) (x := x) (y := y) (by simpa using h)
    simp only [List.set_cons_succ, List.map_cons, List.sum_cons]
    omega
theorem put_cnt {N n : Nat} {m acc : List Int} {x : Int} (h : Rel n m acc) (h0 : 0 ≤ x ∧ x < n) (hn : n ≤ 65536) (hc : cnt m = acc.length) : ∃ m', F_marks_Marks_Put N m (n : Int) x = some (m', decide (x ∉ acc)) ∧ Rel n m' (ins acc x) ∧ cnt m' = (ins acc x).length := by
  obtain ⟨m', h1, h2⟩ := put_rel (N := N) h h0 hn
  refine ⟨m', h1, h2, ?_⟩
  obtain ⟨i, rfl⟩ : ∃ i : Nat, x = (i : Int) := ⟨x.toNat, by omega⟩
  have hi : i < n := by omega
  obtain ⟨m'', e1, _, _, e2⟩ := put_spec (N := N) h.mkr hi hn
  rw [h1] at e1
  have e3 := (Prod.mk.inj (Option.some.inj e1)).1
  subst e3
  have ha := h.at_ i hi
  unfold ins
  by_cases hh : has m i = true
  · rw [e2, if_pos hh, if_pos (ha.1 hh), hc]
  · have hf : has m i = false := by simpa using hh
    have hm : ¬ (i : Int) ∈ acc := fun hm => hh (ha.2 hm)
    rw [if_neg hh] at e2
    rw [if_neg hm, e2]
    have hl : i / 64 < m.length := by rw [h.mkr.len]; omega
    have hw := h.mkr.rng _ (List.getElem_mem hl)
    have hx : m[i / 64]? = some m[i / 64] := List.getElem?_eq_getElem hl
    have hg : m.getD (i / 64) 0 = m[i / 64] := by rw [List.getD, hx]; rfl
    have hs := sum_set (f := fun w => pop w.toNat) (y := ((m[i / 64].toNat ||| 2 ^ (i % 64) : Nat) : Int)) hx
    have hb : m[i / 64].toNat.testBit (i % 64) = false := by
      unfold has at hf
      rwa [hg] at hf
    rw [hg]
    simp only [Int.toNat_natCast] at hs
    rw [pop_or (by omega) hb] at hs
    unfold cnt at hc ⊢
    simp only [List.length_append, List.length_cons, List.length_nil]
    omega
theorem acc_nil (n : Nat) : Acc n [] := ⟨by simp, fun x hx => by simp at hx⟩
end Go.Proofs.YteiaphkejkgfkaaDoor
namespace Go.Proofs.YteiaphkejkgfkaaDoor
open Go Go.Eng
def nxt (rows : List (List Int)) (s c : Int) : Int := (rows.getD s.toNat []).getD c.toNat 0
def beg (entry : List Int) (cond : Int) : Int := if 0 ≤ cond ∧ cond < (entry.length : Int) then entry.getD cond.toNat 0 else 0
def stt (rows : List (List Int)) (entry : List Int) (cond : Int) (text : List Int) : Int := text.foldl (nxt rows) (beg entry cond)
/-- bytes -/
def Byt (text : List Int) : Prop := ∀ c ∈ text, 0 ≤ c ∧ c < 256
theorem Byt.take {text : List Int} (h : Byt text) (k : Nat) : Byt (text.take k) := fun c hc => h c (List.mem_of_mem_take hc)
section
variable {N : Nat} {rows : List (List Int)} {rule entry : List Int}
theorem nxt_get (hs : Sz rows rule entry) {s c : Int} (hr : 0 ≤ s ∧ s < rows.length) (hc : 0 ≤ c ∧ c < 256) : ∃ row, idx rows s = some row ∧ row ∈ rows ∧ idx row c = some (nxt rows s c) ∧ nxt rows s c ∈ row := by
  have hl : s.toNat < rows.length := by omega
  have hw := hs.w _ (List.getElem_mem hl)
  have e1 : rows.getD s.toNat [] = rows[s.toNat] := by rw [List.getD, List.getElem?_eq_getElem hl]; rfl
  have hcl : c.toNat < rows[s.toNat].length := by omega
  have e2 : nxt rows s c = rows[s.toNat][c.toNat] := by unfold nxt; rw [e1, List.getD, List.getElem?_eq_getElem hcl]; rfl
  exact ⟨rows[s.toNat], idx_int hr.1 hl, List.getElem_mem hl, by rw [e2]; exact idx_int hc.1 hcl, e2 ▸ List.getElem_mem hcl⟩
theorem nxt_rng (hs : Sz rows rule entry) (h : Rt rows rule entry) {s c : Int} (hr : 0 ≤ s ∧ s < rows.length) (hc : 0 ≤ c ∧ c < 256) : 0 ≤ nxt rows s c ∧ nxt rows s c < rows.length := by
  obtain ⟨row, _, h2, _, h4⟩ := nxt_get hs hr hc
  exact h.row row h2 _ h4
theorem next_spec (hs : Sz rows rule entry) {s c : Int} (hr : 0 ≤ s ∧ s < rows.length) (hc : 0 ≤ c ∧ c < 256) : F_subset_DFA_next N rows rule entry s c = some (nxt rows s c) := by
  obtain ⟨row, h1, _, h3, _⟩ := nxt_get hs hr hc
  unfold F_subset_DFA_next
  simp only [show ¬ s < 0 by omega, show ¬ s ≥ (rows.length : Int) by omega, decide_false, Bool.false_eq_true, if_false, bind, Option.bind_some, h1, h3]
theorem beg_rng (h : Rt rows rule entry) (cond : Int) : 0 ≤ beg entry cond ∧ beg entry cond < rows.length := by
  unfold beg
  split
  · rename_i hc
    have hl : cond.toNat < entry.length := by omega
    rw [List.getD, List.getElem?_eq_getElem hl]
    exact h.ent _ (List.getElem_mem hl)
  · have := h.n1; omega
theorem begin_spec (cond : Int) : F_subset_DFA_begin N rows rule entry cond = some (beg entry cond) := by
  unfold F_subset_DFA_begin beg
  by_cases h1 : cond < 0
  · have : ¬ (0 ≤ cond ∧ cond < (entry.length : Int)) := by omega
    simp [h1, this]
  by_cases h2 : cond ≥ (entry.length : Int)
  · have : ¬ (0 ≤ cond ∧ cond < (entry.length : Int)) := by omega
    simp [h1, h2, this]
  · have h3 : 0 ≤ cond ∧ cond < (entry.length : Int) := by omega
    have hl : cond.toNat < entry.length := by omega
    rw [if_pos h3, List.getD, List.getElem?_eq_getElem hl]
    simp only [h1, h2, decide_false, Bool.false_eq_true, if_false, bind, Option.bind_some, idx_int h3.1 hl]
    rfl
theorem stt_rng (hs : Sz rows rule entry) (h : Rt rows rule entry) (cond : Int) {text : List Int} (ht : Byt text) : 0 ≤ stt rows entry cond text ∧ stt rows entry cond text < rows.length := by
  unfold stt
  have key : ∀ (l : List Int) (s : Int), Byt l → (0 ≤ s ∧ s < (rows.length : Int)) → 0 ≤ l.foldl (nxt rows) s ∧ l.foldl (nxt rows) s < rows.length := by
    intro l
    induction l with
    | nil => intro s _ hs; exact hs
    | cons c l ih => intro s hl hr; exact ih _ (fun x hx => hl x (by simp [hx])) (nxt_rng hs h hr (hl c (by simp)))
  exact key text _ ht (beg_rng h cond)
theorem run_spec (hN : 4294967296 ≤ N) (hs : Sz rows rule entry) (h : Rt rows rule entry) (cond : Int) {text : List Int} (ht : Byt text) (hl : text.length < 4294967296) :
    F_subset_DFA_Run N rows rule entry cond text = some (rule.getD (stt rows entry cond text).toNat 0) := by
  obtain ⟨b, hb, hbt⟩ := right_spec hN hs
  rw [hbt.2 h] at hb
  unfold F_subset_DFA_Run
  obtain ⟨s, h1, h2, _⟩ := loop_inv (f := fun s => F_subset_DFA_Run_l0 N rows rule entry text s.1 s.2) (fun i (s : Int) => ((i : Int), s)) id text (fun i s => s = stt rows entry cond (text.take i) ∧ 0 ≤ s ∧ s < rows.length) (N := N) (s := beg entry cond) (by omega)
    ⟨by simp [stt], beg_rng h cond⟩
    (fun i c s hc hI => by
      obtain ⟨k1, k2⟩ := hI
      have hi := lt_len hc
      have hcb := ht c (List.mem_of_getElem? hc)
      refine ⟨nxt rows s c, ?_, ?_, nxt_rng hs h k2 hcb⟩
      · unfold F_subset_DFA_Run_l0
        simp only [show ((i : Int) < (text.length : Int)) by omega, decide_true, if_true, idx_of hc, next_spec hs k2 hcb, bind, Option.bind_some]
        rw [w64_succ (by omega)]
      · unfold stt at k1 ⊢
        rw [List.take_add_one, hc, List.foldl_append, ← k1]; rfl)
    (fun s _ => by unfold F_subset_DFA_Run_l0; simp)
  rw [List.take_length] at h2
  subst h2
  have hr := stt_rng hs h cond ht
  have hru := h.ru
  have hlt : (stt rows entry cond text).toNat < rule.length := by omega
  simp only [hb, begin_spec, bind, Option.bind_some, Bool.not_true, Bool.false_eq_true, if_false]
  rw [show iterO N (fun s => F_subset_DFA_Run_l0 N rows rule entry text s.1 s.2) (0, beg entry cond) = _ from h1]
  simp only [Option.bind_some, id, idx_int hr.1 hlt]
  rw [List.getD, List.getElem?_eq_getElem hlt]; rfl
end
end Go.Proofs.YteiaphkejkgfkaaDoor
namespace Go.Proofs.YteiaphkejkgfkaaDoor
open Go Go.Eng
/-- the marks are those of the list, all below n; the list is as long as the marks are many -/
structure Mk (n : Nat) (m acc : List Int) : Prop where
  rel : Rel n m acc
  hb : ∀ j, n ≤ j → has m j = false
  ac : Acc n acc
  c : cnt m = acc.length
theorem Mk.has {n : Nat} {m acc : List Int} (h : Mk n m acc) {j : Nat} (hj : j < n) : has m j = decide ((j : Int) ∈ acc) := by
  have := h.rel.at_ j hj
  by_cases hm : (j : Int) ∈ acc
  · rw [this.2 hm]; simp [hm]
  · cases hh : Go.Proofs.YteiaphkejkgfkaaDoor.has m j with
    | false => simp [hm]
    | true => exact absurd (this.1 hh) hm
theorem put_mk {N n : Nat} {m acc : List Int} {x : Int} (h : Mk n m acc) (h0 : 0 ≤ x ∧ x < n) (hn : n ≤ 65536) : ∃ m', F_marks_Marks_Put N m (n : Int) x = some (m', decide (x ∉ acc)) ∧ Mk n m' (ins acc x) := by
  obtain ⟨m', h1, h2, h3⟩ := put_cnt (N := N) h.rel h0 hn h.c
  refine ⟨m', h1, h2, fun j hj => ?_, h.ac.ins h0, h3⟩
  obtain ⟨i, rfl⟩ : ∃ i : Nat, x = (i : Int) := ⟨x.toNat, by omega⟩
  obtain ⟨m'', e1, _, e2, _⟩ := put_spec (N := N) h.rel.mkr (show i < n by omega) hn
  rw [h1] at e1
  have e3 := (Prod.mk.inj (Option.some.inj e1)).1
  subst e3
  rw [e2 j, h.hb j hj]
  have : ¬ j = i := by omega
  simp [this]
theorem new_mk {N n : Nat} (hn : n ≤ 65536) : ∃ m, F_marks_New N (n : Int) = some (.inr m) ∧ Mk n m [] := by
  obtain ⟨m, h1, h2, h3⟩ := new_spec (N := N) hn
  refine ⟨m, h1, ⟨h2, fun j _ => by simp [h3]⟩, fun j _ => h3 j, acc_nil n, ?_⟩
  have : ∀ w ∈ m, pop w.toNat = 0 := by
    intro w hw
    obtain ⟨i, hi⟩ := List.mem_iff_getElem?.1 hw
    have hwr := h2.rng w hw
    have hz : ∀ c, c < 64 → w.toNat.testBit c = false := fun c hc => by
      have := h3 (64 * i + c)
      unfold has at this
      rw [show (64 * i + c) / 64 = i by omega, show (64 * i + c) % 64 = c by omega, List.getD, hi] at this
      exact this
    unfold pop
    rw [List.countP_eq_zero]
    intro c hc
    have := hz c (by simpa using hc)
    simp [this]
  unfold cnt
  clear h1 h2 h3
  induction m with
  | nil => rfl
  | cons w m ih =>
    have h1 := this w (by simp)
    have h2 := ih (fun x hx => this x (by simp [hx]))
    simp only [List.map_cons, List.sum_cons, h1, h2, List.length_nil] at h2 ⊢
section
variable {N : Nat} {rows : List (List Int)} {rule entry : List Int}
theorem marked_spec {list : List Int} (hN : 4294967296 ≤ N) (hn : rows.length ≤ 65536) (hl : list.length < 4294967296) (hx : ∀ x ∈ list, 0 ≤ x ∧ x < (rows.length : Int)) :
    ∃ m, F_trim_marked N rows rule entry list = some (.inr m) ∧ Mk rows.length m (insAll [] list) := by
  obtain ⟨m0, e0, q0⟩ := new_mk (N := N) hn
  unfold F_trim_marked
  simp only [e0, bind, Option.bind_some]
  obtain ⟨m, h1, h2⟩ := loop_inv (f := fun s => F_trim_marked_l0 N rows list s.1 s.2) (fun i (s : List Int) => ((i : Int), s)) id list (fun i m => Mk rows.length m (insAll [] (list.take i))) (N := N) (s := m0) (by omega) (by simpa [insAll] using q0)
    (fun i x m hxi hI => by
      have hi := lt_len hxi
      obtain ⟨m', e1, q1⟩ := put_mk (N := N) hI (hx x (List.mem_of_getElem? hxi)) hn
      refine ⟨m', ?_, by rw [insAll_take hxi]; exact q1⟩
      unfold F_trim_marked_l0
      simp only [show ((i : Int) < (list.length : Int)) by omega, decide_true, if_true, idx_of hxi, e1, bind, Option.bind_some]
      rw [w64_succ (by omega)])
    (fun s _ => by unfold F_trim_marked_l0; simp)
  rw [List.take_length] at h2
  refine ⟨m, ?_, h2⟩
  rw [show iterO N (fun s => F_trim_marked_l0 N rows list s.1 s.2) (0, m0) = _ from h1]
  rfl
/-- what is reached -/
inductive Rch (rows : List (List Int)) (entry : List Int) : Int → Prop
  | zero : Rch rows entry 0
  | ent {x : Int} : x ∈ entry → Rch rows entry x
  | step {s y : Int} : Rch rows entry s → y ∈ rows.getD s.toNat [] → Rch rows entry y
theorem Rch.rng (h : Rt rows rule entry) {s : Int} (hr : Rch rows entry s) : 0 ≤ s ∧ s < rows.length := by
  induction hr with
  | zero => have := h.n1; omega
  | ent hx => exact h.ent _ hx
  | step _ hy ih =>
    obtain ⟨r, _, h2, h3, h4⟩ := row_of h ih
    rw [h2] at hy
    exact h4 _ hy
def bt (l : List Bool) (j : Nat) : Bool := l.getD j false
end
end Go.Proofs.YteiaphkejkgfkaaDoor
namespace Go.Proofs.YteiaphkejkgfkaaDoor
open Go Go.Eng
section
variable {N : Nat} {rows : List (List Int)} {rule entry : List Int}
def Mono (a b : List Bool) : Prop := ∀ j, bt a j = true → bt b j = true
theorem Mono.trans {a b c : List Bool} (h : Mono a b) (h' : Mono b c) : Mono a c := fun j hj => h' j (h j hj)
theorem row_nat (h : Rt rows rule entry) {i : Nat} (hi : i < rows.length) : ∃ r, idx rows (i : Int) = some r ∧ rows.getD i [] = r ∧ r ∈ rows ∧ ∀ y ∈ r, 0 ≤ y ∧ y < rows.length := by
  obtain ⟨r, h1, h2, h3, h4⟩ := row_of h (x := (i : Int)) (by omega)
  exact ⟨r, h1, by simpa using h2, h3, h4⟩
end
end Go.Proofs.YteiaphkejkgfkaaDoor
namespace Go.Proofs.YteiaphkejkgfkaaDoor
open Go Go.Eng
section
variable {N : Nat} {rows : List (List Int)} {rule entry : List Int}
/-- from what a rule is come to -/
inductive Lv (rows : List (List Int)) (rule : List Int) : Int → Prop
  | here {s : Int} : 0 ≤ s → s < rows.length → rule.getD s.toNat 0 ≠ -1 → Lv rows rule s
  | step {s y : Int} : 0 ≤ s → s < rows.length → y ∈ rows.getD s.toNat [] → Lv rows rule y → Lv rows rule s
theorem Lv.rng {s : Int} (h : Lv rows rule s) : 0 ≤ s ∧ s < rows.length := by cases h <;> exact ⟨by assumption, by assumption⟩
end
end Go.Proofs.YteiaphkejkgfkaaDoor
namespace Go.Proofs.YteiaphkejkgfkaaDoor
open Go Go.Eng
section
variable {N : Nat} {rows : List (List Int)} {rule entry : List Int}
theorem right_not (hN : 4294967296 ≤ N) (hs : Sz rows rule entry) (h : ¬ Rt rows rule entry) : F_subset_Right N rows rule entry = some false := by
  obtain ⟨b, hb, hbt⟩ := right_spec hN hs
  cases b with
  | false => exact hb
  | true => exact absurd (hbt.1 rfl) h
theorem right_yes (hN : 4294967296 ≤ N) (hs : Sz rows rule entry) (h : Rt rows rule entry) : F_subset_Right N rows rule entry = some true := by
  obtain ⟨b, hb, hbt⟩ := right_spec hN hs
  rwa [hbt.2 h] at hb
end
end Go.Proofs.YteiaphkejkgfkaaDoor
namespace Go.Proofs.YteiaphkejkgfkaaDoor
open Go Go.Eng
set_option maxRecDepth 100000
theorem alive18 : F_dofferlaw18_alive 4294967296 = some true := by kernel_rfl
section
variable {N : Nat} {rows : List (List Int)} {rule entry : List Int}
theorem nxt_mem (hs : Sz rows rule entry) {s c : Int} (hr : 0 ≤ s ∧ s < rows.length) (hc : 0 ≤ c ∧ c < 256) : nxt rows s c ∈ rows.getD s.toNat [] := by
  have hl : s.toNat < rows.length := by omega
  have hw := hs.w _ (List.getElem_mem hl)
  have hcl : c.toNat < rows[s.toNat].length := by omega
  unfold nxt
  rw [getD_of (List.getElem?_eq_getElem hl), getD_of (List.getElem?_eq_getElem hcl)]
  exact List.getElem_mem hcl
end
end Go.Proofs.YteiaphkejkgfkaaDoor
namespace Go.Proofs.YteiaphkejkgfkaaDoor
open Go Go.Eng
set_option maxRecDepth 100000
/-- a text as a number: the shorter is less, of the same length the least -/
def key (t : List Int) : Nat := t.foldl (fun a c => a * 257 + (c.toNat + 1)) 0
theorem key_snoc (t : List Int) (c : Int) : key (t ++ [c]) = key t * 257 + (c.toNat + 1) := by simp [key]
theorem snoc_of {t : List Int} (h : t ≠ []) : ∃ u c, t = u ++ [c] := ⟨t.dropLast, t.getLast h, (List.dropLast_concat_getLast h).symm⟩
theorem key_nil : key [] = 0 := rfl
theorem Byt.app {t : List Int} {c : Int} : Byt (t ++ [c]) ↔ Byt t ∧ 0 ≤ c ∧ c < 256 := by
  constructor
  · exact fun h => ⟨fun x hx => h x (by simp [hx]), h c (by simp)⟩
  · rintro ⟨h1, h2⟩ x hx
    rcases List.mem_append.1 hx with hx | hx
    · exact h1 x hx
    · simp at hx; subst hx; exact h2
theorem snoc_ind {P : List Int → Prop} (h0 : P []) (h1 : ∀ t c, P t → P (t ++ [c])) : ∀ (n : Nat) (t : List Int), t.length = n → P t
  | 0, t, h => by
    obtain rfl := List.length_eq_zero_iff.1 h
    exact h0
  | n + 1, t, h => by
    obtain ⟨u, c, rfl⟩ := snoc_of (t := t) (fun e => by subst e; simp at h)
    exact h1 u c (snoc_ind h0 h1 n u (by simpa using h))
theorem key_bound {t : List Int} : Byt t → key t < 257 ^ t.length ∧ (1 ≤ t.length → 257 ^ (t.length - 1) ≤ key t) := by
  refine snoc_ind (P := fun t => Byt t → key t < 257 ^ t.length ∧ (1 ≤ t.length → 257 ^ (t.length - 1) ≤ key t)) (fun _ => ⟨by simp [key], by simp⟩) (fun t c ih hb => ?_) _ t rfl
  obtain ⟨hb1, hc⟩ := Byt.app.1 hb
  obtain ⟨i1, i2⟩ := ih hb1
  have e1 : (257 : Nat) ^ (t.length + 1) = 257 ^ t.length * 257 := Nat.pow_succ ..
  rw [key_snoc, List.length_append, List.length_singleton]
  refine ⟨by omega, fun _ => ?_⟩
  rw [Nat.add_sub_cancel]
  by_cases hl : 1 ≤ t.length
  · have := i2 hl
    have e2 : (257 : Nat) ^ t.length = 257 ^ (t.length - 1) * 257 := by
      rw [← Nat.pow_succ]; congr 1; omega
    omega
  · have : t.length = 0 := by omega
    rw [this, Nat.pow_zero]
    omega
theorem key_inj : ∀ {t u : List Int}, Byt t → Byt u → key t = key u → t = u := by
  intro t
  refine snoc_ind (P := fun t => ∀ {u : List Int}, Byt t → Byt u → key t = key u → t = u) (fun {u} _ hu hk => ?_) (fun t c ih {u} ht hu hk => ?_) _ t rfl
  · by_cases hn : u = []
    · exact hn.symm
    · obtain ⟨v, d, rfl⟩ := snoc_of hn
      rw [key_snoc, key_nil] at hk
      omega
  · by_cases hn : u = []
    · subst hn
      rw [key_snoc, key_nil] at hk
      omega
    · obtain ⟨v, d, rfl⟩ := snoc_of hn
      obtain ⟨ht1, hc⟩ := Byt.app.1 ht
      obtain ⟨hu1, hd⟩ := Byt.app.1 hu
      rw [key_snoc, key_snoc] at hk
      have e1 : key t = key v := by omega
      have e2 : c = d := by omega
      rw [ih ht1 hu1 e1, e2]
section
variable {N : Nat} {rows : List (List Int)} {rule entry : List Int}
/-- the text leads from s to a state with the rule -/
def Leads (rows : List (List Int)) (rule : List Int) (x s : Int) (t : List Int) : Prop := Byt t ∧ rule.getD (t.foldl (nxt rows) s).toNat 0 = x
/-- .. a text of k bytes does -/
def LeadsIn (rows : List (List Int)) (rule : List Int) (x : Int) (k : Nat) (s : Int) : Prop := ∃ t, Leads rows rule x s t ∧ t.length = k
/-- the least such k -/
def Dist (rows : List (List Int)) (rule : List Int) (x s : Int) (k : Nat) : Prop := LeadsIn rows rule x k s ∧ ∀ j, j < k → ¬ LeadsIn rows rule x j s
theorem leads_cons {x s c : Int} {t : List Int} : Leads rows rule x s (c :: t) ↔ (0 ≤ c ∧ c < 256) ∧ Leads rows rule x (nxt rows s c) t := by
  unfold Leads
  constructor
  · rintro ⟨h1, h2⟩
    exact ⟨h1 c (by simp), fun y hy => h1 y (by simp [hy]), h2⟩
  · rintro ⟨h1, h2, h3⟩
    refine ⟨fun y hy => ?_, h3⟩
    rcases List.mem_cons.1 hy with rfl | hy
    · exact h1
    · exact h2 y hy
theorem leadsIn_zero {x s : Int} : LeadsIn rows rule x 0 s ↔ rule.getD s.toNat 0 = x := by
  constructor
  · rintro ⟨t, h, hl⟩
    obtain rfl := List.length_eq_zero_iff.1 hl
    exact h.2
  · exact fun h => ⟨[], ⟨fun y hy => by simp at hy, h⟩, rfl⟩
theorem leadsIn_succ {x s : Int} {k : Nat} : LeadsIn rows rule x (k + 1) s ↔ ∃ c : Int, (0 ≤ c ∧ c < 256) ∧ LeadsIn rows rule x k (nxt rows s c) := by
  constructor
  · rintro ⟨t, h, hl⟩
    cases t with
    | nil => simp at hl
    | cons c t =>
      obtain ⟨h1, h2⟩ := leads_cons.1 h
      exact ⟨c, h1, t, h2, by simpa using hl⟩
  · rintro ⟨c, hc, t, h, hl⟩
    exact ⟨c :: t, leads_cons.2 ⟨hc, h⟩, by simp [hl]⟩
/-- Steps after k rounds: what is at most k away has its distance, the rest -1 -/
def StepsIs (rows : List (List Int)) (rule : List Int) (x : Int) (k : Nat) (l : List Int) : Prop :=
  l.length = rows.length ∧ ∀ s : Nat, s < rows.length → (∃ d : Nat, d ≤ k ∧ l[s]? = some (d : Int) ∧ Dist rows rule x s d) ∨ (l[s]? = some (-1) ∧ ∀ d, d ≤ k → ¬ LeadsIn rows rule x d s)
theorem Dist.uniq {x s : Int} {a b : Nat} (h : Dist rows rule x s a) (h' : Dist rows rule x s b) : a = b := by
  rcases Nat.lt_trichotomy a b with hl | he | hl
  · exact absurd h.1 (h'.2 a hl)
  · exact he
  · exact absurd h'.1 (h.2 b hl)
theorem steps_row {k : Nat} {i : Nat} {was out row : List Int} (hN : 4294967296 ≤ N) (hw : row.length = 256) (hk : k < 4294967296) (hl : was.length = rows.length) (hl2 : out.length = rows.length) (hi : i < rows.length) (hr : ∀ y ∈ row, 0 ≤ y ∧ y < rows.length) :
    iterO N (fun s => F_dofferref18_Steps_l3 N (k : Int) was (i : Int) row s.1 s.2) (out, 0) = some (if was.getD i 0 < 0 ∧ (row.any fun y => was.getD y.toNat 0 == (k : Int)) = true then out.set i ((k + 1 : Nat) : Int) else out) := by
  have key := loop_fold (f := fun s => F_dofferref18_Steps_l3 N (k : Int) was (i : Int) row s.1 s.2) (fun c (s : List Int) => (s, (c : Int))) id row
    (fun s y => if was.getD i 0 < 0 ∧ (was.getD y.toNat 0 == (k : Int)) = true then s.set i ((k + 1 : Nat) : Int) else s) (fun _ s => s.length = rows.length) (N := N) (s := out) (by omega) hl2
    (fun c y s hx hI => by
      have hc := lt_len hx
      have hyr := hr y (List.mem_of_getElem? hx)
      have hyl : y.toNat < was.length := by omega
      have hil : i < was.length := by omega
      have g1 : idx was (i : Int) = some (was.getD i 0) := by rw [getD_of (List.getElem?_eq_getElem hil)]; exact idx_nat hil
      have g2 : idx was y = some (was.getD y.toNat 0) := by rw [getD_of (List.getElem?_eq_getElem hyl)]; exact idx_int hyr.1 hyl
      refine ⟨?_, ?_⟩
      · unfold F_dofferref18_Steps_l3
        simp only [show ((c : Int) < 256) by omega, decide_true, if_true, idx_of hx, g1, g2, bind, Option.bind_some]
        rw [w64_succ (n := c) (by omega)]
        by_cases h1 : was.getD i 0 < 0
        · simp only [h1, decide_true, if_true, Option.bind_some, true_and]
          cases h2 : was.getD y.toNat 0 == (k : Int) with
          | true =>
            simp only [if_true, idx_nat (show i < s.length by omega), setI_nat (show i < s.length by omega), Option.bind_some]
            rw [w64_succ (n := k) (by omega)]
          | false => simp
        · simp only [h1, decide_false, Bool.false_eq_true, if_false, Option.bind_some, false_and]
      · show (if _ then _ else _ : List Int).length = _
        split
        · rw [List.length_set]; exact hI
        · exact hI)
    (fun s _ => by unfold F_dofferref18_Steps_l3; simp [hw])
  rw [show iterO N (fun s => F_dofferref18_Steps_l3 N (k : Int) was (i : Int) row s.1 s.2) (out, 0) = _ from key]
  congr 1
  rw [id]
  have fl : ∀ (l s : List Int), l.foldl (fun s y => if was.getD i 0 < 0 ∧ (was.getD y.toNat 0 == (k : Int)) = true then s.set i ((k + 1 : Nat) : Int) else s) s = if was.getD i 0 < 0 ∧ (l.any fun y => was.getD y.toNat 0 == (k : Int)) = true then s.set i ((k + 1 : Nat) : Int) else s := by
    intro l
    induction l with
    | nil => intro s; simp
    | cons y l ih =>
      intro s
      rw [List.foldl_cons, ih, List.any_cons]
      by_cases h1 : was.getD i 0 < 0
      · cases h2 : was.getD y.toNat 0 == (k : Int) with
        | true => simp only [h1, true_and, if_true, Bool.true_or, List.set_set, ite_self]
        | false => simp only [h1, true_and, Bool.false_eq_true, if_false, Bool.false_or]
      · simp only [h1, false_and, if_false]
  exact fl row out
theorem steps_round {k : Nat} {x : Int} {was : List Int} (hN : 4294967296 ≤ N) (hk : k < 4294967296) (hs : Sz rows rule entry) (h : Rt rows rule entry) (hS : StepsIs rows rule x k was) :
    ∃ out, iterO N (fun s => F_dofferref18_Steps_l2 N rows (k : Int) was s.1 s.2) (0, was) = some out ∧ StepsIs rows rule x (k + 1) out := by
  have hn2 := h.n2
  obtain ⟨hl, hS⟩ := hS
  obtain ⟨out, h1, h2, h3⟩ := loop_inv (f := fun s => F_dofferref18_Steps_l2 N rows (k : Int) was s.1 s.2) (fun i (s : List Int) => ((i : Int), s)) id rows
    (fun i out => out.length = rows.length ∧ ∀ s : Nat, s < rows.length → out[s]? = if s < i ∧ was.getD s 0 < 0 ∧ ((rows.getD s []).any fun y => was.getD y.toNat 0 == (k : Int)) = true then some ((k + 1 : Nat) : Int) else was[s]?) (N := N) (s := was) (by omega)
    ⟨hl, fun s _ => by simp⟩
    (fun i r out hx hI => by
      obtain ⟨k1, k2⟩ := hI
      have hi := lt_len hx
      have hm := List.mem_of_getElem? hx
      have hrow : rows.getD i [] = r := getD_of hx
      have hro := steps_row (N := N) (k := k) hN (hs.w r hm) hk hl k1 hi (h.row r hm)
      refine ⟨if was.getD i 0 < 0 ∧ (r.any fun y => was.getD y.toNat 0 == (k : Int)) = true then out.set i ((k + 1 : Nat) : Int) else out, ?_, ?_, fun s hsn => ?_⟩
      · unfold F_dofferref18_Steps_l2
        simp only [show ((i : Int) < (rows.length : Int)) by omega, decide_true, if_true, idx_of hx, bind, Option.bind_some]
        rw [hro]
        simp only [Option.bind_some]
        rw [w64_succ (n := i) (by omega)]
      · split
        · rw [List.length_set]; exact k1
        · exact k1
      · by_cases hsi : s = i
        · subst hsi
          rw [hrow]
          by_cases hc : was.getD s 0 < 0 ∧ (r.any fun y => was.getD y.toNat 0 == (k : Int)) = true
          · rw [if_pos hc, if_pos ⟨by omega, hc⟩, List.getElem?_set_self (by omega)]
          · rw [if_neg hc, if_neg (fun q => hc q.2), k2 s hsn, if_neg (fun q => by omega)]
        · have e : (if was.getD i 0 < 0 ∧ (r.any fun y => was.getD y.toNat 0 == (k : Int)) = true then out.set i ((k + 1 : Nat) : Int) else out)[s]? = out[s]? := by
            split
            · exact List.getElem?_set_ne (by omega)
            · rfl
          rw [e, k2 s hsn]
          have : (s < i + 1) ↔ (s < i) := by omega
          simp only [this])
    (fun s _ => by unfold F_dofferref18_Steps_l2; simp)
  refine ⟨out, h1, h2, fun s hsn => ?_⟩
  have h3 := h3 s hsn
  have hrw : ∀ c : Int, 0 ≤ c ∧ c < 256 → nxt rows s c ∈ rows.getD s [] := fun c hc => nxt_mem hs (s := (s : Int)) (by omega) hc
  rcases hS s hsn with ⟨d, d1, d2, d3⟩ | ⟨d1, d2⟩
  · left
    have : ¬ was.getD s 0 < 0 := by rw [getD_of d2]; omega
    rw [if_neg (fun q => this q.2.1), d2] at h3
    exact ⟨d, by omega, h3, d3⟩
  · by_cases ha : ((rows.getD s []).any fun y => was.getD y.toNat 0 == (k : Int)) = true
    · left
      rw [if_pos ⟨hsn, by rw [getD_of d1]; omega, ha⟩] at h3
      refine ⟨k + 1, Nat.le_refl _, h3, ?_, fun j hj => d2 j (by omega)⟩
      obtain ⟨y, hy, hyk⟩ := List.any_eq_true.1 ha
      rw [beq_iff_eq] at hyk
      obtain ⟨r, hr1, hr2, hr3, hr4⟩ := row_nat h hsn
      rw [hr2] at hy
      have hyr := hr4 y hy
      obtain ⟨c, hcl, hcy⟩ := List.getElem_of_mem hy
      have hc256 := hs.w r hr3
      have hnx : nxt rows s c = y := by
        unfold nxt
        rw [Int.toNat_natCast, Int.toNat_natCast, hr2, getD_of (List.getElem?_eq_getElem hcl), hcy]
      refine leadsIn_succ.2 ⟨(c : Int), ⟨by omega, by omega⟩, ?_⟩
      rw [hnx]
      rcases hS y.toNat (by omega) with ⟨d, e1, e2, e3⟩ | ⟨e1, e2⟩
      · rw [getD_of e2] at hyk
        obtain rfl : d = k := by omega
        rw [show ((y.toNat : Nat) : Int) = y by omega] at e3
        exact e3.1
      · rw [getD_of e1] at hyk
        omega
    · right
      rw [if_neg (fun q => ha q.2.2), d1] at h3
      refine ⟨h3, fun d hd hld => ?_⟩
      by_cases hdk : d ≤ k
      · exact d2 d hdk hld
      · obtain rfl : d = k + 1 := by omega
        obtain ⟨c, hc, hlc⟩ := leadsIn_succ.1 hld
        have hy := hrw c hc
        obtain ⟨r, hr1, hr2, hr3, hr4⟩ := row_nat h hsn
        have hyr := hr4 _ (hr2 ▸ hy)
        generalize hye : nxt rows s c = y at *
        rcases hS y.toNat (by omega) with ⟨d, e1, e2, e3⟩ | ⟨e1, e2⟩
        · rw [show ((y.toNat : Nat) : Int) = y by omega] at e3
          by_cases hdk : d = k
          · subst hdk
            refine ha (List.any_eq_true.2 ⟨y, hy, ?_⟩)
            rw [getD_of e2, beq_iff_eq]
          · refine d2 (d + 1) (by omega) (leadsIn_succ.2 ⟨c, hc, ?_⟩)
            rw [hye]
            exact e3.1
        · rw [show ((y.toNat : Nat) : Int) = y by omega] at e2
          exact e2 k (Nat.le_refl _) hlc
end
end Go.Proofs.YteiaphkejkgfkaaDoor
namespace Go.Proofs.YteiaphkejkgfkaaDoor
open Go Go.Eng
set_option maxRecDepth 100000
theorem least {P : Nat → Prop} : ∀ {n : Nat}, P n → ∃ k, k ≤ n ∧ P k ∧ ∀ j, j < k → ¬ P j := by
  intro n
  induction n using Nat.strongRecOn with
  | ind n ih =>
    intro h
    by_cases hc : ∃ j, j < n ∧ P j
    · obtain ⟨j, h1, h2⟩ := hc
      obtain ⟨k, k1, k2, k3⟩ := ih j h1 h2
      exact ⟨k, by omega, k2, k3⟩
    · exact ⟨n, Nat.le_refl _, h, fun j hj hp => hc ⟨j, hj, hp⟩⟩
section
variable {N : Nat} {rows : List (List Int)} {rule entry : List Int}
theorem dist_step {x s : Int} {d : Nat} (h : Dist rows rule x s (d + 1)) : ∃ c : Int, (0 ≤ c ∧ c < 256) ∧ Dist rows rule x (nxt rows s c) d := by
  obtain ⟨c, hc, hl⟩ := leadsIn_succ.1 h.1
  exact ⟨c, hc, hl, fun j hj hlj => h.2 (j + 1) (by omega) (leadsIn_succ.2 ⟨c, hc, hlj⟩)⟩
theorem dist_chain (hs : Sz rows rule entry) (h : Rt rows rule entry) {x : Int} : ∀ {d : Nat} {s : Int}, (0 ≤ s ∧ s < rows.length) → Dist rows rule x s d → ∃ l : List Int, l.length = d + 1 ∧ l.Nodup ∧ ∀ y ∈ l, (0 ≤ y ∧ y < rows.length) ∧ ∃ j, j ≤ d ∧ Dist rows rule x y j
  | 0, s, hr, hd => ⟨[s], rfl, by simp, fun y hy => by simp at hy; subst hy; exact ⟨hr, 0, Nat.le_refl _, hd⟩⟩
  | d + 1, s, hr, hd => by
    obtain ⟨c, hc, hd'⟩ := dist_step hd
    obtain ⟨l, l1, l2, l3⟩ := dist_chain hs h (nxt_rng hs h hr hc) hd'
    refine ⟨s :: l, by simp [l1], List.nodup_cons.2 ⟨fun hm => ?_, l2⟩, fun y hy => ?_⟩
    · obtain ⟨_, j, hj, hdj⟩ := l3 s hm
      have := hd.uniq hdj
      omega
    · rcases List.mem_cons.1 hy with rfl | hy
      · exact ⟨hr, d + 1, Nat.le_refl _, hd⟩
      · obtain ⟨a, j, hj, hdj⟩ := l3 y hy
        exact ⟨a, j, by omega, hdj⟩
theorem dist_le (hs : Sz rows rule entry) (h : Rt rows rule entry) {x s : Int} {d : Nat} (hr : 0 ≤ s ∧ s < rows.length) (hd : Dist rows rule x s d) : d < rows.length := by
  obtain ⟨l, l1, l2, l3⟩ := dist_chain hs h hr hd
  have := (Acc.len (n := rows.length) ⟨l2, fun y hy => (l3 y hy).1⟩)
  omega
/-- the document's steps -/
def StepsAll (rows : List (List Int)) (rule : List Int) (x : Int) (l : List Int) : Prop :=
  l.length = rows.length ∧ ∀ s : Int, (0 ≤ s ∧ s < rows.length) → (∃ d : Nat, l.getD s.toNat 0 = (d : Int) ∧ Dist rows rule x s d) ∨ (l.getD s.toNat 0 = -1 ∧ ∀ d, ¬ LeadsIn rows rule x d s)
theorem steps_spec {x : Int} (hN : 4294967296 ≤ N) (hs : Sz rows rule entry) (h : Rt rows rule entry) : ∃ l, F_dofferref18_Steps N rows rule entry x = some l ∧ StepsAll rows rule x l := by
  have hn2 := h.n2
  have hru := h.ru
  unfold F_dofferref18_Steps
  rw [mk_eq (by omega)]
  simp only [bind, Option.bind_some]
  obtain ⟨l0, h1, h2, h3⟩ := loop_inv (f := fun s => F_dofferref18_Steps_l0 N rule x (List.replicate rows.length 0) s.1 s.2) (fun i (s : List Int) => ((i : Int), s)) id (List.range rows.length)
    (fun i s => s.length = rows.length ∧ ∀ j, j < i → s[j]? = some (if rule.getD j 0 = x then 0 else -1)) (N := N) (s := List.replicate rows.length 0) (by simp; omega) ⟨by simp, fun j hj => by omega⟩
    (fun i y s hx hI => by
      obtain ⟨k1, k2⟩ := hI
      obtain ⟨hi, rfl⟩ := range_get hx
      have hys : y < s.length := by omega
      have hyr : y < rule.length := by omega
      have g1 : idx rule (y : Int) = some (rule.getD y 0) := by rw [getD_of (List.getElem?_eq_getElem hyr)]; exact idx_nat hyr
      refine ⟨s.set y (if rule.getD y 0 = x then 0 else -1), ?_, by simpa using k1, fun j hj => ?_⟩
      · unfold F_dofferref18_Steps_l0
        have hlt : ((y : Int) < ((List.replicate rows.length (0 : Int)).length : Int)) := by rw [List.length_replicate]; omega
        simp only [hlt, decide_true, if_true, idx_nat hys, setI_nat hys, g1, bind, Option.bind_some]
        rw [w64_succ (n := y) (by omega)]
        by_cases hc : rule.getD y 0 = x
        · have : (rule.getD y 0 == x) = true := by simpa using hc
          have hys' : y < (s.set y (-1)).length := by simpa using hys
          simp only [this, if_true, idx_nat hys', setI_nat hys', Option.bind_some, List.set_set, if_pos hc]
        · have : (rule.getD y 0 == x) = false := by simpa using hc
          simp only [this, Bool.false_eq_true, if_false, Option.bind_some, if_neg hc]
      · by_cases hjy : j = y
        · subst hjy; rw [List.getElem?_set_self hys]
        · rw [List.getElem?_set_ne (by omega), k2 j (by omega)])
    (fun s _ => by unfold F_dofferref18_Steps_l0; simp)
  rw [show iterO N (fun s => F_dofferref18_Steps_l0 N rule x (List.replicate rows.length 0) s.1 s.2) (0, List.replicate rows.length 0) = _ from h1]
  simp only [Option.bind_some, id]
  have hS0 : StepsIs rows rule x 0 l0 := by
    refine ⟨h2, fun s hsn => ?_⟩
    have h3 := h3 s (by simpa using hsn)
    by_cases hc : rule.getD s 0 = x
    · rw [if_pos hc] at h3
      exact .inl ⟨0, Nat.le_refl _, h3, leadsIn_zero.2 (by simpa using hc), fun j hj => by omega⟩
    · rw [if_neg hc] at h3
      refine .inr ⟨h3, fun d hd hl => hc ?_⟩
      obtain rfl : d = 0 := by omega
      have := leadsIn_zero.1 hl
      simpa using this
  obtain ⟨l, q1, q2⟩ := loop_inv (f := fun s => F_dofferref18_Steps_l1 N rows s.1 s.2) (fun i (s : List Int) => (s, (i : Int))) id (List.range rows.length)
    (fun i s => StepsIs rows rule x i s) (N := N) (s := l0) (by simp; omega) hS0
    (fun i y s hx hI => by
      obtain ⟨hi, rfl⟩ := range_get hx
      obtain ⟨out, o1, o2⟩ := steps_round (N := N) hN (show y < 4294967296 by omega) hs h hI
      have hsl := hI.1
      refine ⟨out, ?_, o2⟩
      unfold F_dofferref18_Steps_l1
      simp only [show ((y : Int) < (rows.length : Int)) by omega, decide_true, if_true, bind]
      rw [app_eq (by simp; omega)]
      simp only [List.nil_append, Option.bind_some]
      rw [o1]
      simp only [Option.bind_some]
      rw [w64_succ (n := y) (by omega)])
    (fun s _ => by unfold F_dofferref18_Steps_l1; simp)
  rw [List.length_range] at q2
  refine ⟨l, ?_, q2.1, fun s hr => ?_⟩
  · rw [show iterO N (fun s => F_dofferref18_Steps_l1 N rows s.1 s.2) (l0, 0) = _ from q1]
    rfl
  · have hsn : ((s.toNat : Nat) : Int) = s := by omega
    rcases q2.2 s.toNat (by omega) with ⟨d, d1, d2, d3⟩ | ⟨d1, d2⟩
    · rw [hsn] at d3
      exact .inl ⟨d, getD_of d2, d3⟩
    · rw [hsn] at d2
      refine .inr ⟨getD_of d1, fun d hl => ?_⟩
      obtain ⟨k, k1, k2, k3⟩ := least (P := fun d => LeadsIn rows rule x d s) hl
      have := dist_le hs h hr (x := x) (d := k) ⟨k2, k3⟩
      exact d2 k (by omega) k2
/-- the least of the shortest -/
def Best (rows : List (List Int)) (rule : List Int) (x s : Int) (g : List Int) : Prop := Leads rows rule x s g ∧ ∀ u, Leads rows rule x s u → key g ≤ key u
theorem Best.uniq {x s : Int} {a b : List Int} (h : Best rows rule x s a) (h' : Best rows rule x s b) : a = b := key_inj h.1.1 h'.1.1 (Nat.le_antisymm (h.2 _ h'.1) (h'.2 _ h.1))
theorem greedy {x s0 : Int} {S : List Int} (hN : 4294967296 ≤ N) (hs : Sz rows rule entry) (h : Rt rows rule entry) (hS : StepsAll rows rule x S) (hr0 : 0 ≤ s0 ∧ s0 < rows.length) {D : Nat} (hD : Dist rows rule x s0 D) :
    ∃ g, iterO N (fun s => F_dofferref18_Shortest_l0 N rows S s.1 s.2) ([], s0) = some g ∧ Best rows rule x s0 g := by
  have hn2 := h.n2
  have hDn := dist_le hs h hr0 hD
  have dst : ∀ {s : Int} {d : Nat}, (0 ≤ s ∧ s < rows.length) → Dist rows rule x s d → S.getD s.toNat 0 = (d : Int) := by
    intro s d hr hd
    rcases hS.2 s hr with ⟨d', e1, e2⟩ | ⟨_, e2⟩
    · rw [e1, e2.uniq hd]
    · exact absurd hd.1 (e2 d)
  have at_ : ∀ {s : Int}, (0 ≤ s ∧ s < rows.length) → idx S s = some (S.getD s.toNat 0) := by
    intro s hr
    have hl : s.toNat < S.length := by rw [hS.1]; omega
    rw [getD_of (List.getElem?_eq_getElem hl)]
    exact idx_int hr.1 hl
  have dec : ∀ {s : Int} {d : Nat}, (0 ≤ s ∧ s < rows.length) → S.getD s.toNat 0 = (d : Int) → Dist rows rule x s d := by
    intro s d hr hd
    rcases hS.2 s hr with ⟨d', e1, e2⟩ | ⟨e1, e2⟩
    · obtain rfl : d' = d := by omega
      exact e2
    · omega
  refine (iterO_while (f := fun s => F_dofferref18_Shortest_l0 N rows S s.1 s.2)
    (fun q => Byt q.1 ∧ q.2 = q.1.foldl (nxt rows) s0 ∧ (0 ≤ q.2 ∧ q.2 < rows.length) ∧ q.1.length ≤ D ∧ Dist rows rule x q.2 (D - q.1.length) ∧ ∀ u, Leads rows rule x s0 u → u.length = D → key q.1 ≤ key (u.take q.1.length))
    (fun q => D - q.1.length) (fun g => Best rows rule x s0 g) ?_ (N := N) (s := ([], s0)) ?_ ?_)
  · rintro ⟨o, s⟩ ⟨i1, i2, i3, i4, i5, i6⟩
    simp only at i1 i2 i3 i4 i5 i6
    have hSs := dst i3 i5
    by_cases he : o.length = D
    · right
      refine ⟨o, ?_, ⟨i1, ?_⟩, fun u hu => ?_⟩
      · unfold F_dofferref18_Shortest_l0
        simp only [at_ i3, hSs, he, Nat.sub_self, bind, Option.bind_some]
        simp
      · rw [← i2]
        have := i5.1
        rw [he, Nat.sub_self] at this
        exact leadsIn_zero.1 this
      · have hul : D ≤ u.length := by
          refine Classical.byContradiction fun hlt => hD.2 u.length (by omega) ⟨u, hu, rfl⟩
        by_cases hue : u.length = D
        · have := i6 u hu hue
          rwa [he, ← hue, List.take_length] at this
        · have k1 := (key_bound i1).1
          have k2 := (key_bound hu.1).2 (by omega)
          have : (257 : Nat) ^ o.length ≤ 257 ^ (u.length - 1) := Nat.pow_le_pow_right (by omega) (by omega)
          omega
    · left
      obtain ⟨m, hm⟩ : ∃ m, D - o.length = m + 1 := ⟨D - o.length - 1, by omega⟩
      rw [hm] at i5 hSs
      obtain ⟨c0, hc0, hd0⟩ := dist_step i5
      obtain ⟨row, r1, r2, r3, r4⟩ := nxt_get hs i3 hc0
      have hrow : rows.getD s.toNat [] = row := by
        obtain ⟨_, _, hx⟩ := idx_some r1
        exact getD_of hx
      have hw := hs.w row r2
      have hnx : ∀ c : Nat, c < 256 → ∃ y, idx row (c : Int) = some y ∧ nxt rows s c = y ∧ (0 ≤ y ∧ y < rows.length) := by
        intro c hc
        have hcl : c < row.length := by omega
        refine ⟨row[c], idx_nat hcl, ?_, h.row row r2 _ (List.getElem_mem hcl)⟩
        unfold nxt
        rw [Int.toNat_natCast, hrow, getD_of (List.getElem?_eq_getElem hcl)]
      obtain ⟨c, hcle, hc1, hc2⟩ := least (P := fun c => c < 256 ∧ Dist rows rule x (nxt rows s (c : Int)) m) (n := c0.toNat) ⟨by omega, by rw [show ((c0.toNat : Nat) : Int) = c0 by omega]; exact hd0⟩
      obtain ⟨y, y1, y2, y3⟩ := hnx c hc1.1
      have hww : w64 (((m + 1 : Nat) : Int) - 1) = (m : Int) := by rw [w64, wrap64] <;> omega
      have inner : iterO N (fun q => F_dofferref18_Shortest_l1 N rows S o s q) 0 = some (o ++ [(c : Int)], y) := by
        refine iterO_for0 (fun i => (i : Int)) c rfl (by omega) (fun i hi => ?_) ?_
        · obtain ⟨z, z1, z2, z3⟩ := hnx i (by omega)
          have hne : ¬ S.getD z.toNat 0 = (m : Int) := fun e => hc2 i hi ⟨by omega, by rw [z2]; exact dec z3 e⟩
          unfold F_dofferref18_Shortest_l1
          simp only [show ((i : Int) < 256) by omega, decide_true, if_true, r1, z1, at_ z3, at_ i3, hSs, hww, beq_eq_false_iff_ne.2 hne, bind, Option.bind_some, Bool.false_eq_true, if_false]
          rw [w64_succ (by omega)]
        · have hwc : IntKind.wrap .u8 (c : Int) = (c : Int) := by
            simp [IntKind.wrap, IntKind.signed, IntKind.bits]
            omega
          have hyd : S.getD y.toNat 0 = (m : Int) := dst y3 (y2 ▸ hc1.2)
          unfold F_dofferref18_Shortest_l1
          simp only [show ((c : Int) < 256) by omega, decide_true, if_true, r1, y1, at_ y3, at_ i3, hSs, hww, hyd, beq_self_eq_true, bind, Option.bind_some, hwc]
          rw [app_eq (by simp; omega)]
          rfl
      refine ⟨(o ++ [(c : Int)], y), ?_, ⟨Byt.app.2 ⟨i1, by omega, by omega⟩, ?_, y3, by simp; omega, ?_, fun u hu hul => ?_⟩, by simp; omega⟩
      · unfold F_dofferref18_Shortest_l0
        simp only [at_ i3, hSs, show (((m + 1 : Nat) : Int) > 0) by omega, decide_true, if_true, bind, Option.bind_some]
        rw [inner]
        rfl
      · rw [List.foldl_append, ← i2]
        exact y2.symm
      · show Dist rows rule x y (D - (o ++ [(c : Int)]).length)
        rw [List.length_append, List.length_singleton, show D - (o.length + 1) = m by omega]
        exact y2 ▸ hc1.2
      · show key (o ++ [(c : Int)]) ≤ key (u.take (o ++ [(c : Int)]).length)
        have hol : o.length < u.length := by omega
        rw [List.length_append, List.length_singleton, List.take_add_one, List.getElem?_eq_getElem hol]
        show _ ≤ key (u.take o.length ++ [u[o.length]])
        have hub := hu.1 _ (List.getElem_mem hol)
        rw [key_snoc, key_snoc]
        have h6 := i6 u hu hul
        by_cases hk : key o = key (u.take o.length)
        · have hou := key_inj i1 (hu.1.take o.length) hk
          have hcu : c ≤ u[o.length].toNat := by
            refine Classical.byContradiction fun hlt => hc2 u[o.length].toNat (by omega) ⟨by omega, ?_⟩
            rw [show ((u[o.length].toNat : Nat) : Int) = u[o.length] by omega]
            have hl1 : LeadsIn rows rule x m (nxt rows s u[o.length]) := by
              refine ⟨u.drop (o.length + 1), ⟨fun z hz => hu.1 z (List.mem_of_mem_drop hz), ?_⟩, by rw [List.length_drop]; omega⟩
              have h2 := hu.2
              rw [← List.take_append_drop (o.length + 1) u, List.foldl_append, List.take_add_one, List.getElem?_eq_getElem hol, List.foldl_append, ← hou, ← i2] at h2
              exact h2
            refine ⟨hl1, fun j hj hlj => i5.2 (j + 1) (by omega) (leadsIn_succ.2 ⟨_, hub, hlj⟩)⟩
          omega
        · omega
  · exact ⟨fun z hz => by simp at hz, rfl, hr0, by simp, by simpa using hD, fun u _ _ => by simp⟩
  · simp; omega
end
end Go.Proofs.YteiaphkejkgfkaaDoor
namespace Go.Proofs.YteiaphkejkgfkaaDoor
open Go Go.Eng
set_option maxRecDepth 100000
section
variable {σ : Type} {nx : σ → Int → σ} {G Triv : σ → Prop} {s0 : σ}
def LG (nx : σ → Int → σ) (G : σ → Prop) (s : σ) (t : List Int) : Prop := Byt t ∧ G (t.foldl nx s)
def BestG (nx : σ → Int → σ) (G : σ → Prop) (s : σ) (g : List Int) : Prop := LG nx G s g ∧ ∀ u, LG nx G s u → key g ≤ key u
theorem BestG.uniq {s : σ} {a b : List Int} (h : BestG nx G s a) (h' : BestG nx G s b) : a = b := key_inj h.1.1 h'.1.1 (Nat.le_antisymm (h.2 _ h'.1) (h'.2 _ h.1))
/-- a trivial state leads to trivial ones, none of which is looked for -/
structure TrivOk (nx : σ → Int → σ) (G Triv : σ → Prop) : Prop where
  step : ∀ s c, Triv s → Triv (nx s c)
  none : ∀ s, Triv s → ¬ G s
def Closed (nx : σ → Int → σ) (G Triv : σ → Prop) (S : List σ) (s : σ) : Prop := ¬ G s ∧ ∀ c : Int, 0 ≤ c → c < 256 → nx s c ∈ S ∨ Triv (nx s c)
structure BInv (nx : σ → Int → σ) (G Triv : σ → Prop) (Dm : σ → Prop) (s0 : σ) (S : List σ) (Q : List (σ × List Int)) : Prop where
  a : s0 ∈ S
  nd : S.Nodup
  rng : ∀ s ∈ S, Dm s
  qs : ∀ p ∈ Q, p.1 ∈ S
  byt : ∀ p ∈ Q, Byt p.2 ∧ p.2.foldl nx s0 = p.1 ∧ ∀ u, Byt u → u.foldl nx s0 = p.1 → key p.2 ≤ key u
  len : ∀ p ∈ Q, p.2.length < S.length
  ql : Q.length ≤ S.length
  cl : ∀ s ∈ S, (∃ t, (s, t) ∈ Q) ∨ Closed nx G Triv S s
  srt : (Q.map (fun p => key p.2)).Pairwise (· < ·)
  bnd : ∀ p, Q.head? = some p → ∀ q ∈ Q, key q.2 ≤ key p.2 * 257
/-- amid the children of (s, t) -/
structure BMid (nx : σ → Int → σ) (G Triv : σ → Prop) (Dm : σ → Prop) (s0 s : σ) (t : List Int) (c : Nat) (S : List σ) (Q : List (σ × List Int)) : Prop where
  a : s0 ∈ S
  nd : S.Nodup
  rng : ∀ s ∈ S, Dm s
  qs : ∀ p ∈ Q, p.1 ∈ S
  byt : ∀ p ∈ Q, Byt p.2 ∧ p.2.foldl nx s0 = p.1 ∧ ∀ u, Byt u → u.foldl nx s0 = p.1 → key p.2 ≤ key u
  len : ∀ p ∈ Q, p.2.length < S.length
  ql : Q.length + 1 ≤ S.length
  cl : ∀ z ∈ S, z = s ∨ (∃ t, (z, t) ∈ Q) ∨ Closed nx G Triv S z
  srt : (Q.map (fun p => key p.2)).Pairwise (· < ·)
  bnd : ∀ q ∈ Q, key t < key q.2 ∧ key q.2 ≤ key t * 257 + c
  tb : Byt t ∧ t.foldl nx s0 = s ∧ t.length < S.length ∧ s ∈ S
  ch : ∀ d : Nat, d < c → nx s d ∈ S ∨ Triv (nx s d)
  sm : ∀ v, Byt v → key v < key t → Closed nx G Triv S (v.foldl nx s0) ∨ Triv (v.foldl nx s0)
theorem Closed.mono {S S' : List σ} {s : σ} (h : Closed nx G Triv S s) (hS : ∀ x ∈ S, x ∈ S') : Closed nx G Triv S' s := ⟨h.1, fun c h0 h1 => (h.2 c h0 h1).imp (hS _) id⟩
/-- what is less than all that waits is done -/
theorem BInv.sm {Dm : σ → Prop} {S : List σ} {Q : List (σ × List Int)} (hT : TrivOk nx G Triv) (h : BInv nx G Triv Dm s0 S Q) :
    ∀ v, Byt v → (∀ p ∈ Q, key v < key p.2) → Closed nx G Triv S (v.foldl nx s0) ∨ Triv (v.foldl nx s0) := by
  intro v
  refine snoc_ind (P := fun v => Byt v → (∀ p ∈ Q, key v < key p.2) → Closed nx G Triv S (v.foldl nx s0) ∨ Triv (v.foldl nx s0)) (fun _ hk => ?_) (fun w d ih hb hk => ?_) _ v rfl
  · rcases h.cl s0 h.a with ⟨t, ht⟩ | hc
    · have := hk _ ht
      have h2 := (h.byt _ ht).2.2 [] (fun x hx => by simp at hx) rfl
      omega
    · exact .inl hc
  · obtain ⟨hb1, hd⟩ := Byt.app.1 hb
    rw [key_snoc] at hk
    have e : (w ++ [d]).foldl nx s0 = nx (w.foldl nx s0) d := by rw [List.foldl_append]; rfl
    rcases ih hb1 (fun p hp => by have := hk p hp; omega) with hc | ht
    · rw [e]
      rcases hc.2 d hd.1 hd.2 with hm | ht
      · rcases h.cl _ hm with ⟨t, ht⟩ | hc'
        · have h1 := hk _ ht
          have h2 := (h.byt _ ht).2.2 (w ++ [d]) hb e
          rw [key_snoc] at h2
          omega
        · exact .inl hc'
      · exact .inr ht
    · rw [e]
      exact .inr (hT.step _ _ ht)
theorem BInv.least {Dm : σ → Prop} {S : List σ} {p : σ × List Int} {Q : List (σ × List Int)} (h : BInv nx G Triv Dm s0 S (p :: Q)) : ∀ q ∈ p :: Q, key p.2 ≤ key q.2 := by
  intro q hq
  rcases List.mem_cons.1 hq with rfl | hq
  · exact Nat.le_refl _
  · have := List.rel_of_pairwise_cons h.srt (List.mem_map_of_mem (f := fun p : σ × List Int => key p.2) hq)
    exact Nat.le_of_lt this
theorem BInv.best {Dm : σ → Prop} {S : List σ} {s : σ} {t : List Int} {Q : List (σ × List Int)} (hT : TrivOk nx G Triv) (h : BInv nx G Triv Dm s0 S ((s, t) :: Q)) (hG : G s) : BestG nx G s0 t := by
  obtain ⟨b1, b2, b3⟩ := h.byt (s, t) (by simp)
  simp only at b1 b2 b3
  refine ⟨⟨b1, b2 ▸ hG⟩, fun u hu => ?_⟩
  refine Classical.byContradiction fun hlt => ?_
  rcases h.sm hT u hu.1 (fun p hp => by have := h.least p hp; simp only at this; omega) with hc | ht
  · exact hc.1 hu.2
  · exact hT.none _ ht hu.2
theorem BInv.none {Dm : σ → Prop} {S : List σ} (hT : TrivOk nx G Triv) (h : BInv nx G Triv Dm s0 S []) : ∀ u, ¬ LG nx G s0 u := by
  intro u hu
  rcases h.sm hT u hu.1 (fun p hp => by simp at hp) with hc | ht
  · exact hc.1 hu.2
  · exact hT.none _ ht hu.2
theorem BInv.start {Dm : σ → Prop} (hd : Dm s0) : BInv nx G Triv Dm s0 [s0] [(s0, [])] where
  a := by simp
  nd := by simp
  rng := fun s hs => by simp at hs; subst hs; exact hd
  qs := fun p hp => by simp at hp; subst hp; simp
  byt := fun p hp => by simp at hp; subst hp; exact ⟨fun x hx => by simp at hx, rfl, fun u _ _ => by simp [key]⟩
  len := fun p hp => by simp at hp; subst hp; simp
  ql := by simp
  cl := fun s hs => by simp at hs; subst hs; exact .inl ⟨[], by simp⟩
  srt := by simp
  bnd := fun p hp q hq => by simp at hp hq; subst hp; subst hq; simp [key]
theorem BInv.mid {Dm : σ → Prop} {S : List σ} {s : σ} {t : List Int} {Q : List (σ × List Int)} (hT : TrivOk nx G Triv) (h : BInv nx G Triv Dm s0 S ((s, t) :: Q)) (_hG : ¬ G s) : BMid nx G Triv Dm s0 s t 0 S Q where
  a := h.a
  nd := h.nd
  rng := h.rng
  qs := fun p hp => h.qs p (by simp [hp])
  byt := fun p hp => h.byt p (by simp [hp])
  len := fun p hp => h.len p (by simp [hp])
  ql := by have := h.ql; simp at this; exact this
  cl := fun z hz => by
    rcases h.cl z hz with ⟨u, hu⟩ | hc
    · rcases List.mem_cons.1 hu with he | hu
      · exact .inl (Prod.mk.inj he).1
      · exact .inr (.inl ⟨u, hu⟩)
    · exact .inr (.inr hc)
  srt := (List.pairwise_cons.1 h.srt).2
  bnd := fun q hq => by
    have h1 := List.rel_of_pairwise_cons h.srt (List.mem_map_of_mem (f := fun p : σ × List Int => key p.2) hq)
    have h2 := h.bnd (s, t) rfl q (by simp [hq])
    exact ⟨h1, by simpa using h2⟩
  tb := by
    obtain ⟨b1, b2, _⟩ := h.byt (s, t) (by simp)
    exact ⟨b1, b2, h.len (s, t) (by simp), h.qs (s, t) (by simp)⟩
  ch := fun d hd => by omega
  sm := fun v hv hk => h.sm hT v hv fun p hp => by have := h.least p hp; simp only at this; omega
/-- a child that is known, or trivial -/
theorem BMid.skip {Dm : σ → Prop} {S : List σ} {s : σ} {t : List Int} {c : Nat} {Q : List (σ × List Int)} (h : BMid nx G Triv Dm s0 s t c S Q) (hk : nx s (c : Int) ∈ S ∨ Triv (nx s (c : Int))) : BMid nx G Triv Dm s0 s t (c + 1) S Q :=
  { h with
    bnd := fun q hq => by have := h.bnd q hq; omega
    ch := fun d hd => by
      by_cases hdc : d = c
      · subst hdc; exact hk
      · exact h.ch d (by omega) }
/-- a fresh child -/
theorem BMid.push {Dm : σ → Prop} {S : List σ} {s : σ} {t : List Int} {c : Nat} {Q : List (σ × List Int)} (hT : TrivOk nx G Triv) (h : BMid nx G Triv Dm s0 s t c S Q) (hc : c < 256) (hn : nx s (c : Int) ∉ S) (ht : ¬ Triv (nx s (c : Int))) (hd : Dm (nx s (c : Int))) :
    BMid nx G Triv Dm s0 s t (c + 1) (S ++ [nx s (c : Int)]) (Q ++ [(nx s (c : Int), t ++ [(c : Int)])]) := by
  obtain ⟨t1, t2, t3, t4⟩ := h.tb
  have hkey : key (t ++ [(c : Int)]) = key t * 257 + (c + 1) := by rw [key_snoc]; simp
  have hsub : ∀ x ∈ S, x ∈ S ++ [nx s (c : Int)] := fun x hx => by simp [hx]
  refine ⟨by simp [h.a], ?_, ?_, ?_, ?_, ?_, ?_, ?_, ?_, ?_, ?_, ?_, ?_⟩
  · rw [List.nodup_append]
    exact ⟨h.nd, by simp, fun x hx y hy => by simp at hy; subst hy; intro he; subst he; exact hn hx⟩
  · intro x hx
    rcases List.mem_append.1 hx with hx | hx
    · exact h.rng x hx
    · simp at hx; subst hx; exact hd
  · intro p hp
    rcases List.mem_append.1 hp with hp | hp
    · exact hsub _ (h.qs p hp)
    · simp at hp; subst hp; simp
  · intro p hp
    rcases List.mem_append.1 hp with hp | hp
    · exact h.byt p hp
    · simp at hp; subst hp
      refine ⟨Byt.app.2 ⟨t1, by omega, by omega⟩, by rw [List.foldl_append, t2]; rfl, fun u hu he => ?_⟩
      refine Classical.byContradiction fun hlt => ?_
      simp only at he hlt
      rw [hkey] at hlt
      by_cases hu0 : u = []
      · subst hu0
        exact hn (he ▸ h.a)
      · obtain ⟨v, d, rfl⟩ := snoc_of hu0
        obtain ⟨hv, hdr⟩ := Byt.app.1 hu
        rw [key_snoc] at hlt
        have he' : nx (v.foldl nx s0) d = nx s (c : Int) := by rw [← he, List.foldl_append]; rfl
        have hkv : key v ≤ key t := by omega
        by_cases hkt : key v = key t
        · have hvt := key_inj hv t1 hkt
          rw [hvt, t2] at he'
          rw [hkt] at hlt
          have hdc : d.toNat < c := by omega
          rcases h.ch d.toNat hdc with hm | hm
          · rw [show ((d.toNat : Nat) : Int) = d by omega, he'] at hm
            exact hn hm
          · rw [show ((d.toNat : Nat) : Int) = d by omega, he'] at hm
            exact ht hm
        · rcases h.sm v hv (by omega) with hcl | htr
          · rcases hcl.2 d hdr.1 hdr.2 with hm | hm
            · rw [he'] at hm; exact hn hm
            · rw [he'] at hm; exact ht hm
          · have := hT.step _ d htr
            rw [he'] at this
            exact ht this
  · intro p hp
    rw [List.length_append, List.length_singleton]
    rcases List.mem_append.1 hp with hp | hp
    · have := h.len p hp; omega
    · simp at hp; subst hp; simp; omega
  · have := h.ql
    simp only [List.length_append, List.length_singleton]
    omega
  · intro z hz
    rcases List.mem_append.1 hz with hz | hz
    · rcases h.cl z hz with h1 | ⟨u, h1⟩ | h1
      · exact .inl h1
      · exact .inr (.inl ⟨u, by simp [h1]⟩)
      · exact .inr (.inr (h1.mono hsub))
    · simp at hz; subst hz
      exact .inr (.inl ⟨t ++ [(c : Int)], by simp⟩)
  · rw [List.map_append, List.pairwise_append]
    refine ⟨h.srt, by simp, fun x hx y hy => ?_⟩
    obtain ⟨p, hp, rfl⟩ := List.mem_map.1 hx
    simp at hy; subst hy
    have := (h.bnd p hp).2
    rw [hkey]
    omega
  · intro q hq
    rcases List.mem_append.1 hq with hq | hq
    · have := h.bnd q hq; omega
    · simp at hq; subst hq
      simp only [hkey]
      omega
  · exact ⟨t1, t2, by simp; omega, hsub _ t4⟩
  · intro d hd
    by_cases hdc : d = c
    · subst hdc; exact .inl (by simp)
    · exact (h.ch d (by omega)).imp (hsub _) id
  · exact fun v hv hk => (h.sm v hv hk).imp (fun hc => hc.mono hsub) id
theorem BMid.done {Dm : σ → Prop} {S : List σ} {s : σ} {t : List Int} {Q : List (σ × List Int)} (h : BMid nx G Triv Dm s0 s t 256 S Q) (hG : ¬ G s) : BInv nx G Triv Dm s0 S Q where
  a := h.a
  nd := h.nd
  rng := h.rng
  qs := h.qs
  byt := h.byt
  len := h.len
  ql := by have := h.ql; omega
  cl := fun z hz => by
    rcases h.cl z hz with rfl | h1
    · refine .inr ⟨hG, fun c h0 h1 => ?_⟩
      have := h.ch c.toNat (by omega)
      rwa [show ((c.toNat : Nat) : Int) = c by omega] at this
    · exact h1
  srt := h.srt
  bnd := fun p hp q hq => by
    have h1 := (h.bnd p (List.mem_of_mem_head? (by simp [hp]))).1
    have h2 := (h.bnd q hq).2
    omega
end
end Go.Proofs.YteiaphkejkgfkaaDoor
namespace Go.Proofs.YteiaphkejkgfkaaDoor
open Go Go.Eng
set_option maxRecDepth 100000
theorem slc_tail {α : Type} {x : α} {xs : List α} : slc (x :: xs) 1 ((x :: xs).length : Int) = some xs := by
  unfold slc
  rw [if_pos (by simp; omega)]
  simp
theorem idx_head {α : Type} {x : α} {xs : List α} : idx (x :: xs) 0 = some x := by simp [idx]
theorem wrap8 {c : Nat} (h : c < 256) : IntKind.wrap .u8 (c : Int) = (c : Int) := by
  simp [IntKind.wrap, IntKind.signed, IntKind.bits]
  omega
section
variable {N : Nat} {rows : List (List Int)} {rule entry : List Int}
/-- the search of trim.Shortest -/
abbrev SInv (rows : List (List Int)) (rule : List Int) (x s0 : Int) := BInv (nxt rows) (fun s => rule.getD s.toNat 0 = x) (fun _ => False) (fun s => 0 ≤ s ∧ s < (rows.length : Int)) s0
abbrev SMid (rows : List (List Int)) (rule : List Int) (x s0 : Int) := BMid (nxt rows) (fun s => rule.getD s.toNat 0 = x) (fun _ => False) (fun s => 0 ≤ s ∧ s < (rows.length : Int)) s0
theorem trivNo {σ : Type} {nx : σ → Int → σ} {G : σ → Prop} : TrivOk nx G (fun _ => False) := ⟨fun _ _ h => h, fun _ h => h.elim⟩
theorem short_row {x s0 : Int} {w : Int × List Int} {row m : List Int} {Q : List (Int × List Int)} {S : List Int} (hN : 4294967296 ≤ N) (h : Rt rows rule entry) (hw : row.length = 256) (hr : rows.getD w.1.toNat [] = row)
    (hrr : ∀ y ∈ row, 0 ≤ y ∧ y < (rows.length : Int)) (hM : Mk rows.length m S) (hB : SMid rows rule x s0 w.1 w.2 0 S Q) :
    ∃ m' Q' S', iterO N (fun s => F_trim_Shortest_l3 N rows w row s.1 s.2.1 s.2.2) (0, m, Q) = some (m', Q') ∧ Mk rows.length m' S' ∧ SMid rows rule x s0 w.1 w.2 256 S' Q' ∧ Q'.length + S.length = S'.length + Q.length := by
  have hn2 := h.n2
  obtain ⟨s', h1, S', h2, h3, h4⟩ := loop_inv (f := fun s => F_trim_Shortest_l3 N rows w row s.1 s.2.1 s.2.2) (fun i (s : List Int × List (Int × List Int)) => ((i : Int), s.1, s.2)) (fun s => (s.1, s.2)) row
    (fun i s => ∃ S', Mk rows.length s.1 S' ∧ SMid rows rule x s0 w.1 w.2 i S' s.2 ∧ s.2.length + S.length = S'.length + Q.length) (N := N) (s := (m, Q)) (by omega) ⟨S, hM, hB, by simp only; omega⟩
    (fun i y s hx hI => by
      obtain ⟨m1, Q1⟩ := s
      obtain ⟨S1, k1, k2, k3⟩ := hI
      simp only at k1 k2 k3
      have hi := lt_len hx
      have hyr := hrr y (List.mem_of_getElem? hx)
      have hny : nxt rows w.1 (i : Int) = y := by unfold nxt; rw [hr, Int.toNat_natCast]; exact getD_of hx
      obtain ⟨m2, e1, e2⟩ := put_mk (N := N) k1 hyr (by omega)
      have hS1 := k1.ac.len
      by_cases hm : y ∈ S1
      · have hi' : ins S1 y = S1 := by simp [ins, hm]
        rw [hi'] at e2
        refine ⟨(m2, Q1), ?_, S1, e2, k2.skip (.inl (hny ▸ hm)), k3⟩
        unfold F_trim_Shortest_l3
        have hf : decide (y ∉ S1) = false := by simp [hm]
        simp only [show ((i : Int) < 256) by omega, decide_true, if_true, idx_of hx, e1, hf, bind, Option.bind_some, Bool.false_eq_true, if_false]
        rw [w64_succ (by omega)]
      · have hi' : ins S1 y = S1 ++ [y] := by simp [ins, hm]
        have hp := k2.push trivNo (by omega) (hny ▸ hm) (fun q => q) (hny ▸ hyr)
        rw [hny] at hp
        have hacc := e2.ac.len
        rw [hi'] at e2
        refine ⟨(m2, Q1 ++ [(y, w.2 ++ [(i : Int)])]), ?_, S1 ++ [y], e2, hp, by simp only [List.length_append, List.length_singleton]; omega⟩
        have t3 := k2.tb.2.2.1
        have ql := k2.ql
        unfold F_trim_Shortest_l3 F_clone_67
        simp only [show ((i : Int) < 256) by omega, decide_true, if_true, idx_of hx, e1, decide_eq_true hm, bind, Option.bind_some, wrap8 (show i < 256 by omega)]
        rw [app_eq (by simp; omega)]
        simp only [Option.bind_some, List.nil_append]
        rw [app_eq (by simp; omega)]
        simp only [Option.bind_some]
        rw [app_eq (by simp; omega)]
        simp only [Option.bind_some]
        rw [w64_succ (by omega)])
    (fun s _ => by unfold F_trim_Shortest_l3; simp [hw])
  rw [hw] at h3
  exact ⟨s'.1, s'.2, S', h1, h2, h3, h4⟩
theorem short_loop {x s0 : Int} {m : List Int} (hN : 4294967296 ≤ N) (hs : Sz rows rule entry) (h : Rt rows rule entry) (hr0 : 0 ≤ s0 ∧ s0 < rows.length) (hM : Mk rows.length m [s0]) :
    ∃ r, iterO N (fun s => F_trim_Shortest_l2 N rows rule x s.1 s.2) (m, [(s0, [])]) = some r ∧ ((r = .inl () ∧ ∀ u, ¬ Leads rows rule x s0 u) ∨ ∃ g, r = .inr (.inr g) ∧ Best rows rule x s0 g ∧ g.length < rows.length) := by
  have hn2 := h.n2
  have hru := h.ru
  refine (iterO_while (f := fun s => F_trim_Shortest_l2 N rows rule x s.1 s.2) (fun s => ∃ S, Mk rows.length s.1 S ∧ SInv rows rule x s0 S s.2) (fun s => (rows.length - cnt s.1) + s.2.length)
    (fun r => (r = .inl () ∧ ∀ u, ¬ Leads rows rule x s0 u) ∨ ∃ g, r = .inr (.inr g) ∧ Best rows rule x s0 g ∧ g.length < rows.length) ?_ (N := N) (s := (m, [(s0, [])])) ⟨[s0], hM, BInv.start hr0⟩ ?_)
  · rintro ⟨m1, Q1⟩ ⟨S1, k1, k2⟩
    simp only at k1 k2
    cases Q1 with
    | nil =>
      right
      refine ⟨.inl (), ?_, .inl ⟨rfl, fun u hu => k2.none trivNo u hu⟩⟩
      unfold F_trim_Shortest_l2
      simp
    | cons p Q1 =>
      obtain ⟨s, t⟩ := p
      have hsr := k2.rng s (k2.qs (s, t) (by simp))
      have hpos : decide ((((s, t) :: Q1).length : Int) > 0) = true := decide_eq_true (by simp only [List.length_cons]; omega)
      have hsl : s.toNat < rule.length := by omega
      have g1 : idx rule s = some (rule.getD s.toNat 0) := by rw [getD_of (List.getElem?_eq_getElem hsl)]; exact idx_int hsr.1 hsl
      have hS1 := k1.ac.len
      have hc1 := k1.c
      by_cases hG : rule.getD s.toNat 0 = x
      · right
        refine ⟨.inr (.inr t), ?_, .inr ⟨t, rfl, k2.best trivNo hG, ?_⟩⟩
        · unfold F_trim_Shortest_l2
          have hb : (rule.getD s.toNat 0 == x) = true := by simpa using hG
          simp only [hpos, if_true, idx_head, slc_tail, g1, hb, bind, Option.bind_some]
        · have := k2.len (s, t) (by simp)
          simp only at this
          omega
      · left
        obtain ⟨row, r1, r2, r3, r4⟩ := row_of h hsr
        obtain ⟨m2, Q2, S2, e1, e2, e3, e4⟩ := short_row (N := N) (w := (s, t)) hN h (hs.w row r3) r2 r4 k1 (k2.mid trivNo hG)
        refine ⟨(m2, Q2), ?_, ⟨S2, e2, e3.done hG⟩, ?_⟩
        · unfold F_trim_Shortest_l2
          have hb : (rule.getD s.toNat 0 == x) = false := by simpa using hG
          simp only [hpos, if_true, idx_head, slc_tail, g1, hb, r1, e1, bind, Option.bind_some, Bool.false_eq_true, if_false]
        · have hS2 := e2.ac.len
          have hc2 := e2.c
          simp only [List.length_cons]
          omega
  · have := hM.c
    simp
    omega
theorem shortest_spec {x cond : Int} (hN : 4294967296 ≤ N) (hs : Sz rows rule entry) (h : Rt rows rule entry) (hx : x ≠ -1) (hc : 0 ≤ cond ∧ cond < (entry.length : Int)) :
    (F_trim_Shortest N rows rule entry cond x = some (.inl ()) ∧ ∀ u, ¬ Leads rows rule x (beg entry cond) u) ∨ ∃ g, F_trim_Shortest N rows rule entry cond x = some (.inr g) ∧ Best rows rule x (beg entry cond) g ∧ g.length < rows.length := by
  have hn2 := h.n2
  have he : idx entry cond = some (beg entry cond) := by
    have hl : cond.toNat < entry.length := by omega
    unfold beg
    rw [if_pos hc, getD_of (List.getElem?_eq_getElem hl)]
    exact idx_int hc.1 hl
  have hbr := beg_rng h cond
  obtain ⟨m, e1, e2⟩ := marked_spec (N := N) (rows := rows) (rule := rule) (entry := entry) (list := [beg entry cond]) hN (by omega) (by simp) (fun y hy => by simp at hy; subst hy; exact hbr)
  have e2' : Mk rows.length m [beg entry cond] := e2
  obtain ⟨r, q1, q2⟩ := short_loop (N := N) (x := x) hN hs h hbr e2'
  have hx' : (x == -1) = false := by simpa using hx
  have e0 : ∀ r, iterO N (fun s => F_trim_Shortest_l2 N rows rule x s.1 s.2) (m, [(beg entry cond, [])]) = some r → F_trim_Shortest N rows rule entry cond x = (match r with | .inr z => some z | .inl _ => some (.inl ())) := by
    intro r q1
    unfold F_trim_Shortest
    simp only [right_yes hN hs h, Bool.not_true, Bool.false_eq_true, if_false, hx', show ¬ cond < 0 by omega, show ¬ cond ≥ (entry.length : Int) by omega, decide_false, he, e1, bind, Option.bind_some]
    rw [q1]
    rfl
  rcases q2 with ⟨rfl, hn⟩ | ⟨g, rfl, hb, hl⟩
  · exact .inl ⟨e0 _ q1, hn⟩
  · exact .inr ⟨g, e0 _ q1, hb, hl⟩
theorem shortest_not {x cond : Int} (hN : 4294967296 ≤ N) (hs : Sz rows rule entry) (hx : ¬ Rt rows rule entry ∨ x = -1 ∨ ¬ (0 ≤ cond ∧ cond < (entry.length : Int))) : F_trim_Shortest N rows rule entry cond x = some (.inl ()) := by
  unfold F_trim_Shortest
  by_cases h : Rt rows rule entry
  case neg => simp only [right_not hN hs h, bind, Option.bind_some, Bool.not_false, if_true]
  rw [right_yes hN hs h]
  by_cases h1 : x = -1
  · simp [h1]
  by_cases h2 : cond < 0
  · simp [h1, h2]
  have h3 : cond ≥ (entry.length : Int) := by
    rcases hx with hx | hx | hx
    · exact absurd h hx
    · exact absurd hx h1
    · omega
  simp [h1, h2, h3]
theorem refShortest_not {x cond : Int} (hx : x < 0 ∨ ¬ (0 ≤ cond ∧ cond < (entry.length : Int))) : F_dofferref18_Shortest N rows rule entry cond x = some ([], false) := by
  unfold F_dofferref18_Shortest
  by_cases h1 : x < 0
  · simp [h1]
  by_cases h2 : cond < 0
  · simp [h1, h2]
  have h3 : cond ≥ (entry.length : Int) := by omega
  simp [h1, h2, h3]
theorem refShortest_spec {x cond : Int} (hN : 4294967296 ≤ N) (hs : Sz rows rule entry) (h : Rt rows rule entry) (hx : 0 ≤ x) (hc : 0 ≤ cond ∧ cond < (entry.length : Int)) :
    (F_dofferref18_Shortest N rows rule entry cond x = some ([], false) ∧ ∀ u, ¬ Leads rows rule x (beg entry cond) u) ∨ ∃ g, F_dofferref18_Shortest N rows rule entry cond x = some (g, true) ∧ Best rows rule x (beg entry cond) g := by
  have he : idx entry cond = some (beg entry cond) := by
    have hl : cond.toNat < entry.length := by omega
    unfold beg
    rw [if_pos hc, getD_of (List.getElem?_eq_getElem hl)]
    exact idx_int hc.1 hl
  have hbr := beg_rng h cond
  obtain ⟨S, s1, s2⟩ := steps_spec (N := N) (x := x) hN hs h
  have hSl : (beg entry cond).toNat < S.length := by rw [s2.1]; omega
  have hix : idx S (beg entry cond) = some (S.getD (beg entry cond).toNat 0) := by rw [getD_of (List.getElem?_eq_getElem hSl)]; exact idx_int hbr.1 hSl
  rcases s2.2 _ hbr with ⟨d, d1, d2⟩ | ⟨d1, d2⟩
  · obtain ⟨g, g1, g2⟩ := greedy (N := N) hN hs h s2 hbr d2
    right
    refine ⟨g, ?_, g2⟩
    unfold F_dofferref18_Shortest
    simp only [show ¬ x < 0 by omega, show ¬ cond < 0 by omega, show ¬ cond ≥ (entry.length : Int) by omega, decide_false, Bool.false_eq_true, if_false, s1, he, hix, d1, show ¬ (d : Int) < 0 by omega, bind, Option.bind_some]
    rw [g1]
    rfl
  · left
    refine ⟨?_, fun u hu => d2 u.length ⟨u, hu, rfl⟩⟩
    unfold F_dofferref18_Shortest
    simp only [show ¬ x < 0 by omega, show ¬ cond < 0 by omega, show ¬ cond ≥ (entry.length : Int) by omega, decide_false, Bool.false_eq_true, if_false, s1, he, hix, d1, show (-1 : Int) < 0 by omega, decide_true, if_true, bind, Option.bind_some]
theorem trimShortest_true {cond x : Int} (hw : ∀ r ∈ rows, r.length = 256) : F_dofferlaw18_TrimShortest 4294967296 rows rule entry cond x = some true := by
  unfold F_dofferlaw18_TrimShortest
  simp only [alive18, bind, Option.bind_some, Bool.not_true, Bool.false_eq_true, if_false]
  by_cases g1 : (rows.length : Int) > 20
  · simp [F_dofferlaw17_Of, g1]
  by_cases g2 : (rule.length : Int) > 20
  · simp [F_dofferlaw17_Of, g1, g2]
  by_cases g3 : (entry.length : Int) > 20
  · simp [F_dofferlaw17_Of, g1, g2, g3]
  have hN : 4294967296 ≤ 4294967296 := Nat.le_refl _
  have hs : Sz rows rule entry := ⟨hw, by omega, by omega, by omega⟩
  rw [of_spec hN hs, if_neg (by omega)]
  obtain ⟨b, hb, hbt⟩ := refRight_spec hN hs
  simp only [Option.bind_some, Bool.not_true, Bool.false_eq_true, if_false, hb]
  by_cases h : Rt rows rule entry
  case neg =>
    have hbf : b = false := by
      cases b with
      | false => rfl
      | true => exact absurd (hbt.1 rfl) h
    subst hbf
    simp [shortest_not hN hs (.inl h)]
  obtain rfl := hbt.2 h
  by_cases hx : x = -1 ∨ ¬ (0 ≤ cond ∧ cond < (entry.length : Int))
  · rw [shortest_not hN hs (.inr hx), refShortest_not (x := x) (cond := cond) (by omega)]
    simp
  have hc : 0 ≤ cond ∧ cond < (entry.length : Int) := by omega
  by_cases hx0 : x < 0
  · have hno : ∀ u, ¬ Leads rows rule x (beg entry cond) u := by
      intro u hu
      have hr := stt_rng hs h cond hu.1
      have hru := h.ru
      have hl : (stt rows entry cond u).toNat < rule.length := by omega
      have h2 := hu.2
      have h3 : rule.getD (stt rows entry cond u).toNat 0 = x := h2
      rw [getD_of (List.getElem?_eq_getElem hl)] at h3
      have := h.rul _ (List.getElem_mem hl)
      omega
    rw [refShortest_not (x := x) (cond := cond) (by omega)]
    rcases shortest_spec (N := 4294967296) hN hs h (x := x) (by omega) hc with ⟨e1, _⟩ | ⟨g, _, e2, _⟩
    · rw [e1]; simp
    · exact absurd e2.1 (hno g)
  rcases shortest_spec (N := 4294967296) hN hs h (x := x) (by omega) hc with ⟨e1, f1⟩ | ⟨g, e1, f1, f2⟩
  · rcases refShortest_spec (N := 4294967296) hN hs h (x := x) (by omega) hc with ⟨e3, _⟩ | ⟨g', _, f3⟩
    · rw [e1, e3]; simp
    · exact absurd f3.1 (f1 g')
  · rcases refShortest_spec (N := 4294967296) hN hs h (x := x) (by omega) hc with ⟨_, f3⟩ | ⟨g', e3, f3⟩
    · exact absurd f1.1 (f3 g)
    · obtain rfl := f1.uniq f3
      have hl : g.length < 4294967296 := by have := h.n2; omega
      have hrun := run_spec hN hs h cond f1.1.1 hl
      have hx' : rule.getD (stt rows entry cond g).toNat 0 = x := f1.1.2
      rw [hx'] at hrun
      rw [e1, e3]
      simp [hrun]
end
end Go.Proofs.YteiaphkejkgfkaaDoor
