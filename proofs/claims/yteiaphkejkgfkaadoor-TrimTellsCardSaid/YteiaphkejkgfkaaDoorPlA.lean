/-
  PLAIN LEAN, no program in sight: loops that count, loops with a measure; reading, storing, appending, making; numbers that fit in 64 bits.
-/
import Derived.Test.YteiaphkejkgfkaaDoorEngL
namespace Go.Eng
open Go
theorem iterO_for {σ τ : Type} {f : σ → Option (σ ⊕ τ)} {r : τ} (st : Nat → σ) : ∀ (n : Nat) {N k : Nat}, n < N → (∀ i, k ≤ i → i < k + n → f (st i) = some (.inl (st (i + 1)))) → f (st (k + n)) = some (.inr r) → iterO N f (st k) = some r
  | 0, 0, _, h, _, _ => absurd h (Nat.not_lt_zero _)
  | 0, N + 1, k, _, _, he => by simp only [iterO]; rw [show f (st k) = _ from he]
  | n + 1, 0, _, h, _, _ => absurd h (Nat.not_lt_zero _)
  | n + 1, N + 1, k, h, hs, he => by
    simp only [iterO]
    rw [hs k (Nat.le_refl _) (by omega)]
    exact iterO_for st n (by omega) (fun i h1 h2 => hs i (by omega) (by omega)) (by rw [show k + 1 + n = k + (n + 1) by omega]; exact he)
theorem iterO_for0 {σ τ : Type} {f : σ → Option (σ ⊕ τ)} {r : τ} {s : σ} (st : Nat → σ) (n : Nat) {N : Nat} (h0 : st 0 = s) (hN : n < N) (hs : ∀ i, i < n → f (st i) = some (.inl (st (i + 1)))) (he : f (st n) = some (.inr r)) : iterO N f s = some r := by
  subst h0
  exact iterO_for st n hN (fun i _ h => hs i (by omega)) (by rw [Nat.zero_add]; exact he)
theorem iterO_while {σ τ : Type} {f : σ → Option (σ ⊕ τ)} (I : σ → Prop) (μ : σ → Nat) (Q : τ → Prop) (step : ∀ s, I s → (∃ s', f s = some (.inl s') ∧ I s' ∧ μ s' < μ s) ∨ ∃ r, f s = some (.inr r) ∧ Q r) :
    ∀ {N : Nat} {s : σ}, I s → μ s < N → ∃ r, iterO N f s = some r ∧ Q r
  | 0, _, _, h => absurd h (Nat.not_lt_zero _)
  | N + 1, s, hI, h => by
    rcases step s hI with ⟨s', h1, h2, h3⟩ | ⟨r, h1, h2⟩
    · obtain ⟨r, h4, h5⟩ := iterO_while I μ Q step (N := N) h2 (by omega)
      exact ⟨r, by simp only [iterO, h1]; exact h4, h5⟩
    · exact ⟨r, by simp only [iterO, h1], h2⟩
theorem wrap64 {x : Int} (h1 : -9223372036854775808 ≤ x) (h2 : x ≤ 9223372036854775807) : IntKind.wrap .i64 x = x := by
  simp only [IntKind.wrap, IntKind.signed, IntKind.bits]
  simp
  omega
theorem wrapU64 {x : Int} (h1 : 0 ≤ x) (h2 : x ≤ 18446744073709551615) : IntKind.wrap .u64 x = x := by
  simp only [IntKind.wrap, IntKind.signed, IntKind.bits]
  simp
  omega
theorem w64_succ {n : Nat} (h : n < 9223372036854775807) : w64 ((n : Int) + 1) = ((n + 1 : Nat) : Int) := by
  rw [w64, wrap64] <;> omega
theorem idx_nat {α : Type} {xs : List α} {i : Nat} (h : i < xs.length) : idx xs (i : Int) = some xs[i] := by simp [idx, h]
theorem idx_int {α : Type} {xs : List α} {i : Int} (h0 : 0 ≤ i) (h : i.toNat < xs.length) : idx xs i = some xs[i.toNat] := by simp [idx, h, h0]
theorem idx_of {α : Type} {xs : List α} {i : Nat} {x : α} (h : xs[i]? = some x) : idx xs (i : Int) = some x := by simp [idx, h]
theorem setI_nat {α : Type} {xs : List α} {i : Nat} {x : α} (h : i < xs.length) : setI xs (i : Int) x = some (xs.set i x) := by simp [setI, h]
theorem setI_int {α : Type} {xs : List α} {i : Int} {x : α} (h0 : 0 ≤ i) (h : i.toNat < xs.length) : setI xs i x = some (xs.set i.toNat x) := by simp [setI, h, h0]
theorem app_eq {α : Type} {xs ys : List α} (h : xs.length + ys.length ≤ 4294967296) : app xs ys = some (xs ++ ys) := by simp [app, h]
theorem mk_eq {α : Type} {z : α} {n : Nat} (h : n ≤ 4294967296) : mk z (n : Int) = some (List.replicate n z) := by
  simp [mk]; omega
/-- a loop over xs that leaves with g at the first element that p fits -/
theorem loop_find {α τ : Type} {f : Int → Option (Int ⊕ (Unit ⊕ τ))} (xs : List α) (p : α → Bool) (g : Nat → τ) {N : Nat} (hN : xs.length < N)
    (hb : ∀ (i : Nat) (x : α), xs[i]? = some x → f (i : Int) = if p x then some (.inr (.inr (g i))) else some (.inl ((i + 1 : Nat) : Int))) (he : f (xs.length : Int) = some (.inr (.inl ()))) :
    iterO N f 0 = some (match xs.findIdx? p with | some i => .inr (g i) | none => .inl ()) := by
  cases h : xs.findIdx? p with
  | none =>
    have h' := List.findIdx?_eq_none_iff.1 h
    refine iterO_for0 (fun i => (i : Int)) xs.length rfl hN (fun i hi => ?_) he
    rw [hb i xs[i] (List.getElem?_eq_getElem hi), h' _ (List.getElem_mem hi)]
    simp
  | some k =>
    obtain ⟨hk, hp, hlt⟩ := List.findIdx?_eq_some_iff_getElem.1 h
    refine iterO_for0 (fun i => (i : Int)) k rfl (by omega) (fun i hi => ?_) ?_
    · rw [hb i _ (List.getElem?_eq_getElem (by omega))]
      have := hlt i hi
      simp [this]
    · rw [hb k _ (List.getElem?_eq_getElem hk)]
      simp [hp]
/-- .. that leaves with b -/
theorem loop_any {α τ : Type} {f : Int → Option (Int ⊕ (Unit ⊕ τ))} (xs : List α) (p : α → Bool) (b : τ) {N : Nat} (hN : xs.length < N)
    (hb : ∀ (i : Nat) (x : α), xs[i]? = some x → f (i : Int) = if p x then some (.inr (.inr b)) else some (.inl ((i + 1 : Nat) : Int))) (he : f (xs.length : Int) = some (.inr (.inl ()))) :
    iterO N f 0 = some (if xs.any p then .inr b else .inl ()) := by
  rw [loop_find xs p (fun _ => b) hN hb he]
  cases h : xs.findIdx? p with
  | none =>
    have h' := List.findIdx?_eq_none_iff.1 h
    have : xs.any p = false := by rw [List.any_eq_false]; intro x hx; rw [h' x hx]; simp
    simp [this]
  | some k =>
    obtain ⟨hk, hp, hlt⟩ := List.findIdx?_eq_some_iff_getElem.1 h
    have : xs.any p = true := List.any_eq_true.2 ⟨_, List.getElem_mem hk, hp⟩
    simp [this]
/-- a loop over xs that folds -/
theorem loop_fold {α σ τ : Type} {ι : Type} {f : ι → Option (ι ⊕ τ)} (st : Nat → σ → ι) (out : σ → τ) (xs : List α) (step : σ → α → σ) (I : Nat → σ → Prop) {N : Nat} {s : σ} (hN : xs.length < N)
    (hI : I 0 s) (hb : ∀ (i : Nat) (x : α) (s : σ), xs[i]? = some x → I i s → f (st i s) = some (.inl (st (i + 1) (step s x))) ∧ I (i + 1) (step s x)) (he : ∀ s, I xs.length s → f (st xs.length s) = some (.inr (out s))) :
    iterO N f (st 0 s) = some (out (xs.foldl step s)) := by
  have hI' : ∀ i, i ≤ xs.length → I i ((xs.take i).foldl step s) := by
    intro i
    induction i with
    | zero => intro _; simpa using hI
    | succ i ih =>
      intro hi
      have hx : xs[i]? = some xs[i] := List.getElem?_eq_getElem (by omega)
      rw [List.take_add_one, hx, List.foldl_append]
      exact (hb i _ _ hx (ih (by omega))).2
  refine iterO_for0 (fun i => st i ((xs.take i).foldl step s)) xs.length (by simp) hN (fun i hi => ?_) ?_
  · have hx : xs[i]? = some xs[i] := List.getElem?_eq_getElem hi
    rw [(hb i _ _ hx (hI' i (by omega))).1, List.take_add_one, hx, List.foldl_append]
    rfl
  · have := he _ (hI' _ (Nat.le_refl _))
    rw [List.take_length] at this
    simp only [List.take_length]
    exact this
/-- a loop over xs, by an invariant -/
theorem loop_inv {α σ τ ι : Type} {f : ι → Option (ι ⊕ τ)} (st : Nat → σ → ι) (out : σ → τ) (xs : List α) (I : Nat → σ → Prop) {N : Nat} {s : σ} (hN : xs.length < N)
    (hI : I 0 s) (hb : ∀ (i : Nat) (x : α) (s : σ), xs[i]? = some x → I i s → ∃ s', f (st i s) = some (.inl (st (i + 1) s')) ∧ I (i + 1) s') (he : ∀ s, I xs.length s → f (st xs.length s) = some (.inr (out s))) :
    ∃ s', iterO N f (st 0 s) = some (out s') ∧ I xs.length s' := by
  have key : ∀ (k i : Nat) (s : σ) (M : Nat), i + k = xs.length → k < M → I i s → ∃ s', iterO M f (st i s) = some (out s') ∧ I xs.length s' := by
    intro k
    induction k with
    | zero =>
      intro i s M hi hM h
      obtain ⟨M, rfl⟩ : ∃ m, M = m + 1 := ⟨M - 1, by omega⟩
      obtain rfl : i = xs.length := by omega
      exact ⟨s, by simp only [iterO]; rw [he s h], h⟩
    | succ k ih =>
      intro i s M hi hM h
      obtain ⟨M, rfl⟩ : ∃ m, M = m + 1 := ⟨M - 1, by omega⟩
      obtain ⟨s', h1, h2⟩ := hb i _ s (List.getElem?_eq_getElem (by omega)) h
      obtain ⟨s'', h3, h4⟩ := ih (i + 1) s' M (by omega) (by omega) h2
      exact ⟨s'', by simp only [iterO]; rw [h1]; exact h3, h4⟩
  exact key xs.length 0 s N (by omega) hN hI
end Go.Eng
