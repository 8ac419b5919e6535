/-
  PLAIN LEAN, no program in sight: what the pure functions answer.
-/
import Derived.Test.YtealkahefalaeaaGreatDoorWalkClosedD1
import Derived.Test.YtealkahefalaeaaGreatDoorProg
namespace Go.Proofs.YtealkahefalaeaaGreatDoor
open Go Go.Eng Go.Cr
set_option maxRecDepth 100000
theorem runX : XOk Tryz.prog ⟨261, 282, 1000000, 0⟩ := ⟨⟨_, Tryz.func261, by kernel_rfl, by kernel_rfl, by kernel_rfl, by kernel_rfl⟩, ⟨_, Tryz.func282, by kernel_rfl, by kernel_rfl, by kernel_rfl, by kernel_rfl⟩, .inl (by kernel_rfl)⟩
theorem runM : Tryz.prog.follows .mixedOrders = true := by kernel_rfl
end Go.Proofs.YtealkahefalaeaaGreatDoor
namespace Go.Proofs.YtealkahefalaeaaGreatDoor
open Go Go.Eng Go.Cr
set_option maxRecDepth 100000
theorem run22 : isTrue (run Tryz.prog ⟨261, 282, 1000000, 0⟩ 1000 (.f 22 []) [] (h0T 18 .u8 tab_math_bits_deBruijn64tab)) = true := by kernel_rfl
theorem runC22 : RunC Tryz.prog 22 (fun ρ => GTab ρ 18 .u8 tab_math_bits_deBruijn64tab) := runCT runX runM run22 ⟨_, _, Tryz.func22, by kernel_rfl, rfl⟩ (by decide) (by decide)
end Go.Proofs.YtealkahefalaeaaGreatDoor
namespace Go.Eng
open Go
theorem iterO_for {σ τ : Type} {f : σ → Option (σ ⊕ τ)} {r : τ} (st : Nat → σ) : ∀ (n : Nat) {N k : Nat}, n < N → (∀ i, k ≤ i → i < k + n → f (st i) = some (.inl (st (i + 1)))) → f (st (k + n)) = some (.inr r) → iterO N f (st k) = some r
  | 0, 0, _, h, _, _ => absurd h (Nat.not_lt_zero _)
  | 0, N + 1, k, _, _, he => by simp only [iterO]; rw [show f (st k) = _ from he]
  | n + 1, 0, _, h, _, _ => absurd h (Nat.not_lt_zero _)
  | n + 1, N + 1, k, h, hs, he => by
    simp only [iterO]
    rw [hs k (Nat.le_refl _) (by omega)]
    exact iterO_for st n (by omega) (fun i h1 h2 => hs i (by omega) (by omega)) (by rw [show k + 1 + n = k + (n + 1) by omega]; exact he)
theorem iterO_for0 {σ τ : Type} {f : σ → Option (σ ⊕ τ)} {r : τ} {s : σ} (st : Nat → σ) (n : Nat) {N : Nat} (h0 : st 0 = s) (hN : n < N) (hs : ∀ i, i < n → f (st i) = some (.inl (st (i + 1)))) (he : f (st n) = some (.inr r)) : iterO N f s = some r := by
  subst h0
  exact iterO_for st n hN (fun i _ h => hs i (by omega)) (by rw [Nat.zero_add]; exact he)
theorem iterO_while {σ τ : Type} {f : σ → Option (σ ⊕ τ)} (I : σ → Prop) (μ : σ → Nat) (Q : τ → Prop) (step : ∀ s, I s → (∃ s', f s = some (.inl s') ∧ I s' ∧ μ s' < μ s) ∨ ∃ r, f s = some (.inr r) ∧ Q r) :
    ∀ {N : Nat} {s : σ}, I s → μ s < N → ∃ r, iterO N f s = some r ∧ Q r
  | 0, _, _, h => absurd h (Nat.not_lt_zero _)
  | N + 1, s, hI, h => by
    rcases step s hI with ⟨s', h1, h2, h3⟩ | ⟨r, h1, h2⟩
    · obtain ⟨r, h4, h5⟩ := iterO_while I μ Q step (N := N) h2 (by omega)
      exact ⟨r, by simp only [iterO, h1]; exact h4, h5⟩
    · exact ⟨r, by simp only [iterO, h1], h2⟩
theorem wrap64 {x : Int} (h1 : -9223372036854775808 ≤ x) (h2 : x ≤ 9223372036854775807) : IntKind.wrap .i64 x = x := by
  simp only [IntKind.wrap, IntKind.signed, IntKind.bits]
  simp
  omega
theorem wrapU64 {x : Int} (h1 : 0 ≤ x) (h2 : x ≤ 18446744073709551615) : IntKind.wrap .u64 x = x := by
  simp only [IntKind.wrap, IntKind.signed, IntKind.bits]
  simp
  omega
theorem w64_succ {n : Nat} (h : n < 9223372036854775807) : w64 ((n : Int) + 1) = ((n + 1 : Nat) : Int) := by
  rw [w64, wrap64] <;> omega
theorem idx_nat {α : Type} {xs : List α} {i : Nat} (h : i < xs.length) : idx xs (i : Int) = some xs[i] := by simp [idx, h]
theorem idx_of {α : Type} {xs : List α} {i : Nat} {x : α} (h : xs[i]? = some x) : idx xs (i : Int) = some x := by simp [idx, h]
theorem setI_nat {α : Type} {xs : List α} {i : Nat} {x : α} (h : i < xs.length) : setI xs (i : Int) x = some (xs.set i x) := by simp [setI, h]
theorem app_eq {α : Type} {xs ys : List α} (h : xs.length + ys.length ≤ 4294967296) : app xs ys = some (xs ++ ys) := by simp [app, h]
theorem mk_eq {α : Type} {z : α} {n : Nat} (h : n ≤ 4294967296) : mk z (n : Int) = some (List.replicate n z) := by
  simp [mk]; omega
/-- a loop over xs that leaves with g at the first element that p fits -/
theorem loop_find {α τ : Type} {f : Int → Option (Int ⊕ (Unit ⊕ τ))} (xs : List α) (p : α → Bool) (g : Nat → τ) {N : Nat} (hN : xs.length < N)
    (hb : ∀ (i : Nat) (x : α), xs[i]? = some x → f (i : Int) = if p x then some (.inr (.inr (g i))) else some (.inl ((i + 1 : Nat) : Int))) (he : f (xs.length : Int) = some (.inr (.inl ()))) :
    iterO N f 0 = some (match xs.findIdx? p with | some i => .inr (g i) | none => .inl ()) := by
  cases h : xs.findIdx? p with
  | none =>
    have h' := List.findIdx?_eq_none_iff.1 h
    refine iterO_for0 (fun i => (i : Int)) xs.length rfl hN (fun i hi => ?_) he
    rw [hb i xs[i] (List.getElem?_eq_getElem hi), h' _ (List.getElem_mem hi)]
    simp
  | some k =>
    obtain ⟨hk, hp, hlt⟩ := List.findIdx?_eq_some_iff_getElem.1 h
    refine iterO_for0 (fun i => (i : Int)) k rfl (by omega) (fun i hi => ?_) ?_
    · rw [hb i _ (List.getElem?_eq_getElem (by omega))]
      have := hlt i hi
      simp [this]
    · rw [hb k _ (List.getElem?_eq_getElem hk)]
      simp [hp]
/-- .. that leaves with b -/
theorem loop_any {α τ : Type} {f : Int → Option (Int ⊕ (Unit ⊕ τ))} (xs : List α) (p : α → Bool) (b : τ) {N : Nat} (hN : xs.length < N)
    (hb : ∀ (i : Nat) (x : α), xs[i]? = some x → f (i : Int) = if p x then some (.inr (.inr b)) else some (.inl ((i + 1 : Nat) : Int))) (he : f (xs.length : Int) = some (.inr (.inl ()))) :
    iterO N f 0 = some (if xs.any p then .inr b else .inl ()) := by
  rw [loop_find xs p (fun _ => b) hN hb he]
  cases h : xs.findIdx? p with
  | none =>
    have h' := List.findIdx?_eq_none_iff.1 h
    have : xs.any p = false := by rw [List.any_eq_false]; intro x hx; rw [h' x hx]; simp
    simp [this]
  | some k =>
    obtain ⟨hk, hp, hlt⟩ := List.findIdx?_eq_some_iff_getElem.1 h
    have : xs.any p = true := List.any_eq_true.2 ⟨_, List.getElem_mem hk, hp⟩
    simp [this]
/-- a loop over xs that folds -/
theorem loop_fold {α σ τ : Type} {ι : Type} {f : ι → Option (ι ⊕ τ)} (st : Nat → σ → ι) (out : σ → τ) (xs : List α) (step : σ → α → σ) (I : Nat → σ → Prop) {N : Nat} {s : σ} (hN : xs.length < N)
    (hI : I 0 s) (hb : ∀ (i : Nat) (x : α) (s : σ), xs[i]? = some x → I i s → f (st i s) = some (.inl (st (i + 1) (step s x))) ∧ I (i + 1) (step s x)) (he : ∀ s, I xs.length s → f (st xs.length s) = some (.inr (out s))) :
    iterO N f (st 0 s) = some (out (xs.foldl step s)) := by
  have hI' : ∀ i, i ≤ xs.length → I i ((xs.take i).foldl step s) := by
    intro i
    induction i with
    | zero => intro _; simpa using hI
    | succ i ih =>
      intro hi
      have hx : xs[i]? = some xs[i] := List.getElem?_eq_getElem (by omega)
      rw [List.take_add_one, hx, List.foldl_append]
      exact (hb i _ _ hx (ih (by omega))).2
  refine iterO_for0 (fun i => st i ((xs.take i).foldl step s)) xs.length (by simp) hN (fun i hi => ?_) ?_
  · have hx : xs[i]? = some xs[i] := List.getElem?_eq_getElem hi
    rw [(hb i _ _ hx (hI' i (by omega))).1, List.take_add_one, hx, List.foldl_append]
    rfl
  · have := he _ (hI' _ (Nat.le_refl _))
    rw [List.take_length] at this
    simp only [List.take_length]
    exact this
/-- a loop over xs, by an invariant -/
theorem loop_inv {α σ τ ι : Type} {f : ι → Option (ι ⊕ τ)} (st : Nat → σ → ι) (out : σ → τ) (xs : List α) (I : Nat → σ → Prop) {N : Nat} {s : σ} (hN : xs.length < N)
    (hI : I 0 s) (hb : ∀ (i : Nat) (x : α) (s : σ), xs[i]? = some x → I i s → ∃ s', f (st i s) = some (.inl (st (i + 1) s')) ∧ I (i + 1) s') (he : ∀ s, I xs.length s → f (st xs.length s) = some (.inr (out s))) :
    ∃ s', iterO N f (st 0 s) = some (out s') ∧ I xs.length s' := by
  have key : ∀ (k i : Nat) (s : σ) (M : Nat), i + k = xs.length → k < M → I i s → ∃ s', iterO M f (st i s) = some (out s') ∧ I xs.length s' := by
    intro k
    induction k with
    | zero =>
      intro i s M hi hM h
      obtain ⟨M, rfl⟩ : ∃ m, M = m + 1 := ⟨M - 1, by omega⟩
      obtain rfl : i = xs.length := by omega
      exact ⟨s, by simp only [iterO]; rw [he s h], h⟩
    | succ k ih =>
      intro i s M hi hM h
      obtain ⟨M, rfl⟩ : ∃ m, M = m + 1 := ⟨M - 1, by omega⟩
      obtain ⟨s', h1, h2⟩ := hb i _ s (List.getElem?_eq_getElem (by omega)) h
      obtain ⟨s'', h3, h4⟩ := ih (i + 1) s' M (by omega) (by omega) h2
      exact ⟨s'', by simp only [iterO]; rw [h1]; exact h3, h4⟩
  exact key xs.length 0 s N (by omega) hN hI
end Go.Eng
namespace Go.Proofs.YtealkahefalaeaaGreatDoor
open Go Go.Eng
theorem lt_len {α : Type} {xs : List α} {i : Nat} {x : α} (h : xs[i]? = some x) : i < xs.length := (List.getElem?_eq_some_iff.1 h).1
end Go.Proofs.YtealkahefalaeaaGreatDoor
namespace Go.Proofs.YtealkahefalaeaaGreatDoor
open Go Go.Eng
theorem range_get {n i x : Nat} (h : (List.range n)[i]? = some x) : i < n ∧ x = i := by
  have hl := lt_len h
  simp at hl
  rw [List.getElem?_range hl] at h
  exact ⟨hl, (Option.some.inj h).symm⟩
theorem sameInts_spec {N : Nat} {a b : List Int} (hN : 4294967296 ≤ N) (ha : a.length < 4294967296) : F_doffernum_SameInts N a b = some (decide (a = b)) := by
  unfold F_doffernum_SameInts
  by_cases h : a.length = b.length
  case neg =>
    have : ((a.length : Int) != (b.length : Int)) = true := by simp; omega
    have hne : a ≠ b := fun e => h (by rw [e])
    simp [this, hne]
  have e0 : ((a.length : Int) != (b.length : Int)) = false := by simp [h]
  simp only [e0, Bool.false_eq_true, if_false]
  rw [loop_any (List.range a.length) (fun i => a.getD i 0 != b.getD i 0) false (by simp; omega) (fun i x hx => by
    obtain ⟨hi, rfl⟩ := range_get hx
    have hib : x < b.length := by omega
    unfold F_doffernum_SameInts_l0
    have g1 : a.getD x 0 = a[x] := by simp [List.getD, List.getElem?_eq_getElem hi]
    have g2 : b.getD x 0 = b[x] := by simp [List.getD, List.getElem?_eq_getElem hib]
    rw [g1, g2]
    simp only [show ((x : Int) < (a.length : Int)) by omega, decide_true, if_true, idx_nat hi, idx_nat hib, bind, Option.bind_some]
    rw [w64_succ (by omega)]) (by simp [F_doffernum_SameInts_l0])]
  by_cases c : ((List.range a.length).any fun i => a.getD i 0 != b.getD i 0) = true
  · have : a ≠ b := by
      obtain ⟨i, _, hp⟩ := List.any_eq_true.1 c
      intro e
      simp [e] at hp
    rw [if_pos c]
    simp [this]
  · have : a = b := by
      apply List.ext_getElem h
      intro i h1 h2
      have h3 := List.any_eq_false.1 (by simpa using c : ((List.range a.length).any fun i => a.getD i 0 != b.getD i 0) = false) i (by simpa using h1)
      have g1 : a.getD i 0 = a[i] := by simp [List.getD, List.getElem?_eq_getElem h1]
      have g2 : b.getD i 0 = b[i] := by simp [List.getD, List.getElem?_eq_getElem h2]
      rw [g1, g2] at h3
      simpa using h3
    rw [if_neg c]
    simp [this]
end Go.Proofs.YtealkahefalaeaaGreatDoor
namespace Go.Proofs.YtealkahefalaeaaGreatDoor
open Go Go.Eng
theorem iand_u64 {a b : Nat} (ha : a < 18446744073709551616) (hb : b < 18446744073709551616) : iand .u64 (a : Int) (b : Int) = ((a &&& b : Nat) : Int) := by
  have h : a &&& b < 18446744073709551616 := Nat.and_lt_two_pow (n := 64) _ hb
  show IntKind.wrap .u64 ((BitVec.ofInt 64 (a : Int) &&& BitVec.ofInt 64 (b : Int)).toNat : Int) = _
  rw [BitVec.ofInt_natCast, BitVec.ofInt_natCast, BitVec.toNat_and, BitVec.toNat_ofNat, BitVec.toNat_ofNat, Nat.mod_eq_of_lt ha, Nat.mod_eq_of_lt hb, wrapU64] <;> omega
theorem ior_u64 {a b : Nat} (ha : a < 18446744073709551616) (hb : b < 18446744073709551616) : ior .u64 (a : Int) (b : Int) = ((a ||| b : Nat) : Int) := by
  have h : a ||| b < 18446744073709551616 := Nat.or_lt_two_pow (n := 64) ha hb
  show IntKind.wrap .u64 ((BitVec.ofInt 64 (a : Int) ||| BitVec.ofInt 64 (b : Int)).toNat : Int) = _
  rw [BitVec.ofInt_natCast, BitVec.ofInt_natCast, BitVec.toNat_or, BitVec.toNat_ofNat, BitVec.toNat_ofNat, Nat.mod_eq_of_lt ha, Nat.mod_eq_of_lt hb, wrapU64] <;> omega
theorem shl_one {k : Nat} (h : k < 64) : shlI .u64 1 (k : Int) = ((2 ^ k : Nat) : Int) := by
  have h1 : (2 : Nat) ^ k ≤ 2 ^ 63 := Nat.pow_le_pow_right (by omega) (by omega)
  have h2 : (2 : Nat) ^ 63 = 9223372036854775808 := by decide
  simp only [shlI, IntKind.bits, Int.toNat_natCast, Nat.min_eq_left (show k ≤ 64 by omega), Int.one_mul]
  have e : ((2 : Int) ^ k) = ((2 ^ k : Nat) : Int) := by simp
  rw [e]
  generalize 2 ^ k = p at *
  rw [wrapU64] <;> omega
/-- bit i -/
def has (m : List Int) (i : Nat) : Bool := (m.getD (i / 64) 0).toNat.testBit (i % 64)
structure MkR (n : Nat) (m : List Int) : Prop where
  len : m.length = (n + 63) / 64
  rng : ∀ w ∈ m, 0 ≤ w ∧ w < 18446744073709551616
theorem new_spec {N n : Nat} (h : n ≤ 65536) : ∃ m, F_marks_New N (n : Int) = some (.inr m) ∧ MkR n m ∧ ∀ j, has m j = false := by
  refine ⟨List.replicate ((n + 63) / 64) 0, ?_, ⟨by simp, fun w hw => by rw [List.eq_of_mem_replicate hw]; omega⟩, fun j => ?_⟩
  · unfold F_marks_New
    have a1 : ¬ ((n : Int) < 0) := by omega
    have a2 : ¬ ((n : Int) > 65536) := by omega
    have e1 : w64 ((n : Int) + 64) = ((n + 64 : Nat) : Int) := by rw [w64, wrap64] <;> omega
    have e2 : w64 (((n + 64 : Nat) : Int) - 1) = ((n + 63 : Nat) : Int) := by rw [w64, wrap64] <;> omega
    have e3 : w64 (((n + 63 : Nat) : Int).tdiv 64) = (((n + 63) / 64 : Nat) : Int) := by
      have : ((n + 63 : Nat) : Int).tdiv 64 = (((n + 63) / 64 : Nat) : Int) := by rw [Int.tdiv_eq_ediv_of_nonneg (by omega)]; omega
      rw [this, w64, wrap64] <;> omega
    simp only [decide_eq_false a1, decide_eq_false a2, bind, Option.bind_some, Bool.false_eq_true, if_false, e1, e2, e3]
    rw [mk_eq (by omega)]
    rfl
  · simp [has, List.getD, List.getElem?_replicate]
    split <;> simp
theorem at_spec {N n i : Nat} {m : List Int} (hi : i < 9223372036854775808) : F_marks_Marks_at N m (n : Int) (i : Int) = some (((i / 64 : Nat) : Int), ((2 ^ (i % 64) : Nat) : Int), decide (i < n)) := by
  unfold F_marks_Marks_at
  have e0 : IntKind.wrap .u64 (i : Int) = i := by rw [wrapU64] <;> omega
  have e1 : (i : Int).tmod 64 = ((i % 64 : Nat) : Int) := by rw [Int.tmod_eq_emod_of_nonneg (by omega)]; omega
  have e2 : w64 ((i : Int).tdiv 64) = ((i / 64 : Nat) : Int) := by
    have : (i : Int).tdiv 64 = ((i / 64 : Nat) : Int) := by rw [Int.tdiv_eq_ediv_of_nonneg (by omega)]; omega
    rw [this, w64, wrap64] <;> omega
  have e3 : nn ((i % 64 : Nat) : Int) = some () := by simp [nn]; omega
  have e4 : (i : Int) ≥ 0 := by omega
  rw [e0, e1, e2, shl_one (by omega), e3]
  simp [e4, F_marks_Marks_Size]
theorem put_spec {N n i : Nat} {m : List Int} (hm : MkR n m) (hi : i < n) (hn : n ≤ 65536) :
    ∃ m', F_marks_Marks_Put N m (n : Int) (i : Int) = some (m', !has m i) ∧ MkR n m' ∧ (∀ j, has m' j = (has m j || j == i)) ∧ m' = if has m i then m else m.set (i / 64) (((m.getD (i / 64) 0).toNat ||| 2 ^ (i % 64) : Nat) : Int) := by
  have hl : i / 64 < m.length := by rw [hm.len]; omega
  have hw := hm.rng _ (List.getElem_mem hl)
  have hp : (2 : Nat) ^ (i % 64) < 18446744073709551616 := by
    have h1 : (2 : Nat) ^ (i % 64) ≤ 2 ^ 63 := Nat.pow_le_pow_right (by omega) (by omega)
    have h2 : (2 : Nat) ^ 63 = 9223372036854775808 := by decide
    omega
  obtain ⟨a, ha⟩ : ∃ a : Nat, m[i / 64] = (a : Int) := ⟨m[i / 64].toNat, by omega⟩
  have hx : m[i / 64]? = some (a : Int) := by rw [List.getElem?_eq_getElem hl, ha]
  have ha' : a < 18446744073709551616 := by omega
  have hh : has m i = a.testBit (i % 64) := by simp [has, List.getD, hx]
  unfold F_marks_Marks_Put
  rw [at_spec (by omega)]
  simp only [bind, Option.bind_some, decide_eq_true hi, Bool.not_true, Bool.false_eq_true, if_false, idx_of hx, iand_u64 ha' hp, ior_u64 ha' hp]
  have hand : (a &&& 2 ^ (i % 64) = 0) ↔ a.testBit (i % 64) = false := by
    constructor
    · intro h
      have := congrArg (·.testBit (i % 64)) h
      simpa [Nat.testBit_and, Nat.testBit_two_pow_self] using this
    · intro h
      apply Nat.eq_of_testBit_eq
      intro j
      rw [Nat.testBit_and, Nat.testBit_two_pow]
      by_cases hj : i % 64 = j
      · subst hj; simp [h]
      · simp [hj]
  by_cases hb : a.testBit (i % 64) = true
  · have h1 : ¬ (a &&& 2 ^ (i % 64) = 0) := fun h => by rw [hand.1 h] at hb; cases hb
    have h2 : (((a &&& 2 ^ (i % 64) : Nat) : Int) != 0) = true := by simp; omega
    refine ⟨m, by rw [h2, hh, hb]; rfl, hm, fun j => ?_, by rw [hh, hb]; rfl⟩
    by_cases hj : j = i
    · subst hj; simp [hh, hb]
    · simp [hj]
  · have hb : a.testBit (i % 64) = false := by simpa using hb
    have h2 : (((a &&& 2 ^ (i % 64) : Nat) : Int) != 0) = false := by rw [hand.2 hb]; rfl
    refine ⟨m.set (i / 64) ((a ||| 2 ^ (i % 64) : Nat) : Int), by rw [h2, hh, hb]; simp only [Bool.false_eq_true, if_false]; rw [setI_nat hl]; rfl, ⟨by simp [hm.len], fun w hw' => ?_⟩, fun j => ?_, ?_⟩
    rotate_right
    · rw [hh, hb, List.getD, hx]; rfl
    · rcases List.mem_or_eq_of_mem_set hw' with h | rfl
      · exact hm.rng w h
      · have := Nat.or_lt_two_pow (n := 64) ha' hp
        omega
    · by_cases hq : j / 64 = i / 64
      · have e1 : has m j = a.testBit (j % 64) := by simp [has, hq, List.getD, hx]
        have e2 : has (m.set (i / 64) ((a ||| 2 ^ (i % 64) : Nat) : Int)) j = (a ||| 2 ^ (i % 64)).testBit (j % 64) := by
          simp [has, hq, List.getD, List.getElem?_set_self hl]
        rw [e1, e2, Nat.testBit_or, Nat.testBit_two_pow]
        congr 1
        by_cases hj : j = i
        · simp [hj]
        · have : ¬ (i % 64 = j % 64) := by omega
          simp [hj, this]
      · have hj : ¬ j = i := fun h => hq (by rw [h])
        have hq' : ¬ (i / 64 = j / 64) := fun h => hq h.symm
        simp [has, List.getD, hq', hj]
end Go.Proofs.YtealkahefalaeaaGreatDoor
namespace Go.Proofs.YtealkahefalaeaaGreatDoor
open Go Go.Eng
theorem shr_u64 {a : Nat} {k : Nat} (hk : k < 64) : shrI .u64 (a : Int) (k : Int) = ((a / 2 ^ k : Nat) : Int) := by
  simp only [shrI, IntKind.bits, Int.toNat_natCast, Nat.min_eq_left (show k ≤ 64 by omega)]
  rw [Int.fdiv_eq_ediv_of_nonneg _ (Int.le_of_lt (Int.pow_pos (by decide)))]
  push_cast
  rfl
theorem wrapN {a : Nat} (h : a < 18446744073709551616) : IntKind.wrap .u64 (a : Int) = (a : Int) := by rw [wrapU64] <;> omega
theorem has_spec {N n i : Nat} {m : List Int} (hm : MkR n m) (hi : i < n) (hn : n ≤ 65536) : F_marks_Marks_Has N m (n : Int) (i : Int) = some (has m i) := by
  have hl : i / 64 < m.length := by rw [hm.len]; omega
  have hw := hm.rng _ (List.getElem_mem hl)
  have hp : (2 : Nat) ^ (i % 64) < 18446744073709551616 := by
    have h1 : (2 : Nat) ^ (i % 64) ≤ 2 ^ 63 := Nat.pow_le_pow_right (by omega) (by omega)
    have h2 : (2 : Nat) ^ 63 = 9223372036854775808 := by decide
    omega
  obtain ⟨a, ha⟩ : ∃ a : Nat, m[i / 64] = (a : Int) := ⟨m[i / 64].toNat, by omega⟩
  have hx : m[i / 64]? = some (a : Int) := by rw [List.getElem?_eq_getElem hl, ha]
  have ha' : a < 18446744073709551616 := by omega
  have hh : has m i = a.testBit (i % 64) := by simp [has, List.getD, hx]
  have hand : (a &&& 2 ^ (i % 64) = 0) ↔ a.testBit (i % 64) = false := by
    constructor
    · intro h
      have := congrArg (·.testBit (i % 64)) h
      simpa [Nat.testBit_and, Nat.testBit_two_pow_self] using this
    · intro h
      apply Nat.eq_of_testBit_eq
      intro j
      rw [Nat.testBit_and, Nat.testBit_two_pow]
      by_cases hj : i % 64 = j
      · subst hj; simp [h]
      · simp [hj]
  unfold F_marks_Marks_Has
  rw [at_spec (by omega)]
  simp only [bind, Option.bind_some, decide_eq_true hi, if_true, idx_of hx, iand_u64 ha' hp, hh]
  by_cases hb : a.testBit (i % 64) = true
  · have h1 : ¬ (a &&& 2 ^ (i % 64) = 0) := fun h => by rw [hand.1 h] at hb; cases hb
    have h2 : (((a &&& 2 ^ (i % 64) : Nat) : Int) != 0) = true := by simp; omega
    rw [h2, hb]
  · have hb : a.testBit (i % 64) = false := by simpa using hb
    have h2 : (((a &&& 2 ^ (i % 64) : Nat) : Int) != 0) = false := by rw [hand.2 hb]; rfl
    rw [h2, hb]
theorem low_bit : ∀ {x : Nat}, x ≠ 0 → ∃ k, x.testBit k = true ∧ ∀ j, j < k → x.testBit j = false := by
  intro x hx
  obtain ⟨i, hi⟩ := Nat.exists_testBit_of_ne_zero hx
  induction i using Nat.strongRecOn with
  | ind i ih =>
    by_cases h : ∃ j, j < i ∧ x.testBit j = true
    · obtain ⟨j, hj, hb⟩ := h
      exact ih j hj hb
    · refine ⟨i, hi, fun j hj => ?_⟩
      cases hb : x.testBit j with
      | false => rfl
      | true => exact absurd ⟨j, hj, hb⟩ h
theorem low_shape {x k : Nat} (h1 : x.testBit k = true) (h2 : ∀ j, j < k → x.testBit j = false) : ∃ q, x = 2 ^ k * (2 * q + 1) := by
  have hm : x % 2 ^ k = 0 := by
    apply Nat.eq_of_testBit_eq
    intro j
    rw [Nat.testBit_mod_two_pow, Nat.zero_testBit]
    by_cases hj : j < k
    · simp [h2 j hj]
    · simp [hj]
  have ho : x / 2 ^ k % 2 = 1 := by
    rw [Nat.testBit_eq_decide_div_mod_eq] at h1
    simpa using h1
  refine ⟨x / 2 ^ k / 2, ?_⟩
  have e1 : 2 * (x / 2 ^ k / 2) + 1 = x / 2 ^ k := by omega
  rw [e1]
  have := Nat.div_add_mod x (2 ^ k)
  omega
theorem and_neg {x k : Nat} (hx : x < 18446744073709551616) (h1 : x.testBit k = true) (h2 : ∀ j, j < k → x.testBit j = false) : x &&& (18446744073709551616 - x) = 2 ^ k := by
  obtain ⟨q, hq⟩ := low_shape h1 h2
  have hp : 0 < 2 ^ k := Nat.pow_pos (by omega)
  have hpos : 0 < x := by rw [hq]; exact Nat.mul_pos hp (by omega)
  have hk : k < 64 := by
    apply Nat.lt_of_not_le
    intro h
    have := Nat.testBit_lt_two_pow (x := x) (i := k) (Nat.lt_of_lt_of_le hx (by
      have := Nat.pow_le_pow_right (n := 2) (by omega) h
      have e : (2 : Nat) ^ 64 = 18446744073709551616 := by decide
      omega))
    rw [this] at h1; cases h1
  have hy : x - 1 = 2 ^ k * (2 * q) + (2 ^ k - 1) := by
    rw [hq, Nat.mul_add, Nat.mul_one]; omega
  have hx' : x = 2 ^ k * (2 * q + 1) + 0 := by rw [hq]; rfl
  have e64 : (18446744073709551616 : Nat) - x = 2 ^ 64 - ((x - 1) + 1) := by
    have e : (2 : Nat) ^ 64 = 18446744073709551616 := by decide
    omega
  rw [e64]
  apply Nat.eq_of_testBit_eq
  intro i
  rw [Nat.testBit_and, Nat.testBit_two_pow_sub_succ (by have e : (2 : Nat) ^ 64 = 18446744073709551616 := by decide
                                                        omega), Nat.testBit_two_pow]
  by_cases hi : i < k
  · rw [h2 i hi]
    have : ¬ k = i := by omega
    simp [this]
  · have ey : (x - 1).testBit i = (2 * q).testBit (i - k) := by
      rw [hy, Nat.testBit_two_pow_mul_add _ (by omega), if_neg hi]
    have ex : x.testBit i = (2 * q + 1).testBit (i - k) := by
      rw [hx', Nat.testBit_two_pow_mul_add _ hp, if_neg hi]
    rw [ex, ey]
    by_cases hik : i = k
    · subst hik
      have : i < 64 := hk
      simp [this, Nat.testBit_zero]
    · obtain ⟨j, hj⟩ : ∃ j, i - k = j + 1 := ⟨i - k - 1, by omega⟩
      have hne : ¬ k = i := by omega
      rw [hj, Nat.testBit_succ, Nat.testBit_succ]
      have e1 : (2 * q + 1) / 2 = q := by omega
      have e2 : 2 * q / 2 = q := by omega
      rw [e1, e2]
      have h64 : q.testBit j = true → i < 64 := fun h => by
        apply Nat.lt_of_not_le
        intro hge
        have e : (2 : Nat) ^ 64 = 18446744073709551616 := by decide
        have hxi := Nat.testBit_lt_two_pow (x := x) (i := i) (Nat.lt_of_lt_of_le hx (by
          have := Nat.pow_le_pow_right (n := 2) (by omega) hge
          omega))
        rw [ex, hj, Nat.testBit_succ, e1, h] at hxi
        cases hxi
      cases hq : q.testBit j with
      | false => simp [hne]
      | true => simp [hne, h64 hq]
theorem tab_all : ∀ k : Fin 64, tab_math_bits_deBruijn64tab[(2 ^ k.val * 285870213051353865 % 18446744073709551616) / 288230376151711744]? = some (k.val : Int) := by decide +kernel
theorem tz_spec {N x k : Nat} (hx : x < 18446744073709551616) (h1 : x.testBit k = true) (h2 : ∀ j, j < k → x.testBit j = false) (hk : k < 64) : F_math_bits_TrailingZeros64 N (x : Int) = some (k : Int) := by
  have h0 : x ≠ 0 := fun h => by rw [h] at h1; simp at h1
  have hn : (((x : Int)) == 0) = false := by simp; exact h0
  have e1 : IntKind.wrap .u64 (0 - (x : Int)) = ((18446744073709551616 - x : Nat) : Int) := by
    simp only [IntKind.wrap, IntKind.signed, IntKind.bits]
    simp
    omega
  have hp : (2 : Nat) ^ k ≤ 2 ^ 63 := Nat.pow_le_pow_right (by omega) (by omega)
  have e2 : IntKind.wrap .u64 (((2 ^ k : Nat) : Int) * 285870213051353865) = ((2 ^ k * 285870213051353865 % 18446744073709551616 : Nat) : Int) := by
    simp only [IntKind.wrap, IntKind.signed, IntKind.bits]
    simp
  unfold F_math_bits_TrailingZeros64
  rw [hn]
  simp only [Bool.false_eq_true, if_false, e1]
  rw [iand_u64 hx (by omega), and_neg hx h1 h2, e2]
  have e3 := shr_u64 (a := 2 ^ k * 285870213051353865 % 18446744073709551616) (k := 58) (by omega)
  rw [show ((58 : Nat) : Int) = 58 from rfl] at e3
  simp only [Nat.reducePow] at e3
  rw [e3]
  have e4 := tab_all ⟨k, hk⟩
  simp only at e4
  simp only [idx_of e4, bind, Option.bind_some]
  rw [wrap64 (by omega) (by omega)]
theorem has_big {j : Nat} {m : List Int} (h : m.length ≤ j / 64) : has m j = false := by
  unfold has
  rw [List.getD, List.getElem?_eq_none h]; simp
theorem after_spec {N n : Nat} {i : Int} {m : List Int} (hN : 4294967296 ≤ N) (hm : MkR n m) (hn : n ≤ 65536) (h1 : -1 ≤ i) (h2 : i < n) :
    ∃ r, F_marks_Marks_After N m (n : Int) i = some r ∧ ((r = -1 ∧ ∀ j : Nat, i < (j : Int) → has m j = false) ∨ ∃ j : Nat, r = (j : Int) ∧ i < (j : Int) ∧ has m j = true ∧ ∀ j' : Nat, i < (j' : Int) → j' < j → has m j' = false) := by
  obtain ⟨p, hp⟩ : ∃ p : Nat, i + 1 = (p : Int) := ⟨(i + 1).toNat, by omega⟩
  have e1 : w64 (imax i (-1) + 1) = (p : Int) := by
    have : imax i (-1) = i := by
      unfold imax
      by_cases h : -1 > i
      · omega
      · rw [if_neg h]
    rw [this, hp, w64, wrap64] <;> omega
  have e2 : w64 ((p : Int).tdiv 64) = ((p / 64 : Nat) : Int) := by
    have : (p : Int).tdiv 64 = ((p / 64 : Nat) : Int) := by rw [Int.tdiv_eq_ediv_of_nonneg (by omega)]; omega
    rw [this, w64, wrap64] <;> omega
  have e3 : w64 ((p : Int).tmod 64) = ((p % 64 : Nat) : Int) ∧ (p : Int).tmod 64 = ((p % 64 : Nat) : Int) := by
    have : (p : Int).tmod 64 = ((p % 64 : Nat) : Int) := by rw [Int.tmod_eq_emod_of_nonneg (by omega)]; omega
    refine ⟨?_, this⟩
    rw [this, w64, wrap64] <;> omega
  have hml : m.length ≤ 1024 := by rw [hm.len]; omega
  unfold F_marks_Marks_After
  have hlt : ¬ i ≥ (n : Int) := by omega
  simp only [F_marks_Marks_Size, bind, Option.bind_some, decide_eq_false hlt, Bool.false_eq_true, if_false, e1, e2]
  obtain ⟨r, hr, hq⟩ := iterO_while (f := fun s => F_marks_Marks_After_l0 N m (n : Int) i s) (fun s => ∃ k : Nat, s = (k : Int) ∧ p / 64 ≤ k ∧ k ≤ m.length + p / 64 ∧ ∀ j' : Nat, p ≤ j' → j' < 64 * k → has m j' = false)
    (fun s => m.length + p / 64 - s.toNat) (fun (r : Unit ⊕ Int) => match r with
      | .inl _ => ∀ j : Nat, i < (j : Int) → has m j = false
      | .inr z => ∃ j : Nat, z = (j : Int) ∧ i < (j : Int) ∧ has m j = true ∧ ∀ j' : Nat, i < (j' : Int) → j' < j → has m j' = false) (fun s hI => by
      obtain ⟨k, rfl, hk1, hk2, hk3⟩ := hI
      unfold F_marks_Marks_After_l0
      simp only [F_marks_Marks_own, bind, Option.bind_some, e1, e2]
      by_cases hkl : k < m.length
      · have hw := hm.rng _ (List.getElem_mem hkl)
        obtain ⟨a, ha⟩ : ∃ a : Nat, m[k] = (a : Int) := ⟨m[k].toNat, by omega⟩
        have hx : m[k]? = some (a : Int) := by rw [List.getElem?_eq_getElem hkl, ha]
        have ha' : a < 18446744073709551616 := by omega
        have hhas : ∀ c, c < 64 → has m (64 * k + c) = a.testBit c := fun c hc => by
          have q1 : (64 * k + c) / 64 = k := by omega
          have q2 : (64 * k + c) % 64 = c := by omega
          simp [has, q1, q2, List.getD, hx]
        -- the word, its lower bits struck in the first one
        obtain ⟨b, hb, hb2, hbt⟩ : ∃ b : Nat, (if ((k : Int) == ((p / 64 : Nat) : Int)) = true then (nn ((p : Int).tmod 64) >>= fun _ => nn ((p : Int).tmod 64) >>= fun _ => some (shlI .u64 (shrI .u64 (a : Int) ((p : Int).tmod 64)) ((p : Int).tmod 64))) else some (a : Int)) = some (b : Int) ∧ b < 18446744073709551616 ∧
            ∀ c, c < 64 → b.testBit c = (decide (p ≤ 64 * k + c) && a.testBit c) := by
          by_cases hk0 : k = p / 64
          · have q : ((k : Int) == ((p / 64 : Nat) : Int)) = true := by simp [hk0]
            have hnn : nn ((p % 64 : Nat) : Int) = some () := by unfold nn; rw [if_pos (by omega)]
            have hle : a / 2 ^ (p % 64) * 2 ^ (p % 64) ≤ a := Nat.div_mul_le_self _ _
            refine ⟨a / 2 ^ (p % 64) * 2 ^ (p % 64), ?_, by omega, fun c hc => ?_⟩
            · rw [if_pos q, e3.2, hnn, shr_u64 (by omega)]
              simp only [bind, Option.bind_some, shlI, IntKind.bits, Int.toNat_natCast, Nat.min_eq_left (show p % 64 ≤ 64 by omega)]
              have e4 : (((a / 2 ^ (p % 64) : Nat) : Int) * 2 ^ (p % 64)) = ((a / 2 ^ (p % 64) * 2 ^ (p % 64) : Nat) : Int) := by push_cast; rfl
              rw [e4, wrapN (by omega)]
            · rw [Nat.testBit_mul_two_pow, Nat.testBit_div_two_pow]
              by_cases hc2 : p % 64 ≤ c
              · have q3 : p % 64 + (c - p % 64) = c := by omega
                have q4 : p ≤ 64 * k + c := by omega
                rw [show c - p % 64 + p % 64 = c by omega]
                simp [hc2, q4]
              · have q4 : ¬ p ≤ 64 * k + c := by omega
                simp [hc2, q4]
          · have q : ((k : Int) == ((p / 64 : Nat) : Int)) = false := by simp; omega
            refine ⟨a, by rw [q]; rfl, ha', fun c hc => ?_⟩
            have q4 : p ≤ 64 * k + c := by omega
            simp [q4]
        simp only [show ((k : Int) < (m.length : Int)) by omega, decide_true, if_true, idx_of hx, Option.bind_some]
        simp only [bind] at hb
        rw [hb]
        simp only [Option.bind_some]
        by_cases hb0 : b = 0
        · left
          subst hb0
          refine ⟨((k + 1 : Nat) : Int), ?_, ⟨k + 1, rfl, by omega, by omega, fun j' h3 h4 => ?_⟩, by simp; omega⟩
          · simp only [show ((((0 : Nat) : Int)) != 0) = false from rfl, Bool.false_eq_true, if_false, Option.bind_some]
            rw [w64_succ (by omega)]
          · by_cases hj : j' < 64 * k
            · exact hk3 j' h3 hj
            · obtain ⟨c, rfl⟩ : ∃ c, j' = 64 * k + c := ⟨j' - 64 * k, by omega⟩
              have := hbt c (by omega)
              rw [Nat.zero_testBit] at this
              rw [hhas c (by omega)]
              have q4 : decide (p ≤ 64 * k + c) = true := by simp; omega
              rw [q4] at this
              simpa using this.symm
        · right
          obtain ⟨c, hc1, hc2⟩ := low_bit hb0
          have hc : c < 64 := by
            apply Nat.lt_of_not_le
            intro h
            have := Nat.testBit_lt_two_pow (x := b) (i := c) (Nat.lt_of_lt_of_le hb2 (by
              have := Nat.pow_le_pow_right (n := 2) (by omega) h
              have e : (2 : Nat) ^ 64 = 18446744073709551616 := by decide
              omega))
            rw [this] at hc1; cases hc1
          have hbc := hbt c hc
          rw [hc1] at hbc
          have hbc' := (Bool.and_eq_true _ _).mp hbc.symm
          have hpc : p ≤ 64 * k + c := by simpa using hbc'.1
          refine ⟨.inr (((64 * k + c : Nat)) : Int), ?_, 64 * k + c, rfl, by omega, by rw [hhas c hc]; exact hbc'.2, fun j' h3 h4 => ?_⟩
          · have q5 : (((b : Nat) : Int) != 0) = true := by simp; omega
            have e5 : w64 (64 * (k : Int)) = ((64 * k : Nat) : Int) := by rw [w64, wrap64] <;> omega
            have e6 : w64 (((64 * k : Nat) : Int) + (c : Int)) = ((64 * k + c : Nat) : Int) := by rw [w64, wrap64] <;> omega
            simp only [q5, if_true, tz_spec (N := N) hb2 hc1 hc2 hc, Option.bind_some, e5, e6]
          · by_cases hj : j' < 64 * k
            · exact hk3 j' (by omega) hj
            · obtain ⟨c', rfl⟩ : ∃ c', j' = 64 * k + c' := ⟨j' - 64 * k, by omega⟩
              have := hbt c' (by omega)
              rw [hc2 c' (by omega)] at this
              rw [hhas c' (by omega)]
              have q4 : decide (p ≤ 64 * k + c') = true := by simp; omega
              rw [q4] at this
              simpa using this.symm
      · right
        refine ⟨.inl (), by simp [show ¬ ((k : Int) < (m.length : Int)) by omega], fun j hj => ?_⟩
        by_cases hj2 : j < 64 * k
        · exact hk3 j (by omega) hj2
        · exact has_big (by omega))
    (N := N) (s := ((p / 64 : Nat) : Int)) ⟨p / 64, rfl, by omega, by omega, fun j' h3 h4 => by omega⟩ (by simp; omega)
  rw [hr]
  cases r with
  | inl u => exact ⟨-1, rfl, .inl ⟨rfl, hq⟩⟩
  | inr z => exact ⟨z, rfl, .inr hq⟩
/-- the marked numbers below n -/
def lst (f : Nat → Bool) (n : Nat) : List Int := ((List.range n).filter f).map fun (j : Nat) => (j : Int)
theorem lst_succ (f : Nat → Bool) (n : Nat) : lst f (n + 1) = if f n then lst f n ++ [(n : Int)] else lst f n := by
  unfold lst
  rw [List.range_succ, List.filter_append, List.map_append]
  cases hf : f n <;> simp [hf]
theorem lst_len (f : Nat → Bool) (n : Nat) : (lst f n).length ≤ n := by
  unfold lst
  rw [List.length_map]
  have := List.length_filter_le f (List.range n)
  simpa using this
theorem lst_gap {f : Nat → Bool} {a : Nat} (ha : f a = true) : ∀ {b : Nat}, a < b → (∀ c, a < c → c < b → f c = false) → lst f b = lst f a ++ [(a : Int)]
  | 0, h, _ => by omega
  | b + 1, h, hg => by
    rw [lst_succ]
    by_cases hb : b = a
    · subst hb; simp [ha]
    · rw [hg b (by omega) (by omega)]
      simp only [Bool.false_eq_true, if_false]
      exact lst_gap ha (by omega) fun c h1 h2 => hg c h1 (by omega)
theorem lst_none {f : Nat → Bool} : ∀ {n : Nat}, (∀ c, c < n → f c = false) → lst f n = []
  | 0, _ => rfl
  | n + 1, h => by rw [lst_succ, h n (by omega)]; simpa using lst_none fun c hc => h c (by omega)
theorem lst_first {f : Nat → Bool} {a : Nat} (h : ∀ c, c < a → f c = false) : lst f a = [] := lst_none h
theorem lst_congr {f g : Nat → Bool} : ∀ {n : Nat}, (∀ c, c < n → f c = g c) → lst f n = lst g n
  | 0, _ => rfl
  | n + 1, h => by rw [lst_succ, lst_succ, h n (by omega), lst_congr fun c hc => h c (by omega)]
theorem list_spec {N n : Nat} {m : List Int} (hN : 4294967296 ≤ N) (hm : MkR n m) (hn : n ≤ 65536) (h0 : 0 < n) (hb : ∀ j, n ≤ j → has m j = false) : F_marks_Marks_List N m (n : Int) = some (lst (has m) n) := by
  unfold F_marks_Marks_List
  obtain ⟨r0, e0, q0⟩ := after_spec (i := -1) hN hm hn (by omega) (by omega)
  simp only [e0, bind, Option.bind_some]
  obtain ⟨r, hr, hq⟩ := iterO_while (f := fun s => F_marks_Marks_List_l0 N m (n : Int) s.1 s.2) (fun s => (s.2 = -1 ∧ s.1 = lst (has m) n) ∨ ∃ j : Nat, s.2 = (j : Int) ∧ j < n ∧ has m j = true ∧ s.1 = lst (has m) j)
    (fun s => if s.2 < 0 then 0 else n - s.2.toNat) (fun r => r = lst (has m) n) (fun s hI => by
      obtain ⟨out, cur⟩ := s
      simp only at hI ⊢
      unfold F_marks_Marks_List_l0
      rcases hI with ⟨rfl, rfl⟩ | ⟨j, rfl, hj, hhj, rfl⟩
      · right
        exact ⟨_, by simp, rfl⟩
      · left
        have hlen := lst_len (has m) j
        obtain ⟨r, e1, q1⟩ := after_spec (i := (j : Int)) hN hm hn (by omega) (by omega)
        refine ⟨(lst (has m) j ++ [(j : Int)], r), ?_, ?_, ?_⟩
        · simp only [show ((j : Int) ≥ 0) by omega, decide_true, if_true, bind]
          rw [app_eq (by simp; omega)]
          simp only [Option.bind_some, e1]
        · rcases q1 with ⟨rfl, h2⟩ | ⟨j', rfl, h2, h3, h4⟩
          · exact .inl ⟨rfl, (lst_gap hhj hj fun c h5 h6 => h2 c (by omega)).symm⟩
          · have hjn : j' < n := by
              apply Nat.lt_of_not_le
              intro h
              rw [hb j' h] at h3; cases h3
            exact .inr ⟨j', rfl, hjn, h3, (lst_gap hhj (by omega) fun c h5 h6 => h4 c (by omega) h6).symm⟩
        · rcases q1 with ⟨rfl, h2⟩ | ⟨j', rfl, h2, h3, h4⟩
          · simp only [show ((-1 : Int) < 0) by decide, if_true, show ¬ ((j : Int) < 0) by omega, if_false]; omega
          · simp only [show ¬ ((j : Int) < 0) by omega, show ¬ ((j' : Int) < 0) by omega, if_false]; omega)
    (N := N) (s := ([], r0)) (by
      rcases q0 with ⟨rfl, h2⟩ | ⟨j', rfl, h2, h3, h4⟩
      · exact .inl ⟨rfl, (lst_none fun c hc => h2 c (by omega)).symm⟩
      · have hjn : j' < n := by
          apply Nat.lt_of_not_le
          intro h
          rw [hb j' h] at h3; cases h3
        exact .inr ⟨j', rfl, hjn, h3, (lst_first fun c hc => h4 c (by omega) hc).symm⟩) (by simp only; split <;> omega)
  rw [show iterO N (fun s => F_marks_Marks_List_l0 N m (n : Int) s.1 s.2) ([], r0) = _ from hr, hq]
  rfl
end Go.Proofs.YtealkahefalaeaaGreatDoor
namespace Go.Proofs.YtealkahefalaeaaGreatDoor
open Go Go.Eng
/-- a state: free steps, set, where to, rule -/
abbrev Stt := List Int × (Int × Int × Int × Int) × Int × Int
structure NRt (S : List Stt) (E : List Int) : Prop where
  n1 : 1 ≤ S.length
  n2 : S.length ≤ 4000
  e1 : 1 ≤ E.length
  e2 : E.length ≤ 8
  ent : ∀ x ∈ E, 0 ≤ x ∧ x < (S.length : Int)
  to : ∀ s ∈ S, -1 ≤ s.2.2.1 ∧ s.2.2.1 < (S.length : Int)
  set0 : ∀ s ∈ S, s.2.2.1 = -1 → s.2.1 = (0, 0, 0, 0)
  rul : ∀ s ∈ S, -1 ≤ s.2.2.2 ∧ s.2.2.2 ≤ 47
  free : ∀ s ∈ S, ∀ x ∈ s.1, 0 ≤ x ∧ x < (S.length : Int)
def outN (n x : Int) : Bool := decide (x < 0) || decide (x ≥ n)
def badS (n : Int) (s : Stt) : Bool :=
  (decide (s.2.2.1 < -1) || decide (s.2.2.1 ≥ n) || decide (s.2.2.2 < -1) || decide (s.2.2.2 > 47) || (s.2.2.1 == -1 && ([s.2.1.1, s.2.1.2.1, s.2.1.2.2.1, s.2.1.2.2.2] : List Int) != [0, 0, 0, 0])) || s.1.any (outN n)
def rtB (S : List Stt) (E : List Int) : Bool :=
  decide (1 ≤ S.length) && decide (S.length ≤ 4000) && decide (1 ≤ E.length) && decide (E.length ≤ 8) && !(E.any (outN S.length)) && !(S.any (badS S.length))
theorem outN_f {n x : Int} (h : outN n x = false) : 0 ≤ x ∧ x < n := by
  unfold outN at h
  simp at h; omega
theorem outN_of {n x : Int} (h : 0 ≤ x ∧ x < n) : outN n x = false := by
  unfold outN
  simp; omega
theorem rtB_iff (S : List Stt) (E : List Int) : rtB S E = true ↔ NRt S E := by
  unfold rtB
  simp only [Bool.and_eq_true, decide_eq_true_eq, Bool.not_eq_true', List.any_eq_false]
  constructor
  · rintro ⟨⟨⟨⟨⟨a1, a2⟩, a3⟩, a4⟩, a5⟩, a6⟩
    have h6 : ∀ s ∈ S, (-1 ≤ s.2.2.1 ∧ s.2.2.1 < (S.length : Int)) ∧ (-1 ≤ s.2.2.2 ∧ s.2.2.2 ≤ 47) ∧ (s.2.2.1 = -1 → s.2.1 = (0, 0, 0, 0)) ∧ ∀ x ∈ s.1, 0 ≤ x ∧ x < (S.length : Int) := by
      intro s hs
      have := a6 s hs
      unfold badS at this
      rw [Bool.not_eq_true, Bool.or_eq_false_iff, List.any_eq_false] at this
      obtain ⟨b1, b2⟩ := this
      simp only [Bool.or_eq_false_iff, decide_eq_false_iff_not] at b1
      obtain ⟨⟨⟨⟨c1, c2⟩, c3⟩, c4⟩, c5⟩ := b1
      refine ⟨by omega, by omega, fun h => ?_, fun x hx => outN_f (by simpa using b2 x hx)⟩
      rw [h] at c5
      obtain ⟨_, ⟨a, b, c, d⟩, _, _⟩ := s
      simpa using c5
    exact ⟨a1, a2, a3, a4, fun x hx => outN_f (by simpa using a5 x hx), fun s hs => (h6 s hs).1, fun s hs => (h6 s hs).2.2.1, fun s hs => (h6 s hs).2.1, fun s hs => (h6 s hs).2.2.2⟩
  · intro h
    refine ⟨⟨⟨⟨⟨h.n1, h.n2⟩, h.e1⟩, h.e2⟩, fun x hx => by rw [outN_of (h.ent x hx)]; simp⟩, fun s hs => ?_⟩
    have h1 := h.to s hs
    have h2 := h.rul s hs
    have h3 := h.set0 s hs
    have h4 : s.1.any (outN S.length) = false := by
      rw [List.any_eq_false]
      intro x hx
      rw [outN_of (h.free s hs x hx)]; simp
    unfold badS
    rw [h4]
    obtain ⟨_, ⟨a, b, c, d⟩, to, ru⟩ := s
    simp only at h1 h2 h3 ⊢
    have g1 : ¬ to < -1 := by omega
    have g2 : ¬ to ≥ (S.length : Int) := by omega
    have g3 : ¬ ru < -1 := by omega
    have g4 : ¬ ru > 47 := by omega
    by_cases g5 : to = -1
    · have := h3 g5
      simp only [Prod.mk.injEq] at this
      obtain ⟨rfl, rfl, rfl, rfl⟩ := this
      simp [g3, g4, g5]; omega
    · simp [g1, g2, g3, g4, g5]
section
variable {N : Nat} {S : List Stt} {E : List Int}
theorem nright1 (x n : Int) : F_nfa_Right_1 N x n = some (outN n x) := by
  unfold F_nfa_Right_1 outN
  by_cases h : x < 0 <;> simp [h]
theorem ncontains {xs : List Int} {n : Int} (hN : 4294967296 ≤ N) (hl : xs.length < 4294967296) : F_slices_ContainsFunc_int_int_2 N xs n = some (xs.any (outN n)) := by
  unfold F_slices_ContainsFunc_int_int_2 F_slices_IndexFunc_int_int_2
  rw [loop_find xs (outN n) (fun i => (i : Int)) (by omega) (fun i x hx => by
    have hi := lt_len hx
    unfold F_slices_IndexFunc_int_int_2_l0
    simp only [show ((i : Int) < (xs.length : Int)) by omega, decide_true, if_true, idx_of hx, nright1, bind, Option.bind_some]
    rw [w64_succ (by omega)]) (by unfold F_slices_IndexFunc_int_int_2_l0; simp)]
  cases h : xs.findIdx? (outN n) with
  | none =>
    have : xs.any (outN n) = false := List.any_eq_false.2 fun x hx => by rw [List.findIdx?_eq_none_iff.1 h x hx]; simp
    simp [this]
  | some k =>
    obtain ⟨hk, hp, _⟩ := List.findIdx?_eq_some_iff_getElem.1 h
    have : xs.any (outN n) = true := List.any_eq_true.2 ⟨_, List.getElem_mem hk, hp⟩
    rw [this]
    simp
/-- lists of a length that memory bears -/
structure NSz (S : List Stt) (E : List Int) : Prop where
  a : S.length < 4294967296
  b : E.length < 4294967296
  c : ∀ s ∈ S, s.1.length < 4294967296
theorem nfaRight_spec (hN : 4294967296 ≤ N) (hs : NSz S E) : F_nfa_Right N S E = some (rtB S E) := by
  unfold F_nfa_Right
  rw [loop_any S (badS S.length) false (by have := hs.a; omega) (fun i s hx => by
    have hi := lt_len hx
    have hc := hs.c s (List.mem_of_getElem? hx)
    have ha := hs.a
    obtain ⟨fr, ⟨a, b, c, d⟩, to, ru⟩ := s
    unfold F_nfa_Right_l0 badS
    simp only [show ((i : Int) < (S.length : Int)) by omega, decide_true, if_true, idx_of hx, nright1, F_sets_Set_Empty, ncontains hN hc, bind, Option.bind_some]
    rw [w64_succ (by omega)]
    generalize fr.any (outN S.length) = q
    by_cases g5 : to = -1
    · subst g5
      have e1 : outN (S.length : Int) (-1) = true := by unfold outN; simp
      have g2 : ¬ ((-1 : Int) ≥ (S.length : Int)) := by omega
      by_cases g6 : ([a, b, c, d] : List Int) = [0, 0, 0, 0]
      · have e6 : (([a, b, c, d] : List Int) == [0, 0, 0, 0]) = true := by rw [g6]; rfl
        have e7 : (([a, b, c, d] : List Int) != [0, 0, 0, 0]) = false := by rw [g6]; rfl
        cases q <;> by_cases g3 : ru < -1 <;> by_cases g4 : ru ≥ 48 <;> simp [e6, e7, g3, g4, g2, show (ru > 47) = (ru ≥ 48) from by simp; omega]
      · have e6 : (([a, b, c, d] : List Int) == [0, 0, 0, 0]) = false := by simpa using g6
        have e7 : (([a, b, c, d] : List Int) != [0, 0, 0, 0]) = true := by simpa using g6
        simp [e6, e7, e1]
    · have e5 : (to == -1) = false := by simpa using g5
      by_cases g7 : 0 ≤ to ∧ to < (S.length : Int)
      · have e1 := outN_of g7
        have g1 : ¬ to < -1 := by omega
        have g2 : ¬ to ≥ (S.length : Int) := by omega
        cases q <;> by_cases g3 : ru < -1 <;> by_cases g4 : ru ≥ 48 <;> simp [e5, e1, g1, g2, g3, g4, show (ru > 47) = (ru ≥ 48) from by simp; omega]
      · have e1 : outN (S.length : Int) to = true := by
          cases h : outN (S.length : Int) to with
          | true => rfl
          | false => exact absurd (outN_f h) g7
        have g1 : to < -1 ∨ to ≥ (S.length : Int) := by omega
        rcases g1 with g1 | g1 <;> simp [e5, e1, g1]) (by unfold F_nfa_Right_l0; simp)]
  unfold rtB
  cases hS : S.any (badS S.length) with
  | true => simp
  | false =>
    simp only [Bool.false_eq_true, if_false, bind, Option.bind_some, ncontains hN hs.b]
    by_cases a1 : 1 ≤ E.length
    · by_cases a2 : E.length ≤ 8
      · by_cases a3 : 1 ≤ S.length
        · by_cases a4 : S.length ≤ 4000
          · have b1 : (E.length : Int) ≥ 1 := by omega
            have b2 : (E.length : Int) ≤ 8 := by omega
            have b3 : (S.length : Int) ≥ 1 := by omega
            have b4 : (S.length : Int) ≤ 4000 := by omega
            simp [a1, a2, a3, a4, b1, b2, b3, b4]
          · have b1 : (E.length : Int) ≥ 1 := by omega
            have b2 : (E.length : Int) ≤ 8 := by omega
            have b3 : (S.length : Int) ≥ 1 := by omega
            have b4 : ¬ (S.length : Int) ≤ 4000 := by omega
            simp [a4, b1, b2, b3, b4]
        · have b1 : (E.length : Int) ≥ 1 := by omega
          have b2 : (E.length : Int) ≤ 8 := by omega
          have b3 : ¬ (S.length : Int) ≥ 1 := by omega
          simp [a3, b1, b2, b3]
      · have b1 : (E.length : Int) ≥ 1 := by omega
        have b2 : ¬ (E.length : Int) ≤ 8 := by omega
        simp [a2, b1, b2]
    · have b1 : ¬ (E.length : Int) ≥ 1 := by omega
      simp [a1, b1]
theorem nrefRight_spec (hN : 4294967296 ≤ N) (hs : NSz S E) : F_dofferref15_Right N S E = some (rtB S E) := by
  unfold F_dofferref15_Right rtB
  by_cases a1 : 1 ≤ S.length
  case neg =>
    have b1 : (S.length : Int) < 1 := by omega
    simp [a1, b1]
  have b1 : ¬ (S.length : Int) < 1 := by omega
  by_cases a2 : S.length ≤ 4000
  case neg =>
    have b2 : (S.length : Int) > 4000 := by omega
    simp [a2, b1, b2]
  have b2 : ¬ (S.length : Int) > 4000 := by omega
  by_cases a3 : 1 ≤ E.length
  case neg =>
    have b3 : (E.length : Int) < 1 := by omega
    simp [a3, b1, b2, b3]
  have b3 : ¬ (E.length : Int) < 1 := by omega
  by_cases a4 : E.length ≤ 8
  case neg =>
    have b4 : (E.length : Int) > 8 := by omega
    simp [a4, b1, b2, b3, b4]
  have b4 : ¬ (E.length : Int) > 8 := by omega
  simp only [b1, b2, b3, b4, decide_false, Bool.false_eq_true, if_false, bind, Option.bind_some, a1, a2, a3, a4, decide_true, Bool.true_and]
  rw [loop_any E (outN S.length) false (by omega) (fun i x hx => by
    have hi := lt_len hx
    unfold F_dofferref15_Right_l0
    simp only [show ((i : Int) < (E.length : Int)) by omega, decide_true, if_true, idx_of hx, bind, Option.bind_some]
    rw [w64_succ (by omega)]
    unfold outN
    by_cases c1 : x < 0 <;> simp [c1]) (by unfold F_dofferref15_Right_l0; simp)]
  cases hE : E.any (outN S.length) with
  | true => simp
  | false =>
    simp only [Bool.false_eq_true, if_false, Option.bind_some]
    rw [loop_any S (badS S.length) false (by omega) (fun i s hx => by
      have hi := lt_len hx
      have hc := hs.c s (List.mem_of_getElem? hx)
      unfold F_dofferref15_Right_l1
      simp only [show ((i : Int) < (S.length : Int)) by omega, decide_true, if_true, idx_of hx, bind, Option.bind_some]
      rw [loop_any s.1 (outN S.length) (τ := Int ⊕ (Unit ⊕ Bool)) (.inr (.inr false)) (by omega) (fun j y hy => by
        have hj := lt_len hy
        unfold F_dofferref15_Right_l2
        simp only [show ((j : Int) < (s.1.length : Int)) by omega, decide_true, if_true, idx_of hy, bind, Option.bind_some]
        rw [w64_succ (by omega)]
        unfold outN
        by_cases c1 : y < 0 <;> simp [c1]) (by unfold F_dofferref15_Right_l2; simp)]
      rw [w64_succ (by omega)]
      unfold badS
      by_cases c1 : s.2.2.1 < -1
      · simp [c1]
      by_cases c2 : s.2.2.1 ≥ (S.length : Int)
      · simp [c1, c2]
      by_cases c3 : s.2.2.2 < -1
      · simp [c1, c2, c3]
      by_cases c4 : s.2.2.2 > 47
      · simp [c1, c2, c3, c4]
      by_cases c5 : s.2.2.1 = -1
      · cases c6 : ([s.2.1.1, s.2.1.2.1, s.2.1.2.2.1, s.2.1.2.2.2] : List Int) != [0, 0, 0, 0] with
        | true => simp [c3, c4, c5, show ¬ ((S.length : Int) ≤ -1) by omega]
        | false => cases c7 : s.1.any (outN S.length) <;> simp [c3, c4, c5, c7, show ¬ ((S.length : Int) ≤ -1) by omega]
      · cases c7 : s.1.any (outN S.length) <;> simp [c1, c2, c3, c4, c5, c7]) (by unfold F_dofferref15_Right_l1; simp)]
    cases hS : S.any (badS S.length) <;> simp
end
end Go.Proofs.YtealkahefalaeaaGreatDoor
namespace Go.Proofs.YtealkahefalaeaaGreatDoor
open Go Go.Eng
section
variable {N : Nat} {S : List Stt} {E : List Int}
theorem of15_spec {m : Int} (hN : 4294967296 ≤ N) (hm : m < 4294967296) : ∃ p, F_dofferlaw15_Of N S E m = some p ∧ (p.2 = true → p.1 = S ∧ (S.length : Int) ≤ m ∧ (E.length : Int) ≤ 20 ∧ ∀ s ∈ S, s.1.length ≤ 100) := by
  unfold F_dofferlaw15_Of
  by_cases a1 : (E.length : Int) > 20
  · exact ⟨([], false), by simp [a1], by simp⟩
  by_cases a2 : (S.length : Int) > m
  · exact ⟨([], false), by simp [a1, a2], by simp⟩
  simp only [a1, a2, decide_false, Bool.false_eq_true, if_false, bind, Option.bind_some]
  obtain ⟨r, hr, hq⟩ := iterO_while (f := fun s : Int × List Stt => F_dofferlaw15_Of_l0 N S s.1 s.2) (fun s => ∃ i : Nat, i ≤ S.length ∧ s = ((i : Int), S.take i) ∧ ∀ t ∈ S.take i, t.1.length ≤ 100) (fun s => S.length - s.1.toNat)
    (fun r => match r with | .inl x => x = S ∧ ∀ t ∈ S, t.1.length ≤ 100 | .inr z => z.2 = false) (fun s hI => by
      obtain ⟨i, hi, rfl, hf⟩ := hI
      unfold F_dofferlaw15_Of_l0
      by_cases hil : i < S.length
      · have hx : S[i]? = some S[i] := List.getElem?_eq_getElem hil
        simp only [show ((i : Int) < (S.length : Int)) by omega, decide_true, if_true, idx_of hx, bind, Option.bind_some]
        by_cases b1 : (S[i].1.length : Int) > 100
        · right
          exact ⟨.inr (S.take i, false), by simp [b1], rfl⟩
        · left
          refine ⟨(((i + 1 : Nat) : Int), S.take (i + 1)), ?_, ⟨i + 1, by omega, rfl, fun t ht => ?_⟩, by simp; omega⟩
          · simp only [b1, decide_false, Bool.false_eq_true, if_false]
            rw [app_eq (by simp; omega), w64_succ (by omega), List.take_add_one, hx]
            rfl
          · rw [List.take_add_one, hx] at ht
            rcases List.mem_append.1 ht with ht | ht
            · exact hf t ht
            · simp at ht; subst ht; omega
      · right
        obtain rfl : i = S.length := by omega
        refine ⟨.inl S, by simp, rfl, fun t ht => hf t (by simpa using ht)⟩) (N := N) (s := (0, [])) ⟨0, by omega, by simp, by simp⟩ (by simp; omega)
  rw [hr]
  cases r with
  | inl x => exact ⟨(x, true), rfl, fun _ => ⟨hq.1, by omega, by omega, hq.2⟩⟩
  | inr z => exact ⟨z, rfl, fun h => by rw [hq] at h; cases h⟩
theorem at_neg {n : Nat} {i : Int} {m : List Int} (hi : i < 0) (hlo : -9223372036854775808 ≤ i) : ∃ a b, F_marks_Marks_at N m (n : Int) i = some (a, b, false) := by
  unfold F_marks_Marks_at
  have e0 : ∃ k : Nat, IntKind.wrap .u64 i = (k : Int) := by
    refine ⟨(IntKind.wrap .u64 i).toNat, ?_⟩
    simp only [IntKind.wrap, IntKind.signed, IntKind.bits]
    simp
    omega
  obtain ⟨k, hk⟩ := e0
  have e1 : (k : Int).tmod 64 = ((k % 64 : Nat) : Int) := by rw [Int.tmod_eq_emod_of_nonneg (by omega)]; omega
  have e3 : nn ((k % 64 : Nat) : Int) = some () := by simp [nn]; omega
  have e4 : ¬ i ≥ 0 := by omega
  rw [hk, e1, e3]
  exact ⟨w64 (i.tdiv 64), shlI .u64 1 ((k % 64 : Nat) : Int), by simp [e4]⟩
theorem put_any {n : Nat} {m : List Int} {x : Int} (hm : MkR n m) (hn : n ≤ 65536) (hx1 : -9223372036854775808 ≤ x ∧ x ≤ 9223372036854775807) : ∃ m' b, F_marks_Marks_Put N m (n : Int) x = some (m', b) ∧ MkR n m' ∧ ∀ j, has m' j = (has m j || (decide (x = (j : Int)) && decide (j < n))) := by
  by_cases h0 : x < 0
  · obtain ⟨a, b, e⟩ := at_neg (N := N) (n := n) (m := m) h0 hx1.1
    refine ⟨m, false, ?_, hm, fun j => ?_⟩
    · unfold F_marks_Marks_Put
      rw [e]; simp
    · have : ¬ x = (j : Int) := by omega
      simp [this]
  obtain ⟨i, rfl⟩ : ∃ i : Nat, x = (i : Int) := ⟨x.toNat, by omega⟩
  by_cases hi : i < n
  · obtain ⟨m', e1, e2, e3, _⟩ := put_spec (N := N) hm hi hn
    refine ⟨m', _, e1, e2, fun j => ?_⟩
    rw [e3]
    by_cases hj : j = i
    · subst hj; simp [hi]
    · have w1 : (j == i) = false := by simpa using hj
      have w2 : decide ((i : Int) = (j : Int)) = false := by simp; omega
      rw [w1, w2]; rfl
  · refine ⟨m, false, ?_, hm, fun j => ?_⟩
    · unfold F_marks_Marks_Put
      rw [at_spec (by omega)]
      simp [hi]
    · by_cases hj : i = j
      · subst hj; simp [hi]
      · have : ¬ ((i : Int) = (j : Int)) := by omega
        simp [this]
/-- how many are marked -/
def cn (f : Nat → Bool) : Nat → Nat
  | 0 => 0
  | n + 1 => cn f n + (if f n then 1 else 0)
theorem cn_le (f : Nat → Bool) : ∀ n, cn f n ≤ n
  | 0 => Nat.le_refl _
  | n + 1 => by have := cn_le f n; unfold cn; split <;> omega
theorem cn_congr {f g : Nat → Bool} : ∀ {n : Nat}, (∀ j, j < n → f j = g j) → cn f n = cn g n
  | 0, _ => rfl
  | n + 1, h => by unfold cn; rw [cn_congr fun j hj => h j (by omega), h n (by omega)]
theorem cn_put {f g : Nat → Bool} {i : Nat} (hi : f i = false) (hg : ∀ j, g j = (f j || j == i)) : ∀ {n : Nat}, i < n → cn g n = cn f n + 1
  | 0, h => by omega
  | n + 1, h => by
    unfold cn
    by_cases e : i = n
    · subst e
      rw [cn_congr (f := g) (g := f) (n := i) (fun j hj => by rw [hg]; have : ¬ j = i := by omega
                                                              simp [this]), hg, hi]
      simp
    · have e2 : ¬ n = i := fun q => e q.symm
      rw [cn_put hi hg (show i < n by omega), hg n]
      simp only [e2, beq_iff_eq, Bool.or_eq_true, or_false]
      omega
theorem mem_lst {f : Nat → Bool} {n : Nat} {x : Int} : x ∈ lst f n ↔ ∃ j : Nat, x = (j : Int) ∧ j < n ∧ f j = true := by
  unfold lst
  simp only [List.mem_map, List.mem_filter, List.mem_range]
  constructor
  · rintro ⟨j, ⟨h1, h2⟩, rfl⟩; exact ⟨j, rfl, h1, h2⟩
  · rintro ⟨j, rfl, h1, h2⟩; exact ⟨j, ⟨h1, h2⟩, rfl⟩
def frS (S : List Stt) (x : Int) : List Int := ((S[x.toNat]?).map (fun s => s.1)).getD []
inductive RchF (S : List Stt) (L : List Int) : Int → Prop
  | base {x : Int} : x ∈ L → RchF S L x
  | step {s y : Int} : RchF S L s → y ∈ frS S s → RchF S L y
theorem frS_rng (h : NRt S E) {x y : Int} (hy : y ∈ frS S x) : 0 ≤ y ∧ y < (S.length : Int) := by
  unfold frS at hy
  cases hx : S[x.toNat]? with
  | none => rw [hx] at hy; simp at hy
  | some s => rw [hx] at hy; exact h.free s (List.mem_of_getElem? hx) y (by simpa using hy)
theorem RchF.rng (h : NRt S E) {L : List Int} (hL : ∀ x ∈ L, 0 ≤ x ∧ x < (S.length : Int)) {x : Int} (hr : RchF S L x) : 0 ≤ x ∧ x < (S.length : Int) := by
  induction hr with
  | base hx => exact hL _ hx
  | step _ hy _ => exact frS_rng h hy
theorem RchF.mono {L L' : List Int} (hl : ∀ x ∈ L, RchF S L' x) {x : Int} (hr : RchF S L x) : RchF S L' x := by
  induction hr with
  | base hx => exact hl _ hx
  | step _ hy ih => exact .step ih hy
theorem last_idx {α : Type} {ws : List α} {x : α} (hl : ws.length < 4294967296) : idx (ws ++ [x]) (w64 (((ws ++ [x]).length : Int) - 1)) = some x ∧ slc (ws ++ [x]) 0 (w64 (((ws ++ [x]).length : Int) - 1)) = some ws := by
  have e : w64 (((ws ++ [x]).length : Int) - 1) = (ws.length : Int) := by
    rw [List.length_append, List.length_singleton, show (((ws.length + 1 : Nat) : Int) - 1) = (ws.length : Int) by omega, w64, wrap64 (by omega) (by omega)]
  rw [e]
  constructor
  · exact idx_of (by simp)
  · unfold slc
    rw [if_pos ⟨by omega, by omega, by simp; omega⟩]
    simp
theorem closed1_spec {L : List Int} (hN : 4294967296 ≤ N) (h : NRt S E) (hf : ∀ s ∈ S, s.1.length ≤ 100) (hL : ∀ x ∈ L, 0 ≤ x ∧ x < (S.length : Int)) (hl : L.length ≤ 1000000) :
    ∃ w m, F_walk_walker_closed_1 N S E L = some (w, m) ∧ MkR S.length m ∧ (∀ j, S.length ≤ j → has m j = false) ∧ ∀ j, j < S.length → (has m j = true ↔ RchF S L (j : Int)) := by
  have hn2 := h.n2
  obtain ⟨m0, e0, q0, q1⟩ := new_spec (N := N) (n := S.length) (by omega)
  unfold F_walk_walker_closed_1 F_walk_walker_none
  simp only [e0, bind, Option.bind_some]
  have hfr : ∀ x : Int, (frS S x).length ≤ 100 := fun x => by
    unfold frS
    cases hx : S[x.toNat]? with
    | none => simp
    | some s => simpa using hf s (List.mem_of_getElem? hx)
  obtain ⟨r, hr, hq1, hq2, hq3⟩ := iterO_while (f := fun s : List Int × List Int => F_walk_walker_closed_1_l0 N S s.1 s.2)
    (fun s => MkR S.length s.2 ∧ (∀ j, S.length ≤ j → has s.2 j = false) ∧ (∀ j, j < S.length → has s.2 j = true → RchF S L (j : Int)) ∧ (∀ x ∈ s.1, RchF S L x) ∧ (∀ x ∈ L, has s.2 x.toNat = true ∨ x ∈ s.1) ∧
      (∀ j, j < S.length → has s.2 j = true → ∀ y ∈ frS S (j : Int), has s.2 y.toNat = true ∨ y ∈ s.1) ∧ (S.length - cn (has s.2) S.length) * 101 + s.1.length ≤ S.length * 101 + L.length)
    (fun s => (S.length - cn (has s.2) S.length) * 101 + s.1.length) (fun r => MkR S.length r.2 ∧ (∀ j, S.length ≤ j → has r.2 j = false) ∧ ∀ j, j < S.length → (has r.2 j = true ↔ RchF S L (j : Int))) (fun s hI => by
      obtain ⟨work, m⟩ := s
      obtain ⟨k1, k2, k3, k4, k5, k6, k7⟩ := hI
      simp only at k1 k2 k3 k4 k5 k6 k7 ⊢
      rcases work.eq_nil_or_concat with rfl | ⟨ws, x, rfl⟩
      · right
        refine ⟨([], m), by unfold F_walk_walker_closed_1_l0; simp, k1, k2, fun j hj => ⟨k3 j hj, fun hr => ?_⟩⟩
        have key : ∀ x, RchF S L x → has m x.toNat = true := by
          intro x hx
          induction hx with
          | base hx => exact (k5 _ hx).elim id fun h => by simp at h
          | @step s y hs hy ih =>
            have hsr := hs.rng h hL
            obtain ⟨i, rfl⟩ : ∃ i : Nat, s = (i : Int) := ⟨s.toNat, by omega⟩
            exact (k6 i (by omega) (by simpa using ih) _ hy).elim id fun h => by simp at h
        simpa using key _ hr
      · left
        rw [List.concat_eq_append] at k4 k5 k6 k7 ⊢
        have hwl0 : ws.length ≤ 1404000 := by
          have : S.length * 101 ≤ 4000 * 101 := Nat.mul_le_mul_right _ hn2
          simp at k7; omega
        have hwl : ws.length < 4294967296 := by omega
        have hxr := (k4 x (by simp)).rng h hL
        obtain ⟨i, rfl⟩ : ∃ i : Nat, x = (i : Int) := ⟨x.toNat, by omega⟩
        have hin : i < S.length := by omega
        obtain ⟨m', e1, e2, e3, _⟩ := put_spec (N := N) k1 hin (by omega)
        obtain ⟨g1, g2⟩ := last_idx (x := (i : Int)) hwl
        have hpos : decide (((ws ++ [(i : Int)]).length : Int) > 0) = true := decide_eq_true (by simp)
        have hSi : S[i]? = some S[i] := List.getElem?_eq_getElem hin
        have hfi : frS S (i : Int) = S[i].1 := by unfold frS; rw [Int.toNat_natCast, hSi]; rfl
        by_cases hm : has m i = true
        · have hsame : ∀ j, has m' j = has m j := fun j => by
            rw [e3]
            by_cases hj : j = i
            · subst hj; simp [hm]
            · simp [hj]
          refine ⟨(ws, m'), ?_, ⟨e2, fun j hj => by rw [hsame]; exact k2 j hj, fun j hj hh => k3 j hj (by rwa [hsame] at hh), fun y hy => k4 y (by simp [hy]), fun y hy => ?_, fun j hj hh y hy => ?_, ?_⟩, ?_⟩
          · unfold F_walk_walker_closed_1_l0
            simp only [hpos, if_true, g1, g2, e1, hm, Bool.not_true, Bool.false_eq_true, if_false, bind, Option.bind_some]
          · rw [hsame]
            rcases k5 y hy with h1 | h1
            · exact .inl h1
            · rcases List.mem_append.1 h1 with h1 | h1
              · exact .inr h1
              · simp at h1; subst h1; exact .inl (by simpa using hm)
          · rw [hsame] at hh ⊢
            rcases k6 j hj hh y hy with h1 | h1
            · exact .inl h1
            · rcases List.mem_append.1 h1 with h1 | h1
              · exact .inr h1
              · simp at h1; subst h1; exact .inl (by simpa using hm)
          · rw [cn_congr fun j _ => hsame j]
            simp at k7 ⊢; omega
          · rw [cn_congr fun j _ => hsame j]
            simp
        · have hm : has m i = false := by simpa using hm
          have hcn := cn_put hm e3 hin
          have hcl := cn_le (has m') S.length
          have hlen := hfr (i : Int)
          refine ⟨(ws ++ frS S (i : Int), m'), ?_, ⟨e2, fun j hj => ?_, fun j hj hh => ?_, fun y hy => ?_, fun y hy => ?_, fun j hj hh y hy => ?_, ?_⟩, ?_⟩
          · unfold F_walk_walker_closed_1_l0
            simp only [hpos, if_true, g1, g2, e1, hm, Bool.not_false, bind, Option.bind_some, idx_of hSi]
            rw [app_eq (by rw [← hfi]; omega), hfi]
            rfl
          · rw [e3, k2 j hj]
            have : ¬ j = i := by omega
            simp [this]
          · rw [e3] at hh
            by_cases hji : j = i
            · subst hji; exact k4 _ (by simp)
            · exact k3 j hj (by simpa [hji] using hh)
          · rcases List.mem_append.1 hy with hy | hy
            · exact k4 y (by simp [hy])
            · exact .step (k4 _ (by simp)) hy
          · rw [e3]
            rcases k5 y hy with h1 | h1
            · exact .inl (by simp [h1])
            · rcases List.mem_append.1 h1 with h1 | h1
              · exact .inr (by simp [h1])
              · simp at h1; subst h1; exact .inl (by simp)
          · by_cases hji : j = i
            · subst hji; exact .inr (by simp [hy])
            · rw [e3] at hh ⊢
              rcases k6 j hj (by simpa [hji] using hh) y hy with h1 | h1
              · exact .inl (by simp [h1])
              · rcases List.mem_append.1 h1 with h1 | h1
                · exact .inr (by simp [h1])
                · simp at h1; subst h1; exact .inl (by simp)
          · rw [hcn] at hcl ⊢
            simp at k7 ⊢; omega
          · rw [hcn] at hcl ⊢
            simp; omega) (N := N) (s := (L, m0))
    ⟨q0, fun j _ => q1 j, fun j _ hh => (by rw [q1] at hh; cases hh), fun x hx => .base hx, fun x hx => .inr hx, fun j _ hh => (by rw [q1] at hh; cases hh), by
      have : cn (has m0) S.length = 0 := by
        have hz : ∀ n, cn (has m0) n = 0 := fun n => by
          induction n with
          | zero => rfl
          | succ n ih => unfold cn; rw [ih, q1]; simp
        exact hz _
      simp only [this]; omega⟩ (by
      have := Nat.mul_le_mul_right 101 (Nat.sub_le S.length (cn (has m0) S.length))
      have h2 : S.length * 101 ≤ 4000 * 101 := Nat.mul_le_mul_right _ hn2
      simp only; omega)
  rw [hr]
  exact ⟨r.1, r.2, rfl, hq1, hq2, hq3⟩
theorem closed_spec {b : Nat} {m : List Int} (hN : 4294967296 ≤ N) (hs : NSz S E) (h : NRt S E) (hf : ∀ s ∈ S, s.1.length ≤ 100) (hm : MkR b m) (hb0 : 0 < b) (hb : b ≤ 65536) (hh : ∀ j, b ≤ j → has m j = false) :
    ∃ m', F_walk_Closed N S E m (b : Int) = some (.inr m') ∧ MkR S.length m' ∧ (∀ j, S.length ≤ j → has m' j = false) ∧ ∀ j, j < S.length → (has m' j = true ↔ RchF S ((lst (has m) b).filter fun x => decide (x < (S.length : Int))) (j : Int)) := by
  have hlst := lst_len (has m) b
  unfold F_walk_Closed
  rw [nfaRight_spec hN hs, (rtB_iff S E).2 h, list_spec hN hm hb hb0 hh]
  simp only [bind, Option.bind_some, Bool.not_true, Bool.false_eq_true, if_false]
  have hloop := loop_fold (f := fun s => F_walk_Closed_l0 N S (lst (has m) b) s.1 s.2) (fun i (s : List Int) => ((i : Int), s)) id (lst (has m) b) (fun s x => if x < (S.length : Int) then s ++ [x] else s) (fun i s => s.length ≤ i) (N := N) (s := []) (by omega) (Nat.le_refl _)
    (fun i x s hx hI => ⟨by
      have hi := lt_len hx
      unfold F_walk_Closed_l0
      simp only [show ((i : Int) < ((lst (has m) b).length : Int)) by omega, decide_true, if_true, idx_of hx, bind, Option.bind_some]
      rw [w64_succ (by omega)]
      by_cases c : x < (S.length : Int)
      · rw [if_pos c, if_pos (decide_eq_true c), app_eq (by simp; omega)]; rfl
      · rw [if_neg c, if_neg (by simpa using c)]; rfl, by
      by_cases c : x < (S.length : Int)
      · rw [if_pos c]; simp; omega
      · rw [if_neg c]; omega⟩) (fun s _ => by unfold F_walk_Closed_l0; simp)
  have hfold : ∀ (l acc : List Int), l.foldl (fun s x => if x < (S.length : Int) then s ++ [x] else s) acc = acc ++ l.filter fun x => decide (x < (S.length : Int)) := by
    intro l
    induction l with
    | nil => simp
    | cons x l ih =>
      intro acc
      rw [List.foldl_cons, ih, List.filter_cons]
      by_cases c : x < (S.length : Int) <;> simp [c]
  rw [show iterO N (fun s => F_walk_Closed_l0 N S (lst (has m) b) s.1 s.2) (0, []) = _ from hloop, hfold, List.nil_append]
  simp only [id, Option.bind_some]
  have hLr : ∀ x ∈ (lst (has m) b).filter fun x => decide (x < (S.length : Int)), 0 ≤ x ∧ x < (S.length : Int) := by
    intro x hx
    rw [List.mem_filter] at hx
    obtain ⟨j, rfl, _, _⟩ := mem_lst.1 hx.1
    exact ⟨by omega, by simpa using hx.2⟩
  have hfl := List.length_filter_le (fun x => decide (x < (S.length : Int))) (lst (has m) b)
  obtain ⟨w, m', e1, e2, e3, e4⟩ := closed1_spec (L := (lst (has m) b).filter fun x => decide (x < (S.length : Int))) hN h hf hLr (by omega)
  rw [e1]
  exact ⟨m', rfl, e2, e3, e4⟩
end
end Go.Proofs.YtealkahefalaeaaGreatDoor
namespace Go.Proofs.YtealkahefalaeaaGreatDoor
open Go Go.Eng
theorem equalI_spec {N : Nat} {a b : List Int} (hN : 4294967296 ≤ N) (ha : a.length < 4294967296) : F_slices_Equal_int_int N a b = some (decide (a = b)) := by
  have h := sameInts_spec (N := N) (a := a) (b := b) hN ha
  unfold F_doffernum_SameInts at h
  unfold F_slices_Equal_int_int
  have e : (fun s => F_slices_Equal_int_int_l0 N a b s) = fun s => F_doffernum_SameInts_l0 N a b s := by
    funext s; rfl
  rw [e]
  exact h
end Go.Proofs.YtealkahefalaeaaGreatDoor
namespace Go.Proofs.YtealkahefalaeaaGreatDoor
open Go Go.Eng
section
variable {N : Nat} {S : List Stt} {E : List Int}
theorem lst_filter {m : List Int} : (lst (has m) S.length).filter (fun x => decide (x < (S.length : Int))) = lst (has m) S.length := by
  rw [List.filter_eq_self]
  intro x hx
  obtain ⟨j, rfl, hj, _⟩ := mem_lst.1 hx
  simp; omega
/-- .. of marks as many as the states -/
theorem closedS_spec {m : List Int} (hN : 4294967296 ≤ N) (hs : NSz S E) (h : NRt S E) (hf : ∀ s ∈ S, s.1.length ≤ 100) (hm : MkR S.length m) (hh : ∀ j, S.length ≤ j → has m j = false) :
    ∃ m', F_walk_Closed N S E m (S.length : Int) = some (.inr m') ∧ MkR S.length m' ∧ (∀ j, S.length ≤ j → has m' j = false) ∧ ∀ j, j < S.length → (has m' j = true ↔ RchF S (lst (has m) S.length) (j : Int)) := by
  have h1 := h.n1
  have h2 := h.n2
  have := closed_spec hN hs h hf hm (by omega) (by omega) hh
  rwa [lst_filter] at this
theorem lst_rng {m : List Int} {x : Int} (hx : x ∈ lst (has m) S.length) : 0 ≤ x ∧ x < (S.length : Int) := by
  obtain ⟨j, rfl, hj, _⟩ := mem_lst.1 hx
  omega
theorem same_spec15 {m m' : List Int} (hN : 4294967296 ≤ N) (hn : S.length ≤ 4000) (h0 : 1 ≤ S.length) (hm : MkR S.length m) (hm' : MkR S.length m') (hh : ∀ j, S.length ≤ j → has m j = false) (hh' : ∀ j, S.length ≤ j → has m' j = false) (he : ∀ j, j < S.length → has m j = has m' j) :
    F_marks_Marks_Same N m (S.length : Int) m' (S.length : Int) = some true := by
  unfold F_marks_Marks_Same
  have hl := lst_len (has m') S.length
  rw [list_spec hN hm (by omega) (by omega) hh, list_spec hN hm' (by omega) (by omega) hh', lst_congr he]
  simp only [bind, Option.bind_some, equalI_spec hN (show (lst (has m') S.length).length < 4294967296 by omega), decide_true]
theorem walkClosed_true {L : List Int} {more : Int} (hL : ∀ x ∈ L, -9223372036854775808 ≤ x ∧ x ≤ 9223372036854775807) (hmore : -9223372036854775808 ≤ more ∧ more ≤ 9223372036854775807) : ∃ N, F_dofferlaw16_WalkClosed N S E L more = some true := by
  refine ⟨4294967296, ?_⟩
  generalize hM : (4294967296 : Nat) = N
  have hN : 4294967296 ≤ N := by omega
  unfold F_dofferlaw16_WalkClosed
  obtain ⟨⟨p1, p2⟩, hof, hofp⟩ := of15_spec (S := S) (E := E) (m := 40) hN (by omega)
  rw [hof]
  simp only [bind, Option.bind_some]
  cases p2 with
  | false => simp
  | true =>
    obtain ⟨rfl, hn40, hE20, hf⟩ := hofp rfl
    by_cases hl : (L.length : Int) > 60
    · simp [hl]
    simp only at hn40
    have hs : NSz p1 E := ⟨by omega, by omega, fun s hs => by have := hf s hs; omega⟩
    simp only [hl, decide_false, Bool.not_true, Bool.false_eq_true, if_false, nrefRight_spec hN hs, Option.bind_some]
    cases hR : rtB p1 E with
    | false => simp
    | true =>
      have h := (rtB_iff p1 E).1 hR
      have hn1 := h.n1
      have hn2 := h.n2
      obtain ⟨m0, e0, q0, q1⟩ := new_spec (N := N) (n := p1.length) (by omega)
      simp only [Bool.not_true, Bool.false_eq_true, if_false, e0, Option.bind_some]
      obtain ⟨m1, e1, k1, k2⟩ := loop_inv (f := fun s => F_dofferlaw16_WalkClosed_l0 N p1 L s.1 s.2) (fun i (s : List Int) => ((i : Int), s)) id L (fun _ m => MkR p1.length m ∧ ∀ j, p1.length ≤ j → has m j = false) (N := N) (s := m0) (by omega) ⟨q0, fun j _ => q1 j⟩
        (fun i x m hx hI => by
          have hi := lt_len hx
          obtain ⟨m', b, g1, g2, g3⟩ := put_any (N := N) hI.1 (by omega) (hL x (List.mem_of_getElem? hx))
          refine ⟨m', ?_, g2, fun j hj => ?_⟩
          · unfold F_dofferlaw16_WalkClosed_l0
            simp only [show ((i : Int) < (L.length : Int)) by omega, decide_true, if_true, idx_of hx, g1, bind, Option.bind_some]
            rw [w64_succ (by omega)]
          · rw [g3, hI.2 j hj]
            have : ¬ j < p1.length := by omega
            simp [this])
        (fun s _ => by unfold F_dofferlaw16_WalkClosed_l0; simp)
      rw [show iterO N (fun s => F_dofferlaw16_WalkClosed_l0 N p1 L s.1 s.2) (0, m0) = _ from e1]
      simp only [id, Option.bind_some]
      obtain ⟨c, ec, c1, c2, c3⟩ := closedS_spec hN hs h hf k1 k2
      obtain ⟨a, ea, a1, a2, a3⟩ := closedS_spec hN hs h hf c1 c2
      simp only [ec, ea, Option.bind_some]
      have hcl : ∀ x, RchF p1 (lst (has c) p1.length) x → has c x.toNat = true := by
        intro x hx
        induction hx with
        | base hx => obtain ⟨j, rfl, hj, hh⟩ := mem_lst.1 hx; simpa using hh
        | @step s y hs' hy ih =>
          have hsr := hs'.rng h (fun x hx => lst_rng hx)
          have hyr := frS_rng h hy
          obtain ⟨i, rfl⟩ : ∃ i : Nat, s = (i : Int) := ⟨s.toNat, by omega⟩
          obtain ⟨k, rfl⟩ : ∃ k : Nat, y = (k : Int) := ⟨y.toNat, by omega⟩
          have h5 := (c3 i (by omega)).1 (by simpa using ih)
          simpa using (c3 k (by omega)).2 (.step h5 hy)
      have hsame : ∀ j, j < p1.length → has a j = has c j := fun j hj => by
        rw [Bool.eq_iff_iff, a3 j hj]
        exact ⟨fun hr => by simpa using hcl _ hr, fun hc => .base (mem_lst.2 ⟨j, rfl, hj, hc⟩)⟩
      rw [same_spec15 hN hn2 hn1 a1 c1 a2 c2 hsame, list_spec hN k1 (by omega) (by omega) k2]
      simp only [Option.bind_some, Bool.not_true, Bool.false_eq_true, if_false]
      have hl1 := lst_len (has m1) p1.length
      have hbase : ∀ x ∈ lst (has m1) p1.length, F_marks_Marks_Has N c (p1.length : Int) x = some true := by
        intro x hx
        obtain ⟨j, rfl, hj, hh⟩ := mem_lst.1 hx
        rw [has_spec c1 hj (by omega), (c3 j hj).2 (.base hx)]
      rw [loop_any (lst (has m1) p1.length) (fun _ => false) false (by omega) (fun i x hx => by
        have hi := lt_len hx
        unfold F_dofferlaw16_WalkClosed_l1
        simp only [show ((i : Int) < ((lst (has m1) p1.length).length : Int)) by omega, decide_true, if_true, idx_of hx, hbase x (List.mem_of_getElem? hx), bind, Option.bind_some, Bool.not_true, Bool.false_eq_true, if_false]
        rw [w64_succ (by omega)]) (by unfold F_dofferlaw16_WalkClosed_l1; simp)]
      have hnone : ∀ l : List Int, (l.any fun _ => false) = false := fun l => by simp
      rw [hnone]
      simp only [Bool.false_eq_true, if_false, Option.bind_some]
      obtain ⟨m2, b2, g1, g2, g3⟩ := put_any (N := N) k1 (by omega) hmore
      simp only [g1, Option.bind_some]
      have g4 : ∀ j, p1.length ≤ j → has m2 j = false := fun j hj => by
        rw [g3, k2 j hj]
        have : ¬ j < p1.length := by omega
        simp [this]
      obtain ⟨d, ed, d1, d2, d3⟩ := closedS_spec hN hs h hf g2 g4
      rw [ed, list_spec hN c1 (by omega) (by omega) c2]
      simp only [Option.bind_some]
      have hl2 := lst_len (has c) p1.length
      rw [loop_any (lst (has c) p1.length) (fun _ => false) false (by omega) (fun i x hx => by
        have hi := lt_len hx
        obtain ⟨j, rfl, hj, hh⟩ := mem_lst.1 (List.mem_of_getElem? hx)
        have hSj : p1[j]? = some p1[j] := List.getElem?_eq_getElem hj
        have hfj : frS p1 (j : Int) = p1[j].1 := by unfold frS; rw [Int.toNat_natCast, hSj]; rfl
        have hlen := hf _ (List.getElem_mem hj)
        have hrj := (c3 j hj).1 hh
        unfold F_dofferlaw16_WalkClosed_l4
        simp only [show ((i : Int) < ((lst (has c) p1.length).length : Int)) by omega, decide_true, if_true, idx_of hx, bind, Option.bind_some, show ¬ ((j : Int) < 0) by omega, show ¬ ((j : Int) ≥ (p1.length : Int)) by omega, decide_false, Bool.false_eq_true, if_false, idx_of hSj]
        rw [loop_any p1[j].1 (fun _ => false) (τ := Int ⊕ (Unit ⊕ Bool)) (.inr (.inr false)) (by omega) (fun k y hy => by
          have hk := lt_len hy
          have hyf : y ∈ frS p1 (j : Int) := by rw [hfj]; exact List.mem_of_getElem? hy
          have hyr := frS_rng h hyf
          obtain ⟨q, rfl⟩ : ∃ q : Nat, y = (q : Int) := ⟨y.toNat, by omega⟩
          unfold F_dofferlaw16_WalkClosed_l5
          simp only [show ((k : Int) < (p1[j].1.length : Int)) by omega, decide_true, if_true, idx_of hy, has_spec c1 (show q < p1.length by omega) (show p1.length ≤ 65536 by omega), (c3 q (by omega)).2 (.step hrj hyf), bind, Option.bind_some, Bool.not_true, Bool.false_eq_true, if_false]
          rw [w64_succ (by omega)]) (by unfold F_dofferlaw16_WalkClosed_l5; simp), hnone]
        have hdj : has d j = true := (d3 j hj).2 (RchF.mono (fun x hx => .base (by
          obtain ⟨q, rfl, hq, hhq⟩ := mem_lst.1 hx
          exact mem_lst.2 ⟨q, rfl, hq, by rw [g3, hhq]; rfl⟩)) hrj)
        simp only [Bool.false_eq_true, if_false, Option.bind_some, has_spec d1 hj (show p1.length ≤ 65536 by omega), hdj, Bool.not_true]
        rw [w64_succ (by omega)]) (by unfold F_dofferlaw16_WalkClosed_l4; simp), hnone]
      simp
end
end Go.Proofs.YtealkahefalaeaaGreatDoor
